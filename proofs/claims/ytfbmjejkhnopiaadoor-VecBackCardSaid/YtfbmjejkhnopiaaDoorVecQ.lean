/- The document's texts. -/
import Derived.Test.YtfbmjejkhnopiaaDoorVecP
namespace Go.Proofs.YtfbmjejkhnopiaaDoor
open Go.RowKit

set_option maxRecDepth 100000 in
theorem digits_any (n : Int) (w : World) (h0 : -9223372036854775808 ≤ n) (h1 : n ≤ 9223372036854775807) :
    Calls Tryd.prog 40 #[.int .i64 n] w fun e w' => e = .returned (.string (str (Lib.itoa n))) ∧ w = w' := by
  by_cases hn : n < 0
  · obtain ⟨u, hu⟩ : ∃ u : Nat, n = -(u : Int) := ⟨n.natAbs, by omega⟩
    subst hu
    have HE : Hid (Lib.itoa (-(u : Int)) = 45 :: Lib.decDigits u) := Lib.hid (Lib.itoa_neg u (by omega))
    have HL := dlen u (by omega)
    have HI := Lib.hid (minus_any u (by omega) w)
    obtain ⟨dq, hdq⟩ : ∃ dq, dq = Lib.decDigits u := ⟨_, rfl⟩
    rw [← hdq] at HI HL HE
    have hadd : ({ data := #[45] } : ByteArray) ++ str dq = str (45 :: dq) := by show str [45] ++ str dq = _; rw [str_append]; rfl
    have hz : ¬ 9223372036854775807 < ({ data := #[45] } : ByteArray).size + (str dq).size := by rw [str_size]; show ¬ 9223372036854775807 < 1 + dq.length; omega
    have hz' : ¬ 9223372036854775807 < 1 + (str dq).size := by rw [str_size]; omega
    clear hdq HL
    go_enter Tryd.func40, Tryd.ntmps40
    go_wp2_with fail
    refine HI.out.mono ?_
    rintro e w' ⟨rfl, rfl⟩
    go_wp2_with fail
    go_ret
    refine ⟨?_, rfl⟩
    show Ending.returned (Value.string (str (45 :: dq))) = _
    exact ret_s (by rw [HE.out])
  · obtain ⟨u, hu⟩ : ∃ u : Nat, n = (u : Int) := ⟨n.toNat, by omega⟩
    subst hu
    have HE : Hid (Lib.itoa (u : Int) = Lib.decDigits u) := Lib.hid (Lib.itoa_nonneg u)
    have HI := Lib.hid (minus_any u (by omega) w)
    have b1 : -9223372036854775808 ≤ -(u : Int) := by omega
    have b2 : -(u : Int) ≤ 9223372036854775807 := by omega
    go_enter Tryd.func40, Tryd.ntmps40
    go_wp2_with fail
    refine HI.out.mono ?_
    rintro e w' ⟨rfl, rfl⟩
    go_wp2_with fail
    go_ret
    refine ⟨?_, rfl⟩
    show Ending.returned (Value.string (str (Lib.decDigits u))) = _
    exact ret_s (by rw [HE.out])
theorem pt4 (d : Nat → Int) : pt d 4 = Lib.itoa (d 0) ++ [44] ++ Lib.itoa (d 1) ++ [44] ++ Lib.itoa (d 2) ++ [44] ++ Lib.itoa (d 3) := by
  simp [pt]
set_option maxRecDepth 100000 in
set_option maxHeartbeats 1000000 in
theorem rtext_any (d : Nat → Int) (w : World) (h : Fits64 d) :
    Calls Tryd.prog 25 #[.agg #[.int .i64 (d 0), .int .i64 (d 1), .int .i64 (d 2), .int .i64 (d 3)]] w fun e w' => e = .returned (.string (str (pt d 4))) ∧ Below w.heap.size w w' := by
  have HP := Lib.hid (pt4 d)
  obtain ⟨S, hS⟩ : ∃ S, S = w.heap.size := ⟨_, rfl⟩
  have HB := Lib.hid ((Below.refl w.heap.size w).alloc (Nat.le_refl _) (.cells #[.int .i64 (d 0), .int .i64 (d 1), .int .i64 (d 2), .int .i64 (d 3)] 23))
  have hv : VAt (w.alloc (.cells #[.int .i64 (d 0), .int .i64 (d 1), .int .i64 (d 2), .int .i64 (d 3)] 23)) S d := by rw [hS]; exact VAt.new w d
  have hc0 : (w.alloc (.cells #[.int .i64 (d 0), .int .i64 (d 1), .int .i64 (d 2), .int .i64 (d 3)] 23)).cell? ⟨S, 0, none⟩ = some (.int .i64 (d 0)) := hv.cell (by decide)
  have HI0 : Hid (∀ w, Calls Tryd.prog 40 #[.int .i64 (d 0)] w fun e w' => e = .returned (.string (str (Lib.itoa (d 0)))) ∧ w = w') := Lib.hid (fun w => digits_any (d 0) w (h 0 (by decide)).1 (h 0 (by decide)).2)
  have hl0 := Lib.itoa_length_le (d 0) (h 0 (by decide)).1 (h 0 (by decide)).2
  have hc1 : (w.alloc (.cells #[.int .i64 (d 0), .int .i64 (d 1), .int .i64 (d 2), .int .i64 (d 3)] 23)).cell? ⟨S, 1, none⟩ = some (.int .i64 (d 1)) := hv.cell (by decide)
  have HI1 : Hid (∀ w, Calls Tryd.prog 40 #[.int .i64 (d 1)] w fun e w' => e = .returned (.string (str (Lib.itoa (d 1)))) ∧ w = w') := Lib.hid (fun w => digits_any (d 1) w (h 1 (by decide)).1 (h 1 (by decide)).2)
  have hl1 := Lib.itoa_length_le (d 1) (h 1 (by decide)).1 (h 1 (by decide)).2
  have hc2 : (w.alloc (.cells #[.int .i64 (d 0), .int .i64 (d 1), .int .i64 (d 2), .int .i64 (d 3)] 23)).cell? ⟨S, 2, none⟩ = some (.int .i64 (d 2)) := hv.cell (by decide)
  have HI2 : Hid (∀ w, Calls Tryd.prog 40 #[.int .i64 (d 2)] w fun e w' => e = .returned (.string (str (Lib.itoa (d 2)))) ∧ w = w') := Lib.hid (fun w => digits_any (d 2) w (h 2 (by decide)).1 (h 2 (by decide)).2)
  have hl2 := Lib.itoa_length_le (d 2) (h 2 (by decide)).1 (h 2 (by decide)).2
  have hc3 : (w.alloc (.cells #[.int .i64 (d 0), .int .i64 (d 1), .int .i64 (d 2), .int .i64 (d 3)] 23)).cell? ⟨S, 3, none⟩ = some (.int .i64 (d 3)) := hv.cell (by decide)
  have HI3 : Hid (∀ w, Calls Tryd.prog 40 #[.int .i64 (d 3)] w fun e w' => e = .returned (.string (str (Lib.itoa (d 3)))) ∧ w = w') := Lib.hid (fun w => digits_any (d 3) w (h 3 (by decide)).1 (h 3 (by decide)).2)
  have hl3 := Lib.itoa_length_le (d 3) (h 3 (by decide)).1 (h 3 (by decide)).2
  clear hv h
  go_enter Tryd.func25, Tryd.ntmps25
  go_upto_region 1 with (fail)
  rw [← hS]
  clear hS
  generalize w.alloc (.cells #[.int .i64 (d 0), .int .i64 (d 1), .int .i64 (d 2), .int .i64 (d 3)] 23) = w1 at HB hc0 hc1 hc2 hc3 ⊢
  obtain ⟨a0, ha0⟩ : ∃ x, x = Lib.itoa (d 0) := ⟨_, rfl⟩
  rw [← ha0] at HI0 hl0 HP
  clear ha0
  obtain ⟨a1, ha1⟩ : ∃ x, x = Lib.itoa (d 1) := ⟨_, rfl⟩
  rw [← ha1] at HI1 hl1 HP
  clear ha1
  obtain ⟨a2, ha2⟩ : ∃ x, x = Lib.itoa (d 2) := ⟨_, rfl⟩
  rw [← ha2] at HI2 hl2 HP
  clear ha2
  obtain ⟨a3, ha3⟩ : ∃ x, x = Lib.itoa (d 3) := ⟨_, rfl⟩
  rw [← ha3] at HI3 hl3 HP
  clear ha3
  obtain ⟨c1, k1⟩ : ∃ x, x = a0 ++ [44] := ⟨_, rfl⟩
  obtain ⟨c2, k2⟩ : ∃ x, x = c1 ++ a1 := ⟨_, rfl⟩
  obtain ⟨c3, k3⟩ : ∃ x, x = c2 ++ [44] := ⟨_, rfl⟩
  obtain ⟨c4, k4⟩ : ∃ x, x = c3 ++ a2 := ⟨_, rfl⟩
  obtain ⟨c5, k5⟩ : ∃ x, x = c4 ++ [44] := ⟨_, rfl⟩
  obtain ⟨c6, k6⟩ : ∃ x, x = c5 ++ a3 := ⟨_, rfl⟩
  have e1 : str a0 ++ ({ data := #[44] } : ByteArray) = str c1 := by rw [k1]; exact str_append _ _
  have n1 : c1.length ≤ 22 := by rw [k1, List.length_append]; (try simp only [List.length_cons, List.length_nil]); omega
  have z1 : ¬ 9223372036854775807 < (str a0).size + (({ data := #[44] } : ByteArray)).size := by rw [str_size]; show ¬ 9223372036854775807 < a0.length + 1; omega
  have z1' : ¬ 9223372036854775807 < (str a0).size + 1 := by rw [str_size]; omega
  have e2 : str c1 ++ str a1 = str c2 := by rw [k2]; exact str_append _ _
  have n2 : c2.length ≤ 44 := by rw [k2, List.length_append]; (try simp only [List.length_cons, List.length_nil]); omega
  have z2 : ¬ 9223372036854775807 < (str c1).size + (str a1).size := by rw [str_size, str_size]; show ¬ 9223372036854775807 < c1.length + a1.length; omega
  have e3 : str c2 ++ ({ data := #[44] } : ByteArray) = str c3 := by rw [k3]; exact str_append _ _
  have n3 : c3.length ≤ 66 := by rw [k3, List.length_append]; (try simp only [List.length_cons, List.length_nil]); omega
  have z3 : ¬ 9223372036854775807 < (str c2).size + (({ data := #[44] } : ByteArray)).size := by rw [str_size]; show ¬ 9223372036854775807 < c2.length + 1; omega
  have z3' : ¬ 9223372036854775807 < (str c2).size + 1 := by rw [str_size]; omega
  have e4 : str c3 ++ str a2 = str c4 := by rw [k4]; exact str_append _ _
  have n4 : c4.length ≤ 88 := by rw [k4, List.length_append]; (try simp only [List.length_cons, List.length_nil]); omega
  have z4 : ¬ 9223372036854775807 < (str c3).size + (str a2).size := by rw [str_size, str_size]; show ¬ 9223372036854775807 < c3.length + a2.length; omega
  have e5 : str c4 ++ ({ data := #[44] } : ByteArray) = str c5 := by rw [k5]; exact str_append _ _
  have n5 : c5.length ≤ 110 := by rw [k5, List.length_append]; (try simp only [List.length_cons, List.length_nil]); omega
  have z5 : ¬ 9223372036854775807 < (str c4).size + (({ data := #[44] } : ByteArray)).size := by rw [str_size]; show ¬ 9223372036854775807 < c4.length + 1; omega
  have z5' : ¬ 9223372036854775807 < (str c4).size + 1 := by rw [str_size]; omega
  have e6 : str c5 ++ str a3 = str c6 := by rw [k6]; exact str_append _ _
  have n6 : c6.length ≤ 132 := by rw [k6, List.length_append]; (try simp only [List.length_cons, List.length_nil]); omega
  have z6 : ¬ 9223372036854775807 < (str c5).size + (str a3).size := by rw [str_size, str_size]; show ¬ 9223372036854775807 < c5.length + a3.length; omega
  have HK : Hid (pt d 4 = c6) := Lib.hid (by rw [HP.out, k6, k5, k4, k3, k2, k1])
  clear k1 k2 k3 k4 k5 k6 hl0 hl1 hl2 hl3 n1 n2 n3 n4 n5 n6
  have d0 : w1.drew.cell? ⟨S, 0, none⟩ = some (.int .i64 (d 0)) := hc0
  have d1 : w1.drew.cell? ⟨S, 1, none⟩ = some (.int .i64 (d 1)) := hc1
  have d2 : w1.drew.cell? ⟨S, 2, none⟩ = some (.int .i64 (d 2)) := hc2
  have d3 : w1.drew.cell? ⟨S, 3, none⟩ = some (.int .i64 (d 3)) := hc3
  clear hc0 hc1 hc2 hc3
  refine wp_region_noPanic ?_
  refine wp_region_held_drew (S := fun w' => w'.cell? ⟨S, 0, none⟩ = some (.int .i64 (d 0)) ∧ w'.cell? ⟨S, 1, none⟩ = some (.int .i64 (d 1)) ∧ w'.cell? ⟨S, 2, none⟩ = some (.int .i64 (d 2)) ∧ w'.cell? ⟨S, 3, none⟩ = some (.int .i64 (d 3))) (by kernel_rfl) ?_ (fun hHeld => ?_)
  · try dsimp only
    (refine ⟨?_, ?_, ?_, ?_⟩ <;> (first | with_reducible assumption))
  refine wpAnyH_take (i := 0) (v := ?_) (by (simp only [List.getElem?_toArray, List.getElem?_cons_zero]; rfl)) (by kernel_rfl) (by kernel_rfl) (by kernel_rfl) (fun _ _ _ h => h) (Or.inl ⟨by rfl, ?_⟩) (by assumption) ?_
  rotate_left
  · (intro w hSw; (try dsimp only at hSw); go_simp; try with_reducible rfl)
  try simp only [Act.put, List.setIfInBounds_toArray, List.set_cons_zero, List.set_cons_succ]
  refine wpAnyH_take (i := 1) (v := ?_) (by (simp only [List.getElem?_toArray, List.getElem?_cons_succ, List.getElem?_cons_zero]; rfl)) (by kernel_rfl) (by kernel_rfl) (by kernel_rfl) (fun _ _ _ h => h) (Or.inl ⟨by rfl, ?_⟩) (by assumption) ?_
  rotate_left
  · (intro w hSw; (try dsimp only at hSw); go_simp; try with_reducible rfl)
  try simp only [Act.put, List.setIfInBounds_toArray, List.set_cons_zero, List.set_cons_succ]
  refine wpAnyH_take (i := 4) (v := ?_) (by (simp only [List.getElem?_toArray, List.getElem?_cons_succ, List.getElem?_cons_zero]; rfl)) (by kernel_rfl) (by kernel_rfl) (by kernel_rfl) (fun _ _ _ h => h) (Or.inl ⟨by rfl, ?_⟩) (by assumption) ?_
  rotate_left
  · (intro w hSw; (try dsimp only at hSw); go_simp; try with_reducible rfl)
  try simp only [Act.put, List.setIfInBounds_toArray, List.set_cons_zero, List.set_cons_succ]
  refine wpAnyH_take (i := 5) (v := ?_) (by (simp only [List.getElem?_toArray, List.getElem?_cons_succ, List.getElem?_cons_zero]; rfl)) (by kernel_rfl) (by kernel_rfl) (by kernel_rfl) (fun _ _ _ h => h) (Or.inl ⟨by rfl, ?_⟩) (by assumption) ?_
  rotate_left
  · (intro w hSw; (try dsimp only at hSw); go_simp; try with_reducible rfl)
  try simp only [Act.put, List.setIfInBounds_toArray, List.set_cons_zero, List.set_cons_succ]
  refine wpAnyH_take (i := 9) (v := ?_) (by (simp only [List.getElem?_toArray, List.getElem?_cons_succ, List.getElem?_cons_zero]; rfl)) (by kernel_rfl) (by kernel_rfl) (by kernel_rfl) (fun _ _ _ h => h) (Or.inl ⟨by rfl, ?_⟩) (by assumption) ?_
  rotate_left
  · (intro w hSw; (try dsimp only at hSw); go_simp; try with_reducible rfl)
  try simp only [Act.put, List.setIfInBounds_toArray, List.set_cons_zero, List.set_cons_succ]
  refine wpAnyH_take (i := 10) (v := ?_) (by (simp only [List.getElem?_toArray, List.getElem?_cons_succ, List.getElem?_cons_zero]; rfl)) (by kernel_rfl) (by kernel_rfl) (by kernel_rfl) (fun _ _ _ h => h) (Or.inl ⟨by rfl, ?_⟩) (by assumption) ?_
  rotate_left
  · (intro w hSw; (try dsimp only at hSw); go_simp; try with_reducible rfl)
  try simp only [Act.put, List.setIfInBounds_toArray, List.set_cons_zero, List.set_cons_succ]
  refine wpAnyH_take (i := 14) (v := ?_) (by (simp only [List.getElem?_toArray, List.getElem?_cons_succ, List.getElem?_cons_zero]; rfl)) (by kernel_rfl) (by kernel_rfl) (by kernel_rfl) (fun _ _ _ h => h) (Or.inl ⟨by rfl, ?_⟩) (by assumption) ?_
  rotate_left
  · (intro w hSw; (try dsimp only at hSw); go_simp; try with_reducible rfl)
  try simp only [Act.put, List.setIfInBounds_toArray, List.set_cons_zero, List.set_cons_succ]
  refine wpAnyH_take (i := 15) (v := ?_) (by (simp only [List.getElem?_toArray, List.getElem?_cons_succ, List.getElem?_cons_zero]; rfl)) (by kernel_rfl) (by kernel_rfl) (by kernel_rfl) (fun _ _ _ h => h) (Or.inl ⟨by rfl, ?_⟩) (by assumption) ?_
  rotate_left
  · (intro w hSw; (try dsimp only at hSw); go_simp; try with_reducible rfl)
  try simp only [Act.put, List.setIfInBounds_toArray, List.set_cons_zero, List.set_cons_succ]
  refine wpAnyH_ready (rs := [2]) (by kernel_rfl) (by simp) ?_
  refine AllReadyH.cons (by (simp only [List.getElem?_toArray, List.getElem?_cons_succ, List.getElem?_cons_zero]; rfl)) (fun K hK => ?_) AllReadyH.nil
  go_simp
  refine (HI0.out w1.drew).mono ?_
  rintro e w' ⟨rfl, rfl⟩
  refine hK.out _ _ ?_ (fun hHeld => ?_)
  · try dsimp only
    (refine ⟨?_, ?_, ?_, ?_⟩ <;> (first | with_reducible assumption))
  clear hK K
  try simp only [Act.put, List.setIfInBounds_toArray, List.set_cons_zero, List.set_cons_succ]
  refine wpAnyH_take (i := 3) (v := ?_) (by (simp only [List.getElem?_toArray, List.getElem?_cons_succ, List.getElem?_cons_zero]; rfl)) (by kernel_rfl) (by kernel_rfl) (by kernel_rfl) (fun _ _ _ h => h) (Or.inl ⟨by rfl, ?_⟩) (by assumption) ?_
  rotate_left
  · (intro w hSw; (try dsimp only at hSw); go_simp; try with_reducible rfl)
  try simp only [Act.put, List.setIfInBounds_toArray, List.set_cons_zero, List.set_cons_succ]
  refine wpAnyH_ready (rs := [6]) (by kernel_rfl) (by simp) ?_
  refine AllReadyH.cons (by (simp only [List.getElem?_toArray, List.getElem?_cons_succ, List.getElem?_cons_zero]; rfl)) (fun K hK => ?_) AllReadyH.nil
  go_simp
  refine (HI1.out w1.drew).mono ?_
  rintro e w' ⟨rfl, rfl⟩
  refine hK.out _ _ ?_ (fun hHeld => ?_)
  · try dsimp only
    (refine ⟨?_, ?_, ?_, ?_⟩ <;> (first | with_reducible assumption))
  clear hK K
  try simp only [Act.put, List.setIfInBounds_toArray, List.set_cons_zero, List.set_cons_succ]
  refine wpAnyH_take (i := 7) (v := ?_) (by (simp only [List.getElem?_toArray, List.getElem?_cons_succ, List.getElem?_cons_zero]; rfl)) (by kernel_rfl) (by kernel_rfl) (by kernel_rfl) (fun _ _ _ h => h) (Or.inl ⟨by rfl, ?_⟩) (by assumption) ?_
  rotate_left
  · (intro w hSw; (try dsimp only at hSw); go_simp; try with_reducible rfl)
  try simp only [Act.put, List.setIfInBounds_toArray, List.set_cons_zero, List.set_cons_succ]
  refine wpAnyH_take (i := 8) (v := ?_) (by (simp only [List.getElem?_toArray, List.getElem?_cons_succ, List.getElem?_cons_zero]; rfl)) (by kernel_rfl) (by kernel_rfl) (by kernel_rfl) (fun _ _ _ h => h) (Or.inl ⟨by rfl, ?_⟩) (by assumption) ?_
  rotate_left
  · (intro w hSw; (try dsimp only at hSw); go_simp; try with_reducible rfl)
  try simp only [Act.put, List.setIfInBounds_toArray, List.set_cons_zero, List.set_cons_succ]
  refine wpAnyH_ready (rs := [11]) (by kernel_rfl) (by simp) ?_
  refine AllReadyH.cons (by (simp only [List.getElem?_toArray, List.getElem?_cons_succ, List.getElem?_cons_zero]; rfl)) (fun K hK => ?_) AllReadyH.nil
  go_simp
  refine (HI2.out w1.drew).mono ?_
  rintro e w' ⟨rfl, rfl⟩
  refine hK.out _ _ ?_ (fun hHeld => ?_)
  · try dsimp only
    (refine ⟨?_, ?_, ?_, ?_⟩ <;> (first | with_reducible assumption))
  clear hK K
  try simp only [Act.put, List.setIfInBounds_toArray, List.set_cons_zero, List.set_cons_succ]
  refine wpAnyH_take (i := 12) (v := ?_) (by (simp only [List.getElem?_toArray, List.getElem?_cons_succ, List.getElem?_cons_zero]; rfl)) (by kernel_rfl) (by kernel_rfl) (by kernel_rfl) (fun _ _ _ h => h) (Or.inl ⟨by rfl, ?_⟩) (by assumption) ?_
  rotate_left
  · (intro w hSw; (try dsimp only at hSw); go_simp; try with_reducible rfl)
  try simp only [Act.put, List.setIfInBounds_toArray, List.set_cons_zero, List.set_cons_succ]
  refine wpAnyH_take (i := 13) (v := ?_) (by (simp only [List.getElem?_toArray, List.getElem?_cons_succ, List.getElem?_cons_zero]; rfl)) (by kernel_rfl) (by kernel_rfl) (by kernel_rfl) (fun _ _ _ h => h) (Or.inl ⟨by rfl, ?_⟩) (by assumption) ?_
  rotate_left
  · (intro w hSw; (try dsimp only at hSw); go_simp; try with_reducible rfl)
  try simp only [Act.put, List.setIfInBounds_toArray, List.set_cons_zero, List.set_cons_succ]
  refine wpAnyH_ready (rs := [16]) (by kernel_rfl) (by simp) ?_
  refine AllReadyH.cons (by (simp only [List.getElem?_toArray, List.getElem?_cons_succ, List.getElem?_cons_zero]; rfl)) (fun K hK => ?_) AllReadyH.nil
  go_simp
  refine (HI3.out w1.drew).mono ?_
  rintro e w' ⟨rfl, rfl⟩
  refine hK.out _ _ ?_ (fun hHeld => ?_)
  · try dsimp only
    (refine ⟨?_, ?_, ?_, ?_⟩ <;> (first | with_reducible assumption))
  clear hK K
  try simp only [Act.put, List.setIfInBounds_toArray, List.set_cons_zero, List.set_cons_succ]
  refine wpAnyH_take (i := 17) (v := ?_) (by (simp only [List.getElem?_toArray, List.getElem?_cons_succ, List.getElem?_cons_zero]; rfl)) (by kernel_rfl) (by kernel_rfl) (by kernel_rfl) (fun _ _ _ h => h) (Or.inl ⟨by rfl, ?_⟩) (by assumption) ?_
  rotate_left
  · (intro w hSw; (try dsimp only at hSw); go_simp; try with_reducible rfl)
  try simp only [Act.put, List.setIfInBounds_toArray, List.set_cons_zero, List.set_cons_succ]
  refine wpAnyH_take (i := 18) (v := ?_) (by (simp only [List.getElem?_toArray, List.getElem?_cons_succ, List.getElem?_cons_zero]; rfl)) (by kernel_rfl) (by kernel_rfl) (by kernel_rfl) (fun _ _ _ h => h) (Or.inl ⟨by rfl, ?_⟩) (by assumption) ?_
  rotate_left
  · (intro w hSw; (try dsimp only at hSw); go_simp; try with_reducible rfl)
  try simp only [Act.put, List.setIfInBounds_toArray, List.set_cons_zero, List.set_cons_succ]
  refine wpAnyH_done (by kernel_rfl) ?_ _
  refine NoPanic.normal ?_
  clear hHeld d0 d1 d2 d3
  go_wp2_with fail
  go_ret
  refine ⟨?_, HB.out.drew⟩
  show Ending.returned (Value.string (str c6)) = _
  exact ret_s (by rw [HK.out])
end Go.Proofs.YtfbmjejkhnopiaaDoor
