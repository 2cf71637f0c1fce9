/- A network: New, Len, has, own, Peek. -/
import Derived.Test.YtkenaoejijpgpaaDoorNet0
import Derived.Test.YtkenaoejijpgpaaDoorHeldW
import Derived.Deep.Cut
namespace Go.Proofs.YtkenaoejijpgpaaDoor
open Go.RowKit

theorem new_any (B : Nat) (w : World) (hB : B ≤ w.heap.size) : Calls Tryd.prog 18 #[] w fun e w' => e = .returned (.pointer (some ⟨w.heap.size, 0, none⟩)) ∧ NAt w' B w.heap.size none 0 [] ∧ Below w.heap.size w w' := by
  have hb := (Below.refl w.heap.size w).alloc (Nat.le_refl _) (.cells #[.slice none 0 0] 86)
  have hn : NAt (w.alloc (.cells #[.slice none 0 0] 86)) B w.heap.size none 0 [] :=
    ⟨heap_alloc_new w _, hB, .inl (World.ownsRow_nil _ _ _ _), fun p hp => by simp at hp, List.Pairwise.nil⟩
  have HB := Lib.hid hb
  have HN := Lib.hid hn
  clear hb hn
  go_enter Tryd.func18, Tryd.ntmps18
  go_wp2_with fail
  go_ret
  exact ⟨rfl, HN.out, HB.out⟩
theorem len_any (w : World) {B N Lc : Nat} {LA : Option Addr} {l : List Pv} (h : NAt w B N LA Lc l) : Calls Tryd.prog 23 #[.pointer (some ⟨N, 0, none⟩)] w fun e w' => e = .returned (.int .i64 (l.length : Int)) ∧ w = w' := by
  have c0 := h.c0
  clear h
  generalize l.length = n at c0 ⊢
  go_enter Tryd.func23, Tryd.ntmps23
  go_wp2_with fail
  go_ret
  exact ⟨rfl, rfl⟩
theorem len_nil (w : World) : Calls Tryd.prog 23 #[.pointer none] w fun e w' => e = .returned (.int .i64 0) ∧ w = w' := by
  go_enter Tryd.func23, Tryd.ntmps23
  go_wp2_with fail
  go_ret
  exact ⟨rfl, rfl⟩
def hasB (i : Int) (n : Nat) : Bool := decide (0 ≤ i) && decide (i < (n : Int))
theorem has_of (P : Value) (n : Nat) (i : Int) (w : World) (h : Calls Tryd.prog 23 #[P] w fun e w' => e = .returned (.int .i64 (n : Int)) ∧ w = w') : Calls Tryd.prog 52 #[P, .int .i64 i] w fun e w' => e = .returned (.bool (hasB i n)) ∧ w = w' := by
  have H := Lib.hid h
  clear h
  by_cases hi : 0 ≤ i
  · by_cases hn : i < (n : Int)
    · go_enter Tryd.func52, Tryd.ntmps52
      go_wp2_with fail
      refine H.out.mono ?_
      rintro e w' ⟨rfl, rfl⟩
      go_wp2_with fail
      go_ret
      exact ⟨by simp [hasB, hi, hn], rfl⟩
    · go_enter Tryd.func52, Tryd.ntmps52
      go_wp2_with fail
      refine H.out.mono ?_
      rintro e w' ⟨rfl, rfl⟩
      go_wp2_with fail
      go_ret
      exact ⟨by simp [hasB]; omega, rfl⟩
  · go_enter Tryd.func52, Tryd.ntmps52
    go_wp2_with fail
    go_ret
    exact ⟨by simp [hasB]; omega, rfl⟩
theorem has_any (w : World) {B N Lc : Nat} {LA : Option Addr} {l : List Pv} (h : NAt w B N LA Lc l) (i : Int) : Calls Tryd.prog 52 #[.pointer (some ⟨N, 0, none⟩), .int .i64 i] w fun e w' => e = .returned (.bool (hasB i l.length)) ∧ w = w' := has_of _ _ i w (len_any w h)
theorem has_nil (w : World) (i : Int) : Calls Tryd.prog 52 #[.pointer none, .int .i64 i] w fun e w' => e = .returned (.bool (hasB i 0)) ∧ w = w' := has_of _ 0 i w (len_nil w)
theorem hasB_no (i : Int) : hasB i 0 = false := by simp [hasB]
theorem hasB_yes {i : Int} {n : Nat} (h : hasB i n = true) : ∃ j : Nat, i = (j : Int) ∧ j < n := by
  simp [hasB] at h
  exact ⟨i.toNat, by omega, by omega⟩
set_option maxHeartbeats 1000000 in
theorem own_any18 (A : Option Addr) (n c : Nat) (l : List UInt8) (w : World) (h : BytesIn w w.heap.size A c l) (hn : n = l.length) (hl : n ≤ 100000000) :
    Calls Tryd.prog 51 #[.slice A n c] w fun e w' => ∃ A2 c2, e = .returned (.slice A2 n c2) ∧ w'.ownsRow w.heap.size 5 1 (.slice A2 n c2) n (cells8 l) ∧ Below w.heap.size w w' := by
  obtain ⟨i5, hi, hz0, hz1, hz2⟩ := info_parts Tryd.info5
  have hal : Below w.heap.size w (w.alloc (.cells #[] 5)) := (Below.refl _ _).alloc (Nat.le_refl _) _
  have how := own_alloc w #[] 5 1 0 w.heap.size rfl (by unfold maxLen; omega) (Nat.le_refl _)
  have HR := Lib.hid ((h.below hal (Nat.le_refl _)).cellsN hn)
  have HO := Lib.hid how
  have HB := Lib.hid hal
  have hsz : w.heap.size ≤ (w.alloc (.cells #[] 5)).heap.size := by simp
  clear h hn hal how
  go_enter Tryd.func51, Tryd.ntmps51
  go_wp2_with (at_builtin; refine wpList_append_row _ rfl (.tmp 3) (.tmp 4) _ rfl w.heap.size 5 i5 _ 1 1 Tryd.underlying24 hi hz0 hz1 hz2 rfl (by omega) _ 0 0 _ rfl HO.out _ _ n _ _ rfl HR.out (cells8_one l) (by unfold maxLen; omega) (by omega) (by simp) (fun A2 c2 w1 hown hg hor => ?_))
  have HO2 := Lib.hid (own_norm hown)
  have HB2 := Lib.hid (HB.out.grown hg (by simp) (fun k hk => (HO.out.lt k hk).1))
  clear hown hg hor
  go_ret
  exact ⟨A2, c2, rfl, HO2.out, HB2.out⟩
theorem peek_none (w : World) (i : Int) (P : Value) (h : Calls Tryd.prog 52 #[P, .int .i64 i] w fun e w' => e = .returned (.bool false) ∧ w = w') :
    Calls Tryd.prog 21 #[P, .int .i64 i] w fun e w' => e = .returned (.tuple #[.int .i64 0, .slice none 0 0, .bool false]) ∧ w = w' := by
  have H := Lib.hid h
  clear h
  go_enter Tryd.func21, Tryd.ntmps21
  go_wp2_with fail
  refine H.out.mono ?_
  rintro e w' ⟨rfl, rfl⟩
  go_wp2_with fail
  refine bodyPost_ret (v := .tuple #[.int .i64 0, .slice none 0 0, .bool false]) (by simp [results, Tryd.results21, go_sem]) rfl ?_
  exact ⟨rfl, rfl⟩
set_option maxRecDepth 100000 in
set_option maxHeartbeats 2000000 in
theorem peek_any (w : World) {B N Lc j : Nat} {LA : Option Addr} {l : List Pv} {p : Pv} (h : NAt w B N LA Lc l) (hp : l[j]? = some p) (hl : p.l.length ≤ 100000000) :
    Calls Tryd.prog 21 #[.pointer (some ⟨N, 0, none⟩), .int .i64 j] w fun e w' => ∃ A2 c2, e = .returned (.tuple #[.int .i64 p.to_, .slice A2 p.l.length c2, .bool true]) ∧ w'.ownsRow w.heap.size 5 1 (.slice A2 p.l.length c2) p.l.length (cells8 p.l) ∧ Below w.heap.size w w' := by
  obtain ⟨b, hLA, hBb, hbl, ⟨cur, hcur⟩, hto, hby⟩ := h.pk hp
  have hjl : j < l.length := (List.getElem?_eq_some_iff.1 hp).1
  have hmem : p ∈ l := List.mem_of_getElem? hp
  have c0 := h.c0
  have hBY := h.bytes hmem
  have hjn : (j : Int) < (l.length : Int) := by omega
  have hj0 : (0 : Int) ≤ (j : Int) := by omega
  have hhas : hasB (j : Int) l.length = true := by simp [hasB]; exact hjl
  rw [hLA] at c0
  obtain ⟨n, hn⟩ : ∃ n, n = l.length := ⟨_, rfl⟩
  obtain ⟨m, hm⟩ : ∃ m, m = p.l.length := ⟨_, rfl⟩
  obtain ⟨PA, hPA⟩ : ∃ x, x = p.A := ⟨_, rfl⟩
  obtain ⟨Pc, hPc⟩ : ∃ x, x = p.c := ⟨_, rfl⟩
  obtain ⟨pt, hpt⟩ : ∃ x, x = p.to_ := ⟨_, rfl⟩
  unfold Pv.sl at hby
  rw [← hn] at c0 hjn
  rw [← hm, ← hPA, ← hPc] at hby
  rw [← hpt] at hto
  rw [← hPA, ← hPc] at hBY
  have HAS := Lib.hid (has_any w h (j : Int))
  rw [hhas] at HAS
  have HC0 := Lib.hid c0
  have HTO := Lib.hid hto
  have HBY := Lib.hid hby
  have HY := Lib.hid hBY
  have HM := Lib.hid hm
  rw [← hm] at hl ⊢
  rw [← hpt]
  have hNl := h.lt
  clear h hLA hBb hcur hto hby hjl hmem c0 hBY hhas hn hm hPA hPc hpt
  go_enter Tryd.func21, Tryd.ntmps21
  go_wp2_with fail
  refine HAS.out.mono ?_
  rintro e w' ⟨rfl, rfl⟩
  go_wp2_with fail
  have f0_0 : w.drew.cell? ⟨N, 0, none⟩ = some (.slice (some ⟨b, 0, none⟩) n Lc) := HC0.out
  have f0_1 : w.drew.cell? ⟨b, j * 2, none⟩ = some (.int .i64 pt) := HTO.out
  have f0_2 : w.drew.cell? ⟨b, j * 2 + 1, none⟩ = some (.slice PA m Pc) := HBY.out
  have HYd : Hid (BytesIn w.drew w.drew.heap.size PA Pc p.l) := Lib.hid (HY.out.drew)
  refine wp_region_noPanic ?_
  refine wp_region_held_drew (S := fun w' => w'.cell? ⟨N, 0, none⟩ = some (.slice (some ⟨b, 0, none⟩) n Lc) ∧ w'.cell? ⟨b, j * 2, none⟩ = some (.int .i64 pt) ∧ w'.cell? ⟨b, j * 2 + 1, none⟩ = some (.slice PA m Pc)) (by kernel_rfl) ?_ (fun hHeld => ?_)
  · try dsimp only
    (refine ⟨?_, ?_, ?_⟩ <;> (first | with_reducible assumption))
  refine wpAnyH_take (i := 0) (v := ?_) (by (simp only [List.getElem?_toArray, List.getElem?_cons_zero]; rfl)) (by kernel_rfl) (by kernel_rfl) (by kernel_rfl) (fun _ _ _ h => h) (Or.inl ⟨by rfl, ?_⟩) (by assumption) ?_
  rotate_left
  · (intro w hSw; (try dsimp only at hSw); go_simp; try with_reducible rfl)
  try simp only [Act.put, List.setIfInBounds_toArray, List.set_cons_zero, List.set_cons_succ]
  refine wpAnyH_take (i := 1) (v := ?_) (by (simp only [List.getElem?_toArray, List.getElem?_cons_succ, List.getElem?_cons_zero]; rfl)) (by kernel_rfl) (by kernel_rfl) (by kernel_rfl) (fun _ _ _ h => h) (Or.inl ⟨by rfl, ?_⟩) (by assumption) ?_
  rotate_left
  · (intro w hSw; (try dsimp only at hSw); go_simp; try with_reducible rfl)
  try simp only [Act.put, List.setIfInBounds_toArray, List.set_cons_zero, List.set_cons_succ]
  refine wpAnyH_take (i := 2) (v := ?_) (by (simp only [List.getElem?_toArray, List.getElem?_cons_succ, List.getElem?_cons_zero]; rfl)) (by kernel_rfl) (by kernel_rfl) (by kernel_rfl) (fun _ _ _ h => h) (Or.inl ⟨by rfl, ?_⟩) (by assumption) ?_
  rotate_left
  · (intro w hSw; (try dsimp only at hSw); go_simp; try with_reducible rfl)
  try simp only [Act.put, List.setIfInBounds_toArray, List.set_cons_zero, List.set_cons_succ]
  refine wpAnyH_take (i := 3) (v := ?_) (by (simp only [List.getElem?_toArray, List.getElem?_cons_succ, List.getElem?_cons_zero]; rfl)) (by kernel_rfl) (by kernel_rfl) (by kernel_rfl) (fun _ _ _ h => h) (Or.inl ⟨by rfl, ?_⟩) (by assumption) ?_
  rotate_left
  · (intro w hSw; (try dsimp only at hSw); go_simp; try with_reducible rfl)
  try simp only [Act.put, List.setIfInBounds_toArray, List.set_cons_zero, List.set_cons_succ]
  refine wpAnyH_take (i := 4) (v := ?_) (by (simp only [List.getElem?_toArray, List.getElem?_cons_succ, List.getElem?_cons_zero]; rfl)) (by kernel_rfl) (by kernel_rfl) (by kernel_rfl) (fun _ _ _ h => h) (Or.inl ⟨by rfl, ?_⟩) (by assumption) ?_
  rotate_left
  · (intro w hSw; (try dsimp only at hSw); go_simp; try with_reducible rfl)
  try simp only [Act.put, List.setIfInBounds_toArray, List.set_cons_zero, List.set_cons_succ]
  refine wpAnyH_take (i := 5) (v := ?_) (by (simp only [List.getElem?_toArray, List.getElem?_cons_succ, List.getElem?_cons_zero]; rfl)) (by kernel_rfl) (by kernel_rfl) (by kernel_rfl) (fun _ _ _ h => h) (Or.inl ⟨by rfl, ?_⟩) (by assumption) ?_
  rotate_left
  · (intro w hSw; (try dsimp only at hSw); go_simp; try with_reducible rfl)
  try simp only [Act.put, List.setIfInBounds_toArray, List.set_cons_zero, List.set_cons_succ]
  refine wpAnyH_take (i := 6) (v := ?_) (by (simp only [List.getElem?_toArray, List.getElem?_cons_succ, List.getElem?_cons_zero]; rfl)) (by kernel_rfl) (by kernel_rfl) (by kernel_rfl) (fun _ _ _ h => h) (Or.inl ⟨by rfl, ?_⟩) (by assumption) ?_
  rotate_left
  · (intro w hSw; (try dsimp only at hSw); go_simp; try with_reducible rfl)
  try simp only [Act.put, List.setIfInBounds_toArray, List.set_cons_zero, List.set_cons_succ]
  refine wpAnyH_take (i := 7) (v := ?_) (by (simp only [List.getElem?_toArray, List.getElem?_cons_succ, List.getElem?_cons_zero]; rfl)) (by kernel_rfl) (by kernel_rfl) (by kernel_rfl) (fun _ _ _ h => h) (Or.inl ⟨by rfl, ?_⟩) (by assumption) ?_
  rotate_left
  · (intro w hSw; (try dsimp only at hSw); go_simp; try with_reducible rfl)
  try simp only [Act.put, List.setIfInBounds_toArray, List.set_cons_zero, List.set_cons_succ]
  refine wpAnyH_take (i := 8) (v := ?_) (by (simp only [List.getElem?_toArray, List.getElem?_cons_succ, List.getElem?_cons_zero]; rfl)) (by kernel_rfl) (by kernel_rfl) (by kernel_rfl) (fun _ _ _ h => h) (Or.inl ⟨by rfl, ?_⟩) (by assumption) ?_
  rotate_left
  · (intro w hSw; (try dsimp only at hSw); go_simp; try with_reducible rfl)
  try simp only [Act.put, List.setIfInBounds_toArray, List.set_cons_zero, List.set_cons_succ]
  refine wpAnyH_take (i := 9) (v := ?_) (by (simp only [List.getElem?_toArray, List.getElem?_cons_succ, List.getElem?_cons_zero]; rfl)) (by kernel_rfl) (by kernel_rfl) (by kernel_rfl) (fun _ _ _ h => h) (Or.inl ⟨by rfl, ?_⟩) (by assumption) ?_
  rotate_left
  · (intro w hSw; (try dsimp only at hSw); go_simp; try with_reducible rfl)
  try simp only [Act.put, List.setIfInBounds_toArray, List.set_cons_zero, List.set_cons_succ]
  refine wpAnyH_take (i := 10) (v := ?_) (by (simp only [List.getElem?_toArray, List.getElem?_cons_succ, List.getElem?_cons_zero]; rfl)) (by kernel_rfl) (by kernel_rfl) (by kernel_rfl) (fun _ _ _ h => h) (Or.inl ⟨by rfl, ?_⟩) (by assumption) ?_
  rotate_left
  · (intro w hSw; (try dsimp only at hSw); go_simp; try with_reducible rfl)
  try simp only [Act.put, List.setIfInBounds_toArray, List.set_cons_zero, List.set_cons_succ]
  refine wpAnyH_take (i := 11) (v := ?_) (by (simp only [List.getElem?_toArray, List.getElem?_cons_succ, List.getElem?_cons_zero]; rfl)) (by kernel_rfl) (by kernel_rfl) (by kernel_rfl) (fun _ _ _ h => h) (Or.inl ⟨by rfl, ?_⟩) (by assumption) ?_
  rotate_left
  · (intro w hSw; (try dsimp only at hSw); go_simp; try with_reducible rfl)
  try simp only [Act.put, List.setIfInBounds_toArray, List.set_cons_zero, List.set_cons_succ]
  refine wpAnyH_take (i := 12) (v := ?_) (by (simp only [List.getElem?_toArray, List.getElem?_cons_succ, List.getElem?_cons_zero]; rfl)) (by kernel_rfl) (by kernel_rfl) (by kernel_rfl) (fun _ _ _ h => h) (Or.inl ⟨by rfl, ?_⟩) (by assumption) ?_
  rotate_left
  · (intro w hSw; (try dsimp only at hSw); go_simp; try with_reducible rfl)
  try simp only [Act.put, List.setIfInBounds_toArray, List.set_cons_zero, List.set_cons_succ]
  refine wpAnyH_take (i := 13) (v := ?_) (by (simp only [List.getElem?_toArray, List.getElem?_cons_succ, List.getElem?_cons_zero]; rfl)) (by kernel_rfl) (by kernel_rfl) (by kernel_rfl) (fun _ _ _ h => h) (Or.inl ⟨by rfl, ?_⟩) (by assumption) ?_
  rotate_left
  · (intro w hSw; (try dsimp only at hSw); go_simp; try with_reducible rfl)
  try simp only [Act.put, List.setIfInBounds_toArray, List.set_cons_zero, List.set_cons_succ]
  refine wpAnyH_take (i := 14) (v := ?_) (by (simp only [List.getElem?_toArray, List.getElem?_cons_succ, List.getElem?_cons_zero]; rfl)) (by kernel_rfl) (by kernel_rfl) (by kernel_rfl) (fun _ _ _ h => h) (Or.inl ⟨by rfl, ?_⟩) (by assumption) ?_
  rotate_left
  · (intro w hSw; (try dsimp only at hSw); go_simp; try with_reducible rfl)
  try simp only [Act.put, List.setIfInBounds_toArray, List.set_cons_zero, List.set_cons_succ]
  refine wpAnyH_take (i := 15) (v := ?_) (by (simp only [List.getElem?_toArray, List.getElem?_cons_succ, List.getElem?_cons_zero]; rfl)) (by kernel_rfl) (by kernel_rfl) (by kernel_rfl) (fun _ _ _ h => h) (Or.inl ⟨by rfl, ?_⟩) (by assumption) ?_
  rotate_left
  · (intro w hSw; (try dsimp only at hSw); go_simp; try with_reducible rfl)
  try simp only [Act.put, List.setIfInBounds_toArray, List.set_cons_zero, List.set_cons_succ]
  refine wpAnyH_ready (rs := [16]) (by kernel_rfl) (by simp) ?_
  refine AllReadyH.cons (by (simp only [List.getElem?_toArray, List.getElem?_cons_succ, List.getElem?_cons_zero]; rfl)) (fun K hK => ?_) AllReadyH.nil
  go_simp
  refine (own_any18 PA m Pc p.l w.drew HYd.out HM.out hl).mono ?_
  rintro e w1 ⟨A2, c2, rfl, hown, hb⟩
  have HB1 : Hid (Below w.heap.size w w1) := Lib.hid ((Below.refl _ w).drew.trans hb)
  have HO1 : Hid (w1.ownsRow w.heap.size 5 1 (.slice A2 m c2) m (cells8 p.l)) := Lib.hid hown
  have f1_0 : w1.cell? ⟨N, 0, none⟩ = some (.slice (some ⟨b, 0, none⟩) n Lc) := HB1.out.cell (p := ⟨N, 0, none⟩) hNl |>.trans HC0.out
  have f1_1 : w1.cell? ⟨b, j * 2, none⟩ = some (.int .i64 pt) := HB1.out.cell (p := ⟨b, j * 2, none⟩) hbl |>.trans HTO.out
  have f1_2 : w1.cell? ⟨b, j * 2 + 1, none⟩ = some (.slice PA m Pc) := HB1.out.cell (p := ⟨b, j * 2 + 1, none⟩) hbl |>.trans HBY.out
  clear hown hb
  refine hK.out _ _ ?_ (fun hHeld => ?_)
  · try dsimp only
    (refine ⟨?_, ?_, ?_⟩ <;> (first | with_reducible assumption))
  clear hK K
  try simp only [Act.put, List.setIfInBounds_toArray, List.set_cons_zero, List.set_cons_succ]
  refine wpAnyH_take (i := 17) (v := ?_) (by (simp only [List.getElem?_toArray, List.getElem?_cons_succ, List.getElem?_cons_zero]; rfl)) (by kernel_rfl) (by kernel_rfl) (by kernel_rfl) (fun _ _ _ h => h) (Or.inl ⟨by rfl, ?_⟩) (by assumption) ?_
  rotate_left
  · (intro w hSw; (try dsimp only at hSw); go_simp; try with_reducible rfl)
  try simp only [Act.put, List.setIfInBounds_toArray, List.set_cons_zero, List.set_cons_succ]
  refine wpAnyH_take (i := 18) (v := ?_) (by (simp only [List.getElem?_toArray, List.getElem?_cons_succ, List.getElem?_cons_zero]; rfl)) (by kernel_rfl) (by kernel_rfl) (by kernel_rfl) (fun _ _ _ h => h) (Or.inl ⟨by rfl, ?_⟩) (by assumption) ?_
  rotate_left
  · (intro w hSw; (try dsimp only at hSw); go_simp; try with_reducible rfl)
  try simp only [Act.put, List.setIfInBounds_toArray, List.set_cons_zero, List.set_cons_succ]
  refine wpAnyH_take (i := 19) (v := ?_) (by (simp only [List.getElem?_toArray, List.getElem?_cons_succ, List.getElem?_cons_zero]; rfl)) (by kernel_rfl) (by kernel_rfl) (by kernel_rfl) (fun _ _ _ h => h) (Or.inl ⟨by rfl, ?_⟩) (by assumption) ?_
  rotate_left
  · (intro w hSw; (try dsimp only at hSw); go_simp; try with_reducible rfl)
  try simp only [Act.put, List.setIfInBounds_toArray, List.set_cons_zero, List.set_cons_succ]
  refine wpAnyH_done (by kernel_rfl) ?_ _
  refine NoPanic.normal ?_
  clear hHeld f0_0 f0_1 f0_2 f1_0 f1_1 f1_2
  go_wp2_with fail
  refine bodyPost_ret (v := .tuple #[.int .i64 pt, .slice A2 m c2, .bool true]) (by simp [results, Tryd.results21, go_sem]) rfl ?_
  exact ⟨A2, c2, rfl, HO1.out, HB1.out⟩
end Go.Proofs.YtkenaoejijpgpaaDoor
