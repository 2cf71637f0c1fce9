/- An act over both: spoiling. -/
import Derived.Test.YtkenaoejijpgpaaDoorPlayD
import Derived.Test.YtkenaoejijpgpaaDoorHeldW
import Derived.Test.YtkenaoejijpgpaaDoorFrmT
import Derived.Laws.IdiomStrings
namespace Go.Proofs.YtkenaoejijpgpaaDoor
open Go.RowKit

theorem conv_sb2 (l : List UInt8) (w : World) (hl : l.length ≤ 1048576) : ∃ (c : Nat) (cs : Array Value), (convert 9 24 (.string (str l))).run Tryd.prog w = .ok (.slice (some ⟨w.heap.size, 0, none⟩) l.length c) (w.drew.alloc (.cells cs 5 (cs.size, cs.size + 1))) ∧ l.length ≤ c ∧ c ≤ 9223372036854775807 ∧ ∀ i (h : i < l.length), cs[i]? = some (.int .u8 (l[i].toNat : Int)) := by
  have h := run_bytes_of_string (P := Tryd.prog) w 9 24 5 (str l) Tryd.underlying9 Tryd.underlying24 Tryd.underlying5
  rw [str_size] at h
  refine ⟨_, _, h, grownCap_ge w l.length 0 5, grownCap_le_maxLen w l.length 0 5 (by simp only [maxLen]; omega), fun i hi => ?_⟩
  simp only [bytesRow, str, List.map_toArray]
  rw [Array.getElem?_append_left (by simpa using hi)]
  simp [hi]
theorem rks_set (L : List (Int × List UInt8)) : ∀ {j : Nat} {p : Int × List UInt8}, L[j]? = some p → ∀ b : List UInt8, rks (L.set j (p.1, b)) = (rks L).set (j * 2 + 1) (.string (str b)) := by
  induction L with
  | nil => intro j p h; simp at h
  | cons x L ih =>
    intro j p h b
    cases j with
    | zero =>
      simp only [List.getElem?_cons_zero, Option.some.injEq] at h
      subst h
      rfl
    | succ j =>
      rw [List.getElem?_cons_succ] at h
      show rkc x ++ rks (L.set j (p.1, b)) = (rkc x ++ rks L).set ((j + 1) * 2 + 1) (.string (str b))
      rw [ih h b, List.set_append, if_neg (by simp [rkc]; omega)]
      congr 2
      simp [rkc]; omega
theorem own_putR {w : World} {S n c g j : Nat} {L : List (Int × List UInt8)} {p : Int × List UInt8} (h : w.ownsRow S 55 2 (.slice (some ⟨g, 0, none⟩) n c) n (rks L)) (hp : L[j]? = some p) (b : List UInt8) :
    (w.setCell ⟨g, j * 2 + 1, none⟩ (.string (str b))).ownsRow S 55 2 (.slice (some ⟨g, 0, none⟩) n c) n (rks (L.set j (p.1, b))) := by
  rcases h.2 with ⟨hv, _⟩ | ⟨g', cap, cur, hv, hB, hg, hnc, hcm, hsz, htk⟩
  · cases hv
  · injection hv with e1 e2 e3
    injection e1 with e1
    injection e1 with e1 _
    subst e1 e3
    refine ⟨by rw [rks_set L hp, List.length_set]; exact h.1, .inr ⟨g, c, cur.setIfInBounds (j * 2 + 1) (.string (str b)), rfl, hB, set_blk hg _, hnc, hcm, by simpa using hsz, ?_⟩⟩
    rw [Array.toList_setIfInBounds, List.take_set, htk, rks_set L hp]
theorem shl8' (w : World) (r : Nat) (hr : r < 8) : (Op.shift .shl .u8 1 .i64 (r : Int)).run Tryd.prog w = .ok (.int .u8 ((2 : Int) ^ r % 256)) w := shl8 w r hr
set_option maxRecDepth 100000 in
set_option maxHeartbeats 4000000 in
theorem done_6F (kd ix to_ bit : Int) (Ab : Option Addr) (nb cb : Nat) (bs : List UInt8) {w : World} {S B N Lc n c : Nat} {LA A : Option Addr} {l : List Pv} (h : Both w S B N LA Lc A n c l) (hSB : S ≤ B) (hby : BytesIn w S Ab cb bs) (hnb : nb = bs.length) (_hbs : nb ≤ 1000) (hno : ¬ (0 ≤ ix ∧ ix < (n : Int))) (hk : bits .and .i64 kd 7 = 6) :
    Calls Tryd.prog 24 #[.pointer (some ⟨N, 0, none⟩), .slice A n c, .agg #[.int .i64 kd, .int .i64 ix, .int .i64 to_, .int .i64 bit, .slice Ab nb cb]] w fun e w' => DoneTo w S B N e w' := by
  obtain ⟨X, hX⟩ : ∃ x, x = w.heap.size := ⟨_, rfl⟩
  obtain ⟨w0, hw0⟩ : ∃ y, y = w.alloc (.cells #[.int .i64 kd, .int .i64 ix, .int .i64 to_, .int .i64 bit, .slice Ab nb cb] 51) := ⟨_, rfl⟩
  have hal : Below w.heap.size w w0 := by rw [hw0]; exact (Below.refl _ _).alloc (Nat.le_refl _) _
  have hx : w0.heap[X]? = some (.cells #[.int .i64 kd, .int .i64 ix, .int .i64 to_, .int .i64 bit, .slice Ab nb cb] 51 (0, 0)) := by rw [hw0, hX]; exact heap_alloc_new w _
  have hSw : S ≤ w.heap.size := Nat.le_trans hSB h.size
  have H0 := Lib.hid (h.below hal)
  have HX0 := Lib.hid hx
  have HB0 := Lib.hid (hal.mono hSw)
  have HY0 := Lib.hid (hby.below (hal.mono hSw) (Nat.le_refl _))
  have HNB := Lib.hid hnb
  have HL := Lib.hid h.len
  have HW := Lib.hid hw0
  have HXW := Lib.hid hX
  have hs0 : S ≤ w0.heap.size := Nat.le_trans hSw hal.size
  have hXs : X < w0.heap.size := ltb hx
  have hSX : S ≤ X := by omega
  have hn1000 : n ≤ 1000 := by have := h.good.1; have := h.len; omega
  have x0 := cellb (i := 0) hx rfl
  have x1 := cellb (i := 1) hx rfl
  have x2 := cellb (i := 2) hx rfl
  have x3 := cellb (i := 3) hx rfl
  have x4 := cellb (i := 4) hx rfl
  clear hw0 hal hx h hby hnb hX hSw
  go_enter Tryd.func24, Tryd.ntmps24
  go_upto_region 1 with fail
  rw [← HXW.out, ← HW.out]
  clear HW HXW
  by_cases hge : 0 ≤ ix
  · have hlt : ¬ ix < (n : Int) := fun h => hno ⟨hge, h⟩
    go_wp2_with fail
    have hhas : hasB ix l.length = false := by simp only [hasB, Bool.and_eq_false_iff, decide_eq_false_iff_not]; rw [← HL.out]; omega
    have HAS := Lib.hid (has_any w0 H0.out.net ix)
    rw [hhas] at HAS
    clear x0 x1 x2 x3 x4
    refine (spoil_none w0 ix bit _ HAS.out).mono ?_
    rintro e w1 ⟨rfl, rfl⟩
    go_upto_region 21 with (fail)
    have H0d := Lib.hid (H0.out.below (Below.refl _ w0).drew)
    have HB0d : Hid (Below S w w0.drew) := Lib.hid HB0.out.drew
    refine wp_region_noPanic ?_
    refine wp_region_held_drew (S := fun w' => True) (by kernel_rfl) ?_ (fun hHeld => ?_)
    · trivial
    refine wpAnyH_take (i := 0) (v := ?_) (by (simp only [List.getElem?_toArray, List.getElem?_cons_zero]; rfl)) (by kernel_rfl) (by kernel_rfl) (by kernel_rfl) (fun _ _ _ h => h) (Or.inl ⟨by rfl, ?_⟩) (by assumption) ?_
    rotate_left
    · (intro w hSw; (try dsimp only at hSw); go_simp; try with_reducible rfl)
    try simp only [Act.put, List.setIfInBounds_toArray, List.set_cons_zero, List.set_cons_succ]
    refine wpAnyH_take (i := 1) (v := ?_) (by (simp only [List.getElem?_toArray, List.getElem?_cons_succ, List.getElem?_cons_zero]; rfl)) (by kernel_rfl) (by kernel_rfl) (by kernel_rfl) (fun _ _ _ h => h) (Or.inl ⟨by rfl, ?_⟩) (by assumption) ?_
    rotate_left
    · (intro w hSw; (try dsimp only at hSw); go_simp; try with_reducible rfl)
    try simp only [Act.put, List.setIfInBounds_toArray, List.set_cons_zero, List.set_cons_succ]
    refine wpAnyH_take (i := 2) (v := ?_) (by (simp only [List.getElem?_toArray, List.getElem?_cons_succ, List.getElem?_cons_zero]; rfl)) (by kernel_rfl) (by kernel_rfl) (by kernel_rfl) (fun _ _ _ h => h) (Or.inl ⟨by rfl, ?_⟩) (by assumption) ?_
    rotate_left
    · (intro w hSw; (try dsimp only at hSw); go_simp; try with_reducible rfl)
    try simp only [Act.put, List.setIfInBounds_toArray, List.set_cons_zero, List.set_cons_succ]
    refine wpAnyH_take (i := 3) (v := undef) (by (simp only [List.getElem?_toArray, List.getElem?_cons_succ, List.getElem?_cons_zero]; rfl)) (by kernel_rfl) (by kernel_rfl) (by kernel_rfl) (fun _ _ _ h => h) (Or.inr ⟨by rfl, rfl⟩) (by assumption) ?_
    try simp only [Act.put, List.setIfInBounds_toArray, List.set_cons_zero, List.set_cons_succ]
    refine wpAnyH_take (i := 4) (v := undef) (by (simp only [List.getElem?_toArray, List.getElem?_cons_succ, List.getElem?_cons_zero]; rfl)) (by kernel_rfl) (by kernel_rfl) (by kernel_rfl) (fun _ _ _ h => h) (Or.inr ⟨by rfl, rfl⟩) (by assumption) ?_
    try simp only [Act.put, List.setIfInBounds_toArray, List.set_cons_zero, List.set_cons_succ]
    refine wpAnyH_take (i := 5) (v := undef) (by (simp only [List.getElem?_toArray, List.getElem?_cons_succ, List.getElem?_cons_zero]; rfl)) (by kernel_rfl) (by kernel_rfl) (by kernel_rfl) (fun _ _ _ h => h) (Or.inr ⟨by rfl, rfl⟩) (by assumption) ?_
    try simp only [Act.put, List.setIfInBounds_toArray, List.set_cons_zero, List.set_cons_succ]
    refine wpAnyH_take (i := 6) (v := ?_) (by (simp only [List.getElem?_toArray, List.getElem?_cons_succ, List.getElem?_cons_zero]; rfl)) (by kernel_rfl) (by kernel_rfl) (by kernel_rfl) (fun _ _ _ h => h) (Or.inl ⟨by rfl, ?_⟩) (by assumption) ?_
    rotate_left
    · (intro w hSw; (try dsimp only at hSw); go_simp; try with_reducible rfl)
    try simp only [Act.put, List.setIfInBounds_toArray, List.set_cons_zero, List.set_cons_succ]
    refine wpAnyH_take (i := 7) (v := ?_) (by (simp only [List.getElem?_toArray, List.getElem?_cons_succ, List.getElem?_cons_zero]; rfl)) (by kernel_rfl) (by kernel_rfl) (by kernel_rfl) (fun _ _ _ h => h) (Or.inl ⟨by rfl, ?_⟩) (by assumption) ?_
    rotate_left
    · (intro w hSw; (try dsimp only at hSw); go_simp; try with_reducible rfl)
    try simp only [Act.put, List.setIfInBounds_toArray, List.set_cons_zero, List.set_cons_succ]
    refine wpAnyH_take (i := 8) (v := undef) (by (simp only [List.getElem?_toArray, List.getElem?_cons_succ, List.getElem?_cons_zero]; rfl)) (by kernel_rfl) (by kernel_rfl) (by kernel_rfl) (fun _ _ _ h => h) (Or.inr ⟨by rfl, rfl⟩) (by assumption) ?_
    try simp only [Act.put, List.setIfInBounds_toArray, List.set_cons_zero, List.set_cons_succ]
    refine wpAnyH_take (i := 9) (v := undef) (by (simp only [List.getElem?_toArray, List.getElem?_cons_succ, List.getElem?_cons_zero]; rfl)) (by kernel_rfl) (by kernel_rfl) (by kernel_rfl) (fun _ _ _ h => h) (Or.inr ⟨by rfl, rfl⟩) (by assumption) ?_
    try simp only [Act.put, List.setIfInBounds_toArray, List.set_cons_zero, List.set_cons_succ]
    refine wpAnyH_take (i := 10) (v := undef) (by (simp only [List.getElem?_toArray, List.getElem?_cons_succ, List.getElem?_cons_zero]; rfl)) (by kernel_rfl) (by kernel_rfl) (by kernel_rfl) (fun _ _ _ h => h) (Or.inr ⟨by rfl, rfl⟩) (by assumption) ?_
    try simp only [Act.put, List.setIfInBounds_toArray, List.set_cons_zero, List.set_cons_succ]
    refine wpAnyH_take (i := 11) (v := undef) (by (simp only [List.getElem?_toArray, List.getElem?_cons_succ, List.getElem?_cons_zero]; rfl)) (by kernel_rfl) (by kernel_rfl) (by kernel_rfl) (fun _ _ _ h => h) (Or.inr ⟨by rfl, rfl⟩) (by assumption) ?_
    try simp only [Act.put, List.setIfInBounds_toArray, List.set_cons_zero, List.set_cons_succ]
    refine wpAnyH_take (i := 12) (v := undef) (by (simp only [List.getElem?_toArray, List.getElem?_cons_succ, List.getElem?_cons_zero]; rfl)) (by kernel_rfl) (by kernel_rfl) (by kernel_rfl) (fun _ _ _ h => h) (Or.inr ⟨by rfl, rfl⟩) (by assumption) ?_
    try simp only [Act.put, List.setIfInBounds_toArray, List.set_cons_zero, List.set_cons_succ]
    refine wpAnyH_take (i := 13) (v := undef) (by (simp only [List.getElem?_toArray, List.getElem?_cons_succ, List.getElem?_cons_zero]; rfl)) (by kernel_rfl) (by kernel_rfl) (by kernel_rfl) (fun _ _ _ h => h) (Or.inr ⟨by rfl, rfl⟩) (by assumption) ?_
    try simp only [Act.put, List.setIfInBounds_toArray, List.set_cons_zero, List.set_cons_succ]
    refine wpAnyH_take (i := 14) (v := undef) (by (simp only [List.getElem?_toArray, List.getElem?_cons_succ, List.getElem?_cons_zero]; rfl)) (by kernel_rfl) (by kernel_rfl) (by kernel_rfl) (fun _ _ _ h => h) (Or.inr ⟨by rfl, rfl⟩) (by assumption) ?_
    try simp only [Act.put, List.setIfInBounds_toArray, List.set_cons_zero, List.set_cons_succ]
    refine wpAnyH_take (i := 15) (v := undef) (by (simp only [List.getElem?_toArray, List.getElem?_cons_succ, List.getElem?_cons_zero]; rfl)) (by kernel_rfl) (by kernel_rfl) (by kernel_rfl) (fun _ _ _ h => h) (Or.inr ⟨by rfl, rfl⟩) (by assumption) ?_
    try simp only [Act.put, List.setIfInBounds_toArray, List.set_cons_zero, List.set_cons_succ]
    refine wpAnyH_take (i := 16) (v := undef) (by (simp only [List.getElem?_toArray, List.getElem?_cons_succ, List.getElem?_cons_zero]; rfl)) (by kernel_rfl) (by kernel_rfl) (by kernel_rfl) (fun _ _ _ h => h) (Or.inr ⟨by rfl, rfl⟩) (by assumption) ?_
    try simp only [Act.put, List.setIfInBounds_toArray, List.set_cons_zero, List.set_cons_succ]
    refine wpAnyH_take (i := 17) (v := undef) (by (simp only [List.getElem?_toArray, List.getElem?_cons_succ, List.getElem?_cons_zero]; rfl)) (by kernel_rfl) (by kernel_rfl) (by kernel_rfl) (fun _ _ _ h => h) (Or.inr ⟨by rfl, rfl⟩) (by assumption) ?_
    try simp only [Act.put, List.setIfInBounds_toArray, List.set_cons_zero, List.set_cons_succ]
    refine wpAnyH_take (i := 18) (v := undef) (by (simp only [List.getElem?_toArray, List.getElem?_cons_succ, List.getElem?_cons_zero]; rfl)) (by kernel_rfl) (by kernel_rfl) (by kernel_rfl) (fun _ _ _ h => h) (Or.inr ⟨by rfl, rfl⟩) (by assumption) ?_
    try simp only [Act.put, List.setIfInBounds_toArray, List.set_cons_zero, List.set_cons_succ]
    refine wpAnyH_take (i := 19) (v := ?_) (by (simp only [List.getElem?_toArray, List.getElem?_cons_succ, List.getElem?_cons_zero]; rfl)) (by kernel_rfl) (by kernel_rfl) (by kernel_rfl) (fun _ _ _ h => h) (Or.inl ⟨by rfl, ?_⟩) (by assumption) ?_
    rotate_left
    · (intro w hSw; (try dsimp only at hSw); go_simp; try with_reducible rfl)
    try simp only [Act.put, List.setIfInBounds_toArray, List.set_cons_zero, List.set_cons_succ]
    refine wpAnyH_done (by kernel_rfl) ?_ _
    refine NoPanic.normal ?_
    clear hHeld
    go_wp2_with fail
    refine bodyPost_ret (v := .tuple #[.slice A n c, .bool true]) (by simp [results, Tryd.results24, go_sem]) rfl ?_
    exact H0d.out.same HB0d.out
  · skip
    go_wp2_with fail
    have hhas : hasB ix l.length = false := by simp only [hasB, Bool.and_eq_false_iff, decide_eq_false_iff_not]; rw [← HL.out]; omega
    have HAS := Lib.hid (has_any w0 H0.out.net ix)
    rw [hhas] at HAS
    clear x0 x1 x2 x3 x4
    refine (spoil_none w0 ix bit _ HAS.out).mono ?_
    rintro e w1 ⟨rfl, rfl⟩
    go_upto_region 21 with (fail)
    have H0d := Lib.hid (H0.out.below (Below.refl _ w0).drew)
    have HB0d : Hid (Below S w w0.drew) := Lib.hid HB0.out.drew
    refine wp_region_noPanic ?_
    refine wp_region_held_drew (S := fun w' => True) (by kernel_rfl) ?_ (fun hHeld => ?_)
    · trivial
    refine wpAnyH_take (i := 0) (v := ?_) (by (simp only [List.getElem?_toArray, List.getElem?_cons_zero]; rfl)) (by kernel_rfl) (by kernel_rfl) (by kernel_rfl) (fun _ _ _ h => h) (Or.inl ⟨by rfl, ?_⟩) (by assumption) ?_
    rotate_left
    · (intro w hSw; (try dsimp only at hSw); go_simp; try with_reducible rfl)
    try simp only [Act.put, List.setIfInBounds_toArray, List.set_cons_zero, List.set_cons_succ]
    refine wpAnyH_take (i := 1) (v := ?_) (by (simp only [List.getElem?_toArray, List.getElem?_cons_succ, List.getElem?_cons_zero]; rfl)) (by kernel_rfl) (by kernel_rfl) (by kernel_rfl) (fun _ _ _ h => h) (Or.inl ⟨by rfl, ?_⟩) (by assumption) ?_
    rotate_left
    · (intro w hSw; (try dsimp only at hSw); go_simp; try with_reducible rfl)
    try simp only [Act.put, List.setIfInBounds_toArray, List.set_cons_zero, List.set_cons_succ]
    refine wpAnyH_take (i := 2) (v := ?_) (by (simp only [List.getElem?_toArray, List.getElem?_cons_succ, List.getElem?_cons_zero]; rfl)) (by kernel_rfl) (by kernel_rfl) (by kernel_rfl) (fun _ _ _ h => h) (Or.inl ⟨by rfl, ?_⟩) (by assumption) ?_
    rotate_left
    · (intro w hSw; (try dsimp only at hSw); go_simp; try with_reducible rfl)
    try simp only [Act.put, List.setIfInBounds_toArray, List.set_cons_zero, List.set_cons_succ]
    refine wpAnyH_take (i := 3) (v := undef) (by (simp only [List.getElem?_toArray, List.getElem?_cons_succ, List.getElem?_cons_zero]; rfl)) (by kernel_rfl) (by kernel_rfl) (by kernel_rfl) (fun _ _ _ h => h) (Or.inr ⟨by rfl, rfl⟩) (by assumption) ?_
    try simp only [Act.put, List.setIfInBounds_toArray, List.set_cons_zero, List.set_cons_succ]
    refine wpAnyH_take (i := 4) (v := undef) (by (simp only [List.getElem?_toArray, List.getElem?_cons_succ, List.getElem?_cons_zero]; rfl)) (by kernel_rfl) (by kernel_rfl) (by kernel_rfl) (fun _ _ _ h => h) (Or.inr ⟨by rfl, rfl⟩) (by assumption) ?_
    try simp only [Act.put, List.setIfInBounds_toArray, List.set_cons_zero, List.set_cons_succ]
    refine wpAnyH_take (i := 5) (v := undef) (by (simp only [List.getElem?_toArray, List.getElem?_cons_succ, List.getElem?_cons_zero]; rfl)) (by kernel_rfl) (by kernel_rfl) (by kernel_rfl) (fun _ _ _ h => h) (Or.inr ⟨by rfl, rfl⟩) (by assumption) ?_
    try simp only [Act.put, List.setIfInBounds_toArray, List.set_cons_zero, List.set_cons_succ]
    refine wpAnyH_take (i := 6) (v := ?_) (by (simp only [List.getElem?_toArray, List.getElem?_cons_succ, List.getElem?_cons_zero]; rfl)) (by kernel_rfl) (by kernel_rfl) (by kernel_rfl) (fun _ _ _ h => h) (Or.inl ⟨by rfl, ?_⟩) (by assumption) ?_
    rotate_left
    · (intro w hSw; (try dsimp only at hSw); go_simp; try with_reducible rfl)
    try simp only [Act.put, List.setIfInBounds_toArray, List.set_cons_zero, List.set_cons_succ]
    refine wpAnyH_take (i := 7) (v := ?_) (by (simp only [List.getElem?_toArray, List.getElem?_cons_succ, List.getElem?_cons_zero]; rfl)) (by kernel_rfl) (by kernel_rfl) (by kernel_rfl) (fun _ _ _ h => h) (Or.inl ⟨by rfl, ?_⟩) (by assumption) ?_
    rotate_left
    · (intro w hSw; (try dsimp only at hSw); go_simp; try with_reducible rfl)
    try simp only [Act.put, List.setIfInBounds_toArray, List.set_cons_zero, List.set_cons_succ]
    refine wpAnyH_take (i := 8) (v := undef) (by (simp only [List.getElem?_toArray, List.getElem?_cons_succ, List.getElem?_cons_zero]; rfl)) (by kernel_rfl) (by kernel_rfl) (by kernel_rfl) (fun _ _ _ h => h) (Or.inr ⟨by rfl, rfl⟩) (by assumption) ?_
    try simp only [Act.put, List.setIfInBounds_toArray, List.set_cons_zero, List.set_cons_succ]
    refine wpAnyH_take (i := 9) (v := undef) (by (simp only [List.getElem?_toArray, List.getElem?_cons_succ, List.getElem?_cons_zero]; rfl)) (by kernel_rfl) (by kernel_rfl) (by kernel_rfl) (fun _ _ _ h => h) (Or.inr ⟨by rfl, rfl⟩) (by assumption) ?_
    try simp only [Act.put, List.setIfInBounds_toArray, List.set_cons_zero, List.set_cons_succ]
    refine wpAnyH_take (i := 10) (v := undef) (by (simp only [List.getElem?_toArray, List.getElem?_cons_succ, List.getElem?_cons_zero]; rfl)) (by kernel_rfl) (by kernel_rfl) (by kernel_rfl) (fun _ _ _ h => h) (Or.inr ⟨by rfl, rfl⟩) (by assumption) ?_
    try simp only [Act.put, List.setIfInBounds_toArray, List.set_cons_zero, List.set_cons_succ]
    refine wpAnyH_take (i := 11) (v := undef) (by (simp only [List.getElem?_toArray, List.getElem?_cons_succ, List.getElem?_cons_zero]; rfl)) (by kernel_rfl) (by kernel_rfl) (by kernel_rfl) (fun _ _ _ h => h) (Or.inr ⟨by rfl, rfl⟩) (by assumption) ?_
    try simp only [Act.put, List.setIfInBounds_toArray, List.set_cons_zero, List.set_cons_succ]
    refine wpAnyH_take (i := 12) (v := undef) (by (simp only [List.getElem?_toArray, List.getElem?_cons_succ, List.getElem?_cons_zero]; rfl)) (by kernel_rfl) (by kernel_rfl) (by kernel_rfl) (fun _ _ _ h => h) (Or.inr ⟨by rfl, rfl⟩) (by assumption) ?_
    try simp only [Act.put, List.setIfInBounds_toArray, List.set_cons_zero, List.set_cons_succ]
    refine wpAnyH_take (i := 13) (v := undef) (by (simp only [List.getElem?_toArray, List.getElem?_cons_succ, List.getElem?_cons_zero]; rfl)) (by kernel_rfl) (by kernel_rfl) (by kernel_rfl) (fun _ _ _ h => h) (Or.inr ⟨by rfl, rfl⟩) (by assumption) ?_
    try simp only [Act.put, List.setIfInBounds_toArray, List.set_cons_zero, List.set_cons_succ]
    refine wpAnyH_take (i := 14) (v := undef) (by (simp only [List.getElem?_toArray, List.getElem?_cons_succ, List.getElem?_cons_zero]; rfl)) (by kernel_rfl) (by kernel_rfl) (by kernel_rfl) (fun _ _ _ h => h) (Or.inr ⟨by rfl, rfl⟩) (by assumption) ?_
    try simp only [Act.put, List.setIfInBounds_toArray, List.set_cons_zero, List.set_cons_succ]
    refine wpAnyH_take (i := 15) (v := undef) (by (simp only [List.getElem?_toArray, List.getElem?_cons_succ, List.getElem?_cons_zero]; rfl)) (by kernel_rfl) (by kernel_rfl) (by kernel_rfl) (fun _ _ _ h => h) (Or.inr ⟨by rfl, rfl⟩) (by assumption) ?_
    try simp only [Act.put, List.setIfInBounds_toArray, List.set_cons_zero, List.set_cons_succ]
    refine wpAnyH_take (i := 16) (v := undef) (by (simp only [List.getElem?_toArray, List.getElem?_cons_succ, List.getElem?_cons_zero]; rfl)) (by kernel_rfl) (by kernel_rfl) (by kernel_rfl) (fun _ _ _ h => h) (Or.inr ⟨by rfl, rfl⟩) (by assumption) ?_
    try simp only [Act.put, List.setIfInBounds_toArray, List.set_cons_zero, List.set_cons_succ]
    refine wpAnyH_take (i := 17) (v := undef) (by (simp only [List.getElem?_toArray, List.getElem?_cons_succ, List.getElem?_cons_zero]; rfl)) (by kernel_rfl) (by kernel_rfl) (by kernel_rfl) (fun _ _ _ h => h) (Or.inr ⟨by rfl, rfl⟩) (by assumption) ?_
    try simp only [Act.put, List.setIfInBounds_toArray, List.set_cons_zero, List.set_cons_succ]
    refine wpAnyH_take (i := 18) (v := undef) (by (simp only [List.getElem?_toArray, List.getElem?_cons_succ, List.getElem?_cons_zero]; rfl)) (by kernel_rfl) (by kernel_rfl) (by kernel_rfl) (fun _ _ _ h => h) (Or.inr ⟨by rfl, rfl⟩) (by assumption) ?_
    try simp only [Act.put, List.setIfInBounds_toArray, List.set_cons_zero, List.set_cons_succ]
    refine wpAnyH_take (i := 19) (v := ?_) (by (simp only [List.getElem?_toArray, List.getElem?_cons_succ, List.getElem?_cons_zero]; rfl)) (by kernel_rfl) (by kernel_rfl) (by kernel_rfl) (fun _ _ _ h => h) (Or.inl ⟨by rfl, ?_⟩) (by assumption) ?_
    rotate_left
    · (intro w hSw; (try dsimp only at hSw); go_simp; try with_reducible rfl)
    try simp only [Act.put, List.setIfInBounds_toArray, List.set_cons_zero, List.set_cons_succ]
    refine wpAnyH_done (by kernel_rfl) ?_ _
    refine NoPanic.normal ?_
    clear hHeld
    go_wp2_with fail
    refine bodyPost_ret (v := .tuple #[.slice A n c, .bool true]) (by simp [results, Tryd.results24, go_sem]) rfl ?_
    exact H0d.out.same HB0d.out
set_option maxRecDepth 100000 in
set_option maxHeartbeats 4000000 in
theorem done_6N (kd  to_ bit : Int) (j : Nat) (Ab : Option Addr) (nb cb : Nat) (bs : List UInt8) {w : World} {S B N Lc n c : Nat} {LA A : Option Addr} {l : List Pv} (h : Both w S B N LA Lc A n c l) (hSB : S ≤ B) (hby : BytesIn w S Ab cb bs) (hnb : nb = bs.length) (_hbs : nb ≤ 1000) (hj : j < n) (hk : bits .and .i64 kd 7 = 6) (hbit : bit < 0) :
    Calls Tryd.prog 24 #[.pointer (some ⟨N, 0, none⟩), .slice A n c, .agg #[.int .i64 kd, .int .i64 j, .int .i64 to_, .int .i64 bit, .slice Ab nb cb]] w fun e w' => DoneTo w S B N e w' := by
  obtain ⟨X, hX⟩ : ∃ x, x = w.heap.size := ⟨_, rfl⟩
  obtain ⟨w0, hw0⟩ : ∃ y, y = w.alloc (.cells #[.int .i64 kd, .int .i64 j, .int .i64 to_, .int .i64 bit, .slice Ab nb cb] 51) := ⟨_, rfl⟩
  have hal : Below w.heap.size w w0 := by rw [hw0]; exact (Below.refl _ _).alloc (Nat.le_refl _) _
  have hx : w0.heap[X]? = some (.cells #[.int .i64 kd, .int .i64 j, .int .i64 to_, .int .i64 bit, .slice Ab nb cb] 51 (0, 0)) := by rw [hw0, hX]; exact heap_alloc_new w _
  have hSw : S ≤ w.heap.size := Nat.le_trans hSB h.size
  have H0 := Lib.hid (h.below hal)
  have HX0 := Lib.hid hx
  have HB0 := Lib.hid (hal.mono hSw)
  have HY0 := Lib.hid (hby.below (hal.mono hSw) (Nat.le_refl _))
  have HNB := Lib.hid hnb
  have HL := Lib.hid h.len
  have HW := Lib.hid hw0
  have HXW := Lib.hid hX
  have hs0 : S ≤ w0.heap.size := Nat.le_trans hSw hal.size
  have hXs : X < w0.heap.size := ltb hx
  have hSX : S ≤ X := by omega
  have hn1000 : n ≤ 1000 := by have := h.good.1; have := h.len; omega
  have x0 := cellb (i := 0) hx rfl
  have x1 := cellb (i := 1) hx rfl
  have x2 := cellb (i := 2) hx rfl
  have x3 := cellb (i := 3) hx rfl
  have x4 := cellb (i := 4) hx rfl
  obtain ⟨p, hp⟩ : ∃ p, l[j]? = some p := ⟨l[j]'(by have := h.len; omega), List.getElem?_eq_getElem (by have := h.len; omega)⟩
  obtain ⟨rb, hrA, hrb, hr0, hr1⟩ := h.pk hp
  subst hrA
  have hrb0 : rb < w0.heap.size := Nat.lt_of_lt_of_le hrb hal.size
  have HRC := Lib.hid (And.intro ((hal.cell (p := ⟨rb, j * 2, none⟩) hrb).trans hr0) ((hal.cell (p := ⟨rb, j * 2 + 1, none⟩) hrb).trans hr1))
  have HP := Lib.hid hp
  have hpl : p.l.length ≤ 1000 := h.good.2 p (List.mem_of_getElem? hp)
  clear hp hrb hr0 hr1
  clear hw0 hal hx h hby hnb hX hSw
  go_enter Tryd.func24, Tryd.ntmps24
  go_upto_region 1 with fail
  rw [← HXW.out, ← HW.out]
  clear HW HXW
  have hj0 : (0 : Int) ≤ (j : Int) := by omega
  have hjn : (j : Int) < (n : Int) := by omega
  obtain ⟨pl, hpe⟩ : ∃ x, x = p.l := ⟨_, rfl⟩
  obtain ⟨m, hm⟩ : ∃ m, m = pl.length := ⟨_, rfl⟩
  have hsz : (str pl).size = m := by rw [str_size, hm]
  have hjl : j < l.length := by have := HL.out; omega
  have HAS := Lib.hid (has_any w0 H0.out.net (j : Int))
  rw [show hasB (j : Int) l.length = true by simp [hasB]; exact hjl] at HAS
  rw [← hpe] at HRC
  have HSZ := Lib.hid hsz
  clear hpe hm hpl hjl hsz
  go_wp2_with fail
  clear x0 x1 x2 x3 x4
  refine (spoil_neg w0 j bit _ hbit HAS.out).mono ?_
  rintro e w1 ⟨rfl, rfl⟩
  go_upto_region 21 with (fail)
  have f0 : w0.drew.cell? ⟨X, 1, none⟩ = some (.int .i64 j) := cellb (i := 1) (show w0.drew.heap[X]? = _ from HX0.out) rfl
  have f1 : w0.drew.cell? ⟨X, 3, none⟩ = some (.int .i64 bit) := cellb (i := 3) (show w0.drew.heap[X]? = _ from HX0.out) rfl
  have f2 : w0.drew.cell? ⟨rb, j * 2 + 1, none⟩ = some (.string (str pl)) := HRC.out.2
  have H0d := Lib.hid (H0.out.below (Below.refl _ w0).drew)
  have HB0d : Hid (Below S w w0.drew) := Lib.hid HB0.out.drew
  refine wp_region_noPanic ?_
  refine wp_region_held_drew (S := fun w' => w'.cell? ⟨X, 1, none⟩ = some (.int .i64 j) ∧ w'.cell? ⟨X, 3, none⟩ = some (.int .i64 bit) ∧ w'.cell? ⟨rb, j * 2 + 1, none⟩ = some (.string (str pl))) (by kernel_rfl) ?_ (fun hHeld => ?_)
  · try dsimp only
    (refine ⟨?_, ?_, ?_⟩ <;> (first | with_reducible assumption))
  refine wpAnyH_take (i := 0) (v := ?_) (by (simp only [List.getElem?_toArray, List.getElem?_cons_zero]; rfl)) (by kernel_rfl) (by kernel_rfl) (by kernel_rfl) (fun _ _ _ h => h) (Or.inl ⟨by rfl, ?_⟩) (by assumption) ?_
  rotate_left
  · (intro w hSw; (try dsimp only at hSw); go_simp; try with_reducible rfl)
  try simp only [Act.put, List.setIfInBounds_toArray, List.set_cons_zero, List.set_cons_succ]
  refine wpAnyH_take (i := 1) (v := ?_) (by (simp only [List.getElem?_toArray, List.getElem?_cons_succ, List.getElem?_cons_zero]; rfl)) (by kernel_rfl) (by kernel_rfl) (by kernel_rfl) (fun _ _ _ h => h) (Or.inl ⟨by rfl, ?_⟩) (by assumption) ?_
  rotate_left
  · (intro w hSw; (try dsimp only at hSw); go_simp; try with_reducible rfl)
  try simp only [Act.put, List.setIfInBounds_toArray, List.set_cons_zero, List.set_cons_succ]
  refine wpAnyH_take (i := 2) (v := ?_) (by (simp only [List.getElem?_toArray, List.getElem?_cons_succ, List.getElem?_cons_zero]; rfl)) (by kernel_rfl) (by kernel_rfl) (by kernel_rfl) (fun _ _ _ h => h) (Or.inl ⟨by rfl, ?_⟩) (by assumption) ?_
  rotate_left
  · (intro w hSw; (try dsimp only at hSw); go_simp; try with_reducible rfl)
  try simp only [Act.put, List.setIfInBounds_toArray, List.set_cons_zero, List.set_cons_succ]
  refine wpAnyH_take (i := 3) (v := ?_) (by (simp only [List.getElem?_toArray, List.getElem?_cons_succ, List.getElem?_cons_zero]; rfl)) (by kernel_rfl) (by kernel_rfl) (by kernel_rfl) (fun _ _ _ h => h) (Or.inl ⟨by rfl, ?_⟩) (by assumption) ?_
  rotate_left
  · (intro w hSw; (try dsimp only at hSw); go_simp; try with_reducible rfl)
  try simp only [Act.put, List.setIfInBounds_toArray, List.set_cons_zero, List.set_cons_succ]
  refine wpAnyH_take (i := 4) (v := ?_) (by (simp only [List.getElem?_toArray, List.getElem?_cons_succ, List.getElem?_cons_zero]; rfl)) (by kernel_rfl) (by kernel_rfl) (by kernel_rfl) (fun _ _ _ h => h) (Or.inl ⟨by rfl, ?_⟩) (by assumption) ?_
  rotate_left
  · (intro w hSw; (try dsimp only at hSw); go_simp; try with_reducible rfl)
  try simp only [Act.put, List.setIfInBounds_toArray, List.set_cons_zero, List.set_cons_succ]
  refine wpAnyH_take (i := 5) (v := ?_) (by (simp only [List.getElem?_toArray, List.getElem?_cons_succ, List.getElem?_cons_zero]; rfl)) (by kernel_rfl) (by kernel_rfl) (by kernel_rfl) (fun _ _ _ h => h) (Or.inl ⟨by rfl, ?_⟩) (by assumption) ?_
  rotate_left
  · (intro w hSw; (try dsimp only at hSw); go_simp; try with_reducible rfl)
  try simp only [Act.put, List.setIfInBounds_toArray, List.set_cons_zero, List.set_cons_succ]
  refine wpAnyH_take (i := 6) (v := ?_) (by (simp only [List.getElem?_toArray, List.getElem?_cons_succ, List.getElem?_cons_zero]; rfl)) (by kernel_rfl) (by kernel_rfl) (by kernel_rfl) (fun _ _ _ h => h) (Or.inl ⟨by rfl, ?_⟩) (by assumption) ?_
  rotate_left
  · (intro w hSw; (try dsimp only at hSw); go_simp; try with_reducible rfl)
  try simp only [Act.put, List.setIfInBounds_toArray, List.set_cons_zero, List.set_cons_succ]
  refine wpAnyH_take (i := 7) (v := ?_) (by (simp only [List.getElem?_toArray, List.getElem?_cons_succ, List.getElem?_cons_zero]; rfl)) (by kernel_rfl) (by kernel_rfl) (by kernel_rfl) (fun _ _ _ h => h) (Or.inl ⟨by rfl, ?_⟩) (by assumption) ?_
  rotate_left
  · (intro w hSw; (try dsimp only at hSw); go_simp; try with_reducible rfl)
  try simp only [Act.put, List.setIfInBounds_toArray, List.set_cons_zero, List.set_cons_succ]
  refine wpAnyH_take (i := 8) (v := undef) (by (simp only [List.getElem?_toArray, List.getElem?_cons_succ, List.getElem?_cons_zero]; rfl)) (by kernel_rfl) (by kernel_rfl) (by kernel_rfl) (fun _ _ _ h => h) (Or.inr ⟨by rfl, rfl⟩) (by assumption) ?_
  try simp only [Act.put, List.setIfInBounds_toArray, List.set_cons_zero, List.set_cons_succ]
  refine wpAnyH_take (i := 9) (v := undef) (by (simp only [List.getElem?_toArray, List.getElem?_cons_succ, List.getElem?_cons_zero]; rfl)) (by kernel_rfl) (by kernel_rfl) (by kernel_rfl) (fun _ _ _ h => h) (Or.inr ⟨by rfl, rfl⟩) (by assumption) ?_
  try simp only [Act.put, List.setIfInBounds_toArray, List.set_cons_zero, List.set_cons_succ]
  refine wpAnyH_take (i := 10) (v := undef) (by (simp only [List.getElem?_toArray, List.getElem?_cons_succ, List.getElem?_cons_zero]; rfl)) (by kernel_rfl) (by kernel_rfl) (by kernel_rfl) (fun _ _ _ h => h) (Or.inr ⟨by rfl, rfl⟩) (by assumption) ?_
  try simp only [Act.put, List.setIfInBounds_toArray, List.set_cons_zero, List.set_cons_succ]
  refine wpAnyH_take (i := 11) (v := undef) (by (simp only [List.getElem?_toArray, List.getElem?_cons_succ, List.getElem?_cons_zero]; rfl)) (by kernel_rfl) (by kernel_rfl) (by kernel_rfl) (fun _ _ _ h => h) (Or.inr ⟨by rfl, rfl⟩) (by assumption) ?_
  try simp only [Act.put, List.setIfInBounds_toArray, List.set_cons_zero, List.set_cons_succ]
  refine wpAnyH_take (i := 12) (v := undef) (by (simp only [List.getElem?_toArray, List.getElem?_cons_succ, List.getElem?_cons_zero]; rfl)) (by kernel_rfl) (by kernel_rfl) (by kernel_rfl) (fun _ _ _ h => h) (Or.inr ⟨by rfl, rfl⟩) (by assumption) ?_
  try simp only [Act.put, List.setIfInBounds_toArray, List.set_cons_zero, List.set_cons_succ]
  refine wpAnyH_take (i := 13) (v := undef) (by (simp only [List.getElem?_toArray, List.getElem?_cons_succ, List.getElem?_cons_zero]; rfl)) (by kernel_rfl) (by kernel_rfl) (by kernel_rfl) (fun _ _ _ h => h) (Or.inr ⟨by rfl, rfl⟩) (by assumption) ?_
  try simp only [Act.put, List.setIfInBounds_toArray, List.set_cons_zero, List.set_cons_succ]
  refine wpAnyH_take (i := 14) (v := undef) (by (simp only [List.getElem?_toArray, List.getElem?_cons_succ, List.getElem?_cons_zero]; rfl)) (by kernel_rfl) (by kernel_rfl) (by kernel_rfl) (fun _ _ _ h => h) (Or.inr ⟨by rfl, rfl⟩) (by assumption) ?_
  try simp only [Act.put, List.setIfInBounds_toArray, List.set_cons_zero, List.set_cons_succ]
  refine wpAnyH_take (i := 15) (v := undef) (by (simp only [List.getElem?_toArray, List.getElem?_cons_succ, List.getElem?_cons_zero]; rfl)) (by kernel_rfl) (by kernel_rfl) (by kernel_rfl) (fun _ _ _ h => h) (Or.inr ⟨by rfl, rfl⟩) (by assumption) ?_
  try simp only [Act.put, List.setIfInBounds_toArray, List.set_cons_zero, List.set_cons_succ]
  refine wpAnyH_take (i := 16) (v := undef) (by (simp only [List.getElem?_toArray, List.getElem?_cons_succ, List.getElem?_cons_zero]; rfl)) (by kernel_rfl) (by kernel_rfl) (by kernel_rfl) (fun _ _ _ h => h) (Or.inr ⟨by rfl, rfl⟩) (by assumption) ?_
  try simp only [Act.put, List.setIfInBounds_toArray, List.set_cons_zero, List.set_cons_succ]
  refine wpAnyH_take (i := 17) (v := undef) (by (simp only [List.getElem?_toArray, List.getElem?_cons_succ, List.getElem?_cons_zero]; rfl)) (by kernel_rfl) (by kernel_rfl) (by kernel_rfl) (fun _ _ _ h => h) (Or.inr ⟨by rfl, rfl⟩) (by assumption) ?_
  try simp only [Act.put, List.setIfInBounds_toArray, List.set_cons_zero, List.set_cons_succ]
  refine wpAnyH_take (i := 18) (v := undef) (by (simp only [List.getElem?_toArray, List.getElem?_cons_succ, List.getElem?_cons_zero]; rfl)) (by kernel_rfl) (by kernel_rfl) (by kernel_rfl) (fun _ _ _ h => h) (Or.inr ⟨by rfl, rfl⟩) (by assumption) ?_
  try simp only [Act.put, List.setIfInBounds_toArray, List.set_cons_zero, List.set_cons_succ]
  refine wpAnyH_take (i := 19) (v := ?_) (by (simp only [List.getElem?_toArray, List.getElem?_cons_succ, List.getElem?_cons_zero]; rfl)) (by kernel_rfl) (by kernel_rfl) (by kernel_rfl) (fun _ _ _ h => h) (Or.inl ⟨by rfl, ?_⟩) (by assumption) ?_
  rotate_left
  · (intro w hSw; (try dsimp only at hSw); go_simp; try with_reducible rfl)
  try simp only [Act.put, List.setIfInBounds_toArray, List.set_cons_zero, List.set_cons_succ]
  refine wpAnyH_done (by kernel_rfl) ?_ _
  refine NoPanic.normal ?_
  clear hHeld f0 f1 f2
  go_wp2_with fail
  refine bodyPost_ret (v := .tuple #[.slice (some ⟨rb, 0, none⟩) n c, .bool true]) (by simp [results, Tryd.results24, go_sem]) rfl ?_
  exact H0d.out.same HB0d.out
set_option maxRecDepth 100000 in
set_option maxHeartbeats 4000000 in
theorem done_6R (kd  to_ bit : Int) (j : Nat) (Ab : Option Addr) (nb cb : Nat) (bs : List UInt8) {w : World} {S B N Lc n c : Nat} {LA A : Option Addr} {l : List Pv} (h : Both w S B N LA Lc A n c l) (hSB : S ≤ B) (hby : BytesIn w S Ab cb bs) (hnb : nb = bs.length) (_hbs : nb ≤ 1000) (hj : j < n) (hk : bits .and .i64 kd 7 = 6) (tt : Nat) (hbt : bit = (tt : Int)) (ht8 : tt ≤ 9223372036854775807) (hfar : ∀ p, l[j]? = some p → p.l.length ≤ tt / 8) :
    Calls Tryd.prog 24 #[.pointer (some ⟨N, 0, none⟩), .slice A n c, .agg #[.int .i64 kd, .int .i64 j, .int .i64 to_, .int .i64 bit, .slice Ab nb cb]] w fun e w' => DoneTo w S B N e w' := by
  obtain ⟨X, hX⟩ : ∃ x, x = w.heap.size := ⟨_, rfl⟩
  obtain ⟨w0, hw0⟩ : ∃ y, y = w.alloc (.cells #[.int .i64 kd, .int .i64 j, .int .i64 to_, .int .i64 bit, .slice Ab nb cb] 51) := ⟨_, rfl⟩
  have hal : Below w.heap.size w w0 := by rw [hw0]; exact (Below.refl _ _).alloc (Nat.le_refl _) _
  have hx : w0.heap[X]? = some (.cells #[.int .i64 kd, .int .i64 j, .int .i64 to_, .int .i64 bit, .slice Ab nb cb] 51 (0, 0)) := by rw [hw0, hX]; exact heap_alloc_new w _
  have hSw : S ≤ w.heap.size := Nat.le_trans hSB h.size
  have H0 := Lib.hid (h.below hal)
  have HX0 := Lib.hid hx
  have HB0 := Lib.hid (hal.mono hSw)
  have HY0 := Lib.hid (hby.below (hal.mono hSw) (Nat.le_refl _))
  have HNB := Lib.hid hnb
  have HL := Lib.hid h.len
  have HW := Lib.hid hw0
  have HXW := Lib.hid hX
  have hs0 : S ≤ w0.heap.size := Nat.le_trans hSw hal.size
  have hXs : X < w0.heap.size := ltb hx
  have hSX : S ≤ X := by omega
  have hn1000 : n ≤ 1000 := by have := h.good.1; have := h.len; omega
  have x0 := cellb (i := 0) hx rfl
  have x1 := cellb (i := 1) hx rfl
  have x2 := cellb (i := 2) hx rfl
  have x3 := cellb (i := 3) hx rfl
  have x4 := cellb (i := 4) hx rfl
  subst hbt
  obtain ⟨p, hp⟩ : ∃ p, l[j]? = some p := ⟨l[j]'(by have := h.len; omega), List.getElem?_eq_getElem (by have := h.len; omega)⟩
  obtain ⟨rb, hrA, hrb, hr0, hr1⟩ := h.pk hp
  subst hrA
  have hrb0 : rb < w0.heap.size := Nat.lt_of_lt_of_le hrb hal.size
  have HRC := Lib.hid (And.intro ((hal.cell (p := ⟨rb, j * 2, none⟩) hrb).trans hr0) ((hal.cell (p := ⟨rb, j * 2 + 1, none⟩) hrb).trans hr1))
  have HP := Lib.hid hp
  have hpl : p.l.length ≤ 1000 := h.good.2 p (List.mem_of_getElem? hp)
  clear hp hrb hr0 hr1
  clear hw0 hal hx h hby hnb hX hSw
  go_enter Tryd.func24, Tryd.ntmps24
  go_upto_region 1 with fail
  rw [← HXW.out, ← HW.out]
  clear HW HXW
  have hj0 : (0 : Int) ≤ (j : Int) := by omega
  have hjn : (j : Int) < (n : Int) := by omega
  obtain ⟨pl, hpe⟩ : ∃ x, x = p.l := ⟨_, rfl⟩
  obtain ⟨m, hm⟩ : ∃ m, m = pl.length := ⟨_, rfl⟩
  have hsz : (str pl).size = m := by rw [str_size, hm]
  have hjl : j < l.length := by have := HL.out; omega
  have HAS := Lib.hid (has_any w0 H0.out.net (j : Int))
  rw [show hasB (j : Int) l.length = true by simp [hasB]; exact hjl] at HAS
  rw [← hpe] at HRC
  obtain ⟨k, hk⟩ : ∃ k, k = tt / 8 := ⟨_, rfl⟩
  obtain ⟨r, hr⟩ : ∃ r, r = tt % 8 := ⟨_, rfl⟩
  have hr8 : r < 8 := by omega
  have HPT := Lib.hid hpe
  have hkm : m ≤ k := by rw [hm, hk, hpe]; exact hfar p HP.out
  have hqk : (m : Int) ≤ (k : Int) := by omega
  have hq5 : (0 : Int) ≤ (tt : Int) := Int.natCast_nonneg _
  have hq4 : ¬ (tt : Int) < 0 := by omega
  have hq8 : (0 : Int) ≤ (k : Int) := Int.natCast_nonneg _
  have hq2 : (tt : Int) / 8 = (k : Int) := by omega
  have hk63 : (k : Int) ≤ 9223372036854775807 := by omega
  have HQ6 : Hid ((tt : Int).tmod 8 = (r : Int)) := Lib.hid (by rw [Int.tmod_eq_emod_of_nonneg (Int.natCast_nonneg _)]; omega)
  have hq : (tt : Int).tdiv 8 = (k : Int) := by rw [Int.tdiv_eq_ediv_of_nonneg (Int.natCast_nonneg _)]; exact hq2
  have hqw : wrap64 (k : Int) = (k : Int) := wrap64_in _ (Int.le_trans (by decide) hq8) (Int.le_trans hk63 (by decide))
  have hqv : IntKind.i64.wrap (k : Int) = (k : Int) := IntWalk.i64_in _ ⟨Int.le_trans (by decide) hq8, hk63⟩
  have HKR := Lib.hid (And.intro hk hr)
  have HM := Lib.hid hm
  have HSZ := Lib.hid hsz
  have HQQ := Lib.hid (And.intro hqk (And.intro hq5 (And.intro hq4 (And.intro hq8 (And.intro hqw (And.intro hqv (And.intro hq2 hq)))))))
  clear hk63 hk hr hm hjl hpe hqk hq5 hq4 hq8 hqw hqv hq2 hq hsz
  go_wp2_with fail
  clear x0 x1 x2 x3 x4
  refine (spoil_far w0 H0.out.net HP.out tt ht8 (hfar p HP.out)).mono ?_
  rintro e w1 ⟨rfl, rfl⟩
  go_upto_region 21 with (fail)
  have H1d := Lib.hid (H0.out.below (Below.refl _ w0).drew)
  have HB1d : Hid (Below S w w0.drew) := Lib.hid HB0.out.drew
  have hX1 : w0.drew.heap[X]? = _ := HX0.out
  have f2 : w0.drew.cell? ⟨rb, j * 2 + 1, none⟩ = some (.string (str pl)) := HRC.out.2
  have f0 : w0.drew.cell? ⟨X, 1, none⟩ = some (.int .i64 j) := cellb (i := 1) hX1 rfl
  have f1 : w0.drew.cell? ⟨X, 3, none⟩ = some (.int .i64 tt) := cellb (i := 3) hX1 rfl
  clear hX1
  obtain ⟨hqk, hq5, hq4, hq8, hqw, hqv, hq2, hq⟩ := HQQ.out
  have hsz := HSZ.out
  refine wp_region_noPanic ?_
  refine wp_region_held_drew (S := fun w' => w'.cell? ⟨X, 1, none⟩ = some (.int .i64 j) ∧ w'.cell? ⟨X, 3, none⟩ = some (.int .i64 tt) ∧ w'.cell? ⟨rb, j * 2 + 1, none⟩ = some (.string (str pl))) (by kernel_rfl) ?_ (fun hHeld => ?_)
  · try dsimp only
    (refine ⟨?_, ?_, ?_⟩ <;> (first | with_reducible assumption))
  refine wpAnyH_take (i := 0) (v := ?_) (by (simp only [List.getElem?_toArray, List.getElem?_cons_zero]; rfl)) (by kernel_rfl) (by kernel_rfl) (by kernel_rfl) (fun _ _ _ h => h) (Or.inl ⟨by rfl, ?_⟩) (by assumption) ?_
  rotate_left
  · (intro w hSw; (try dsimp only at hSw); go_simp; try with_reducible rfl)
  try simp only [Act.put, List.setIfInBounds_toArray, List.set_cons_zero, List.set_cons_succ]
  refine wpAnyH_take (i := 1) (v := ?_) (by (simp only [List.getElem?_toArray, List.getElem?_cons_succ, List.getElem?_cons_zero]; rfl)) (by kernel_rfl) (by kernel_rfl) (by kernel_rfl) (fun _ _ _ h => h) (Or.inl ⟨by rfl, ?_⟩) (by assumption) ?_
  rotate_left
  · (intro w hSw; (try dsimp only at hSw); go_simp; try with_reducible rfl)
  try simp only [Act.put, List.setIfInBounds_toArray, List.set_cons_zero, List.set_cons_succ]
  refine wpAnyH_take (i := 2) (v := ?_) (by (simp only [List.getElem?_toArray, List.getElem?_cons_succ, List.getElem?_cons_zero]; rfl)) (by kernel_rfl) (by kernel_rfl) (by kernel_rfl) (fun _ _ _ h => h) (Or.inl ⟨by rfl, ?_⟩) (by assumption) ?_
  rotate_left
  · (intro w hSw; (try dsimp only at hSw); go_simp; try with_reducible rfl)
  try simp only [Act.put, List.setIfInBounds_toArray, List.set_cons_zero, List.set_cons_succ]
  refine wpAnyH_take (i := 3) (v := ?_) (by (simp only [List.getElem?_toArray, List.getElem?_cons_succ, List.getElem?_cons_zero]; rfl)) (by kernel_rfl) (by kernel_rfl) (by kernel_rfl) (fun _ _ _ h => h) (Or.inl ⟨by rfl, ?_⟩) (by assumption) ?_
  rotate_left
  · (intro w hSw; (try dsimp only at hSw); go_simp; try with_reducible rfl)
  try simp only [Act.put, List.setIfInBounds_toArray, List.set_cons_zero, List.set_cons_succ]
  refine wpAnyH_take (i := 4) (v := ?_) (by (simp only [List.getElem?_toArray, List.getElem?_cons_succ, List.getElem?_cons_zero]; rfl)) (by kernel_rfl) (by kernel_rfl) (by kernel_rfl) (fun _ _ _ h => h) (Or.inl ⟨by rfl, ?_⟩) (by assumption) ?_
  rotate_left
  · (intro w hSw; (try dsimp only at hSw); go_simp; try with_reducible rfl)
  try simp only [Act.put, List.setIfInBounds_toArray, List.set_cons_zero, List.set_cons_succ]
  refine wpAnyH_take (i := 5) (v := ?_) (by (simp only [List.getElem?_toArray, List.getElem?_cons_succ, List.getElem?_cons_zero]; rfl)) (by kernel_rfl) (by kernel_rfl) (by kernel_rfl) (fun _ _ _ h => h) (Or.inl ⟨by rfl, ?_⟩) (by assumption) ?_
  rotate_left
  · (intro w hSw; (try dsimp only at hSw); go_simp; try with_reducible rfl)
  try simp only [Act.put, List.setIfInBounds_toArray, List.set_cons_zero, List.set_cons_succ]
  refine wpAnyH_take (i := 6) (v := ?_) (by (simp only [List.getElem?_toArray, List.getElem?_cons_succ, List.getElem?_cons_zero]; rfl)) (by kernel_rfl) (by kernel_rfl) (by kernel_rfl) (fun _ _ _ h => h) (Or.inl ⟨by rfl, ?_⟩) (by assumption) ?_
  rotate_left
  · (intro w hSw; (try dsimp only at hSw); go_simp; try with_reducible rfl)
  try simp only [Act.put, List.setIfInBounds_toArray, List.set_cons_zero, List.set_cons_succ]
  refine wpAnyH_take (i := 7) (v := ?_) (by (simp only [List.getElem?_toArray, List.getElem?_cons_succ, List.getElem?_cons_zero]; rfl)) (by kernel_rfl) (by kernel_rfl) (by kernel_rfl) (fun _ _ _ h => h) (Or.inl ⟨by rfl, ?_⟩) (by assumption) ?_
  rotate_left
  · (intro w hSw; (try dsimp only at hSw); go_simp; try with_reducible rfl)
  try simp only [Act.put, List.setIfInBounds_toArray, List.set_cons_zero, List.set_cons_succ]
  refine wpAnyH_take (i := 8) (v := ?_) (by (simp only [List.getElem?_toArray, List.getElem?_cons_succ, List.getElem?_cons_zero]; rfl)) (by kernel_rfl) (by kernel_rfl) (by kernel_rfl) (fun _ _ _ h => h) (Or.inl ⟨by rfl, ?_⟩) (by assumption) ?_
  rotate_left
  · (intro w hSw; (try dsimp only at hSw); go_simp; try with_reducible rfl)
  try simp only [Act.put, List.setIfInBounds_toArray, List.set_cons_zero, List.set_cons_succ]
  refine wpAnyH_take (i := 9) (v := ?_) (by (simp only [List.getElem?_toArray, List.getElem?_cons_succ, List.getElem?_cons_zero]; rfl)) (by kernel_rfl) (by kernel_rfl) (by kernel_rfl) (fun _ _ _ h => h) (Or.inl ⟨by rfl, ?_⟩) (by assumption) ?_
  rotate_left
  · (intro w hSw; (try dsimp only at hSw); go_simp; try with_reducible rfl)
  try simp only [Act.put, List.setIfInBounds_toArray, List.set_cons_zero, List.set_cons_succ]
  refine wpAnyH_take (i := 10) (v := ?_) (by (simp only [List.getElem?_toArray, List.getElem?_cons_succ, List.getElem?_cons_zero]; rfl)) (by kernel_rfl) (by kernel_rfl) (by kernel_rfl) (fun _ _ _ h => h) (Or.inl ⟨by rfl, ?_⟩) (by assumption) ?_
  rotate_left
  · (intro w hSw; (try dsimp only at hSw); go_simp; try with_reducible rfl)
  try simp only [Act.put, List.setIfInBounds_toArray, List.set_cons_zero, List.set_cons_succ]
  refine wpAnyH_take (i := 11) (v := ?_) (by (simp only [List.getElem?_toArray, List.getElem?_cons_succ, List.getElem?_cons_zero]; rfl)) (by kernel_rfl) (by kernel_rfl) (by kernel_rfl) (fun _ _ _ h => h) (Or.inl ⟨by rfl, ?_⟩) (by assumption) ?_
  rotate_left
  · (intro w hSw; (try dsimp only at hSw); go_simp; try with_reducible rfl)
  try simp only [Act.put, List.setIfInBounds_toArray, List.set_cons_zero, List.set_cons_succ]
  refine wpAnyH_take (i := 12) (v := ?_) (by (simp only [List.getElem?_toArray, List.getElem?_cons_succ, List.getElem?_cons_zero]; rfl)) (by kernel_rfl) (by kernel_rfl) (by kernel_rfl) (fun _ _ _ h => h) (Or.inl ⟨by rfl, ?_⟩) (by assumption) ?_
  rotate_left
  · (intro w hSw; (try dsimp only at hSw); go_simp; try with_reducible rfl)
  try simp only [Act.put, List.setIfInBounds_toArray, List.set_cons_zero, List.set_cons_succ]
  refine wpAnyH_take (i := 13) (v := ?_) (by (simp only [List.getElem?_toArray, List.getElem?_cons_succ, List.getElem?_cons_zero]; rfl)) (by kernel_rfl) (by kernel_rfl) (by kernel_rfl) (fun _ _ _ h => h) (Or.inl ⟨by rfl, ?_⟩) (by assumption) ?_
  rotate_left
  · (intro w hSw; (try dsimp only at hSw); go_simp; try with_reducible rfl)
  try simp only [Act.put, List.setIfInBounds_toArray, List.set_cons_zero, List.set_cons_succ]
  refine wpAnyH_take (i := 14) (v := ?_) (by (simp only [List.getElem?_toArray, List.getElem?_cons_succ, List.getElem?_cons_zero]; rfl)) (by kernel_rfl) (by kernel_rfl) (by kernel_rfl) (fun _ _ _ h => h) (Or.inl ⟨by rfl, ?_⟩) (by assumption) ?_
  rotate_left
  · (intro w hSw; (try dsimp only at hSw); go_simp; try with_reducible rfl)
  try simp only [Act.put, List.setIfInBounds_toArray, List.set_cons_zero, List.set_cons_succ]
  refine wpAnyH_take (i := 15) (v := ?_) (by (simp only [List.getElem?_toArray, List.getElem?_cons_succ, List.getElem?_cons_zero]; rfl)) (by kernel_rfl) (by kernel_rfl) (by kernel_rfl) (fun _ _ _ h => h) (Or.inl ⟨by rfl, ?_⟩) (by assumption) ?_
  rotate_left
  · (intro w hSw; (try dsimp only at hSw); go_simp; try with_reducible rfl)
  try simp only [Act.put, List.setIfInBounds_toArray, List.set_cons_zero, List.set_cons_succ]
  refine wpAnyH_take (i := 16) (v := ?_) (by (simp only [List.getElem?_toArray, List.getElem?_cons_succ, List.getElem?_cons_zero]; rfl)) (by kernel_rfl) (by kernel_rfl) (by kernel_rfl) (fun _ _ _ h => h) (Or.inl ⟨by rfl, ?_⟩) (by assumption) ?_
  rotate_left
  · (intro w hSw; (try dsimp only at hSw); go_simp; try with_reducible rfl)
  try simp only [Act.put, List.setIfInBounds_toArray, List.set_cons_zero, List.set_cons_succ]
  refine wpAnyH_take (i := 17) (v := ?_) (by (simp only [List.getElem?_toArray, List.getElem?_cons_succ, List.getElem?_cons_zero]; rfl)) (by kernel_rfl) (by kernel_rfl) (by kernel_rfl) (fun _ _ _ h => h) (Or.inl ⟨by rfl, ?_⟩) (by assumption) ?_
  rotate_left
  · (intro w hSw; (try dsimp only at hSw); go_simp; try with_reducible rfl)
  try simp only [Act.put, List.setIfInBounds_toArray, List.set_cons_zero, List.set_cons_succ]
  refine wpAnyH_take (i := 18) (v := ?_) (by (simp only [List.getElem?_toArray, List.getElem?_cons_succ, List.getElem?_cons_zero]; rfl)) (by kernel_rfl) (by kernel_rfl) (by kernel_rfl) (fun _ _ _ h => h) (Or.inl ⟨by rfl, ?_⟩) (by assumption) ?_
  rotate_left
  · (intro w hSw; (try dsimp only at hSw); go_simp; try with_reducible rfl)
  try simp only [Act.put, List.setIfInBounds_toArray, List.set_cons_zero, List.set_cons_succ]
  refine wpAnyH_take (i := 19) (v := ?_) (by (simp only [List.getElem?_toArray, List.getElem?_cons_succ, List.getElem?_cons_zero]; rfl)) (by kernel_rfl) (by kernel_rfl) (by kernel_rfl) (fun _ _ _ h => h) (Or.inl ⟨by rfl, ?_⟩) (by assumption) ?_
  rotate_left
  · (intro w hSw; (try dsimp only at hSw); go_simp; try with_reducible rfl)
  try simp only [Act.put, List.setIfInBounds_toArray, List.set_cons_zero, List.set_cons_succ]
  refine wpAnyH_done (by kernel_rfl) ?_ _
  refine NoPanic.normal ?_
  clear hHeld f0 f1 f2
  go_wp2_with fail
  refine bodyPost_ret (v := .tuple #[.slice (some ⟨rb, 0, none⟩) n c, .bool true]) (by simp [results, Tryd.results24, go_sem]) rfl ?_
  exact H1d.out.same HB1d.out
set_option maxRecDepth 100000 in
set_option maxHeartbeats 4000000 in
theorem done_6K (kd  to_ bit : Int) (j : Nat) (Ab : Option Addr) (nb cb : Nat) (bs : List UInt8) {w : World} {S B N Lc n c : Nat} {LA A : Option Addr} {l : List Pv} (h : Both w S B N LA Lc A n c l) (hSB : S ≤ B) (hby : BytesIn w S Ab cb bs) (hnb : nb = bs.length) (_hbs : nb ≤ 1000) (hj : j < n) (hk : bits .and .i64 kd 7 = 6) (tt : Nat) (hbt : bit = (tt : Int)) (ht8 : tt ≤ 9223372036854775807) (hnear : ∀ p, l[j]? = some p → tt / 8 < p.l.length) :
    Calls Tryd.prog 24 #[.pointer (some ⟨N, 0, none⟩), .slice A n c, .agg #[.int .i64 kd, .int .i64 j, .int .i64 to_, .int .i64 bit, .slice Ab nb cb]] w fun e w' => DoneTo w S B N e w' := by
  obtain ⟨X, hX⟩ : ∃ x, x = w.heap.size := ⟨_, rfl⟩
  obtain ⟨w0, hw0⟩ : ∃ y, y = w.alloc (.cells #[.int .i64 kd, .int .i64 j, .int .i64 to_, .int .i64 bit, .slice Ab nb cb] 51) := ⟨_, rfl⟩
  have hal : Below w.heap.size w w0 := by rw [hw0]; exact (Below.refl _ _).alloc (Nat.le_refl _) _
  have hx : w0.heap[X]? = some (.cells #[.int .i64 kd, .int .i64 j, .int .i64 to_, .int .i64 bit, .slice Ab nb cb] 51 (0, 0)) := by rw [hw0, hX]; exact heap_alloc_new w _
  have hSw : S ≤ w.heap.size := Nat.le_trans hSB h.size
  have H0 := Lib.hid (h.below hal)
  have HX0 := Lib.hid hx
  have HB0 := Lib.hid (hal.mono hSw)
  have HY0 := Lib.hid (hby.below (hal.mono hSw) (Nat.le_refl _))
  have HNB := Lib.hid hnb
  have HL := Lib.hid h.len
  have HW := Lib.hid hw0
  have HXW := Lib.hid hX
  have hs0 : S ≤ w0.heap.size := Nat.le_trans hSw hal.size
  have hXs : X < w0.heap.size := ltb hx
  have hSX : S ≤ X := by omega
  have hn1000 : n ≤ 1000 := by have := h.good.1; have := h.len; omega
  have x0 := cellb (i := 0) hx rfl
  have x1 := cellb (i := 1) hx rfl
  have x2 := cellb (i := 2) hx rfl
  have x3 := cellb (i := 3) hx rfl
  have x4 := cellb (i := 4) hx rfl
  subst hbt
  obtain ⟨p, hp⟩ : ∃ p, l[j]? = some p := ⟨l[j]'(by have := h.len; omega), List.getElem?_eq_getElem (by have := h.len; omega)⟩
  obtain ⟨rb, hrA, hrb, hr0, hr1⟩ := h.pk hp
  subst hrA
  have hrb0 : rb < w0.heap.size := Nat.lt_of_lt_of_le hrb hal.size
  have HRC := Lib.hid (And.intro ((hal.cell (p := ⟨rb, j * 2, none⟩) hrb).trans hr0) ((hal.cell (p := ⟨rb, j * 2 + 1, none⟩) hrb).trans hr1))
  have HP := Lib.hid hp
  have hpl : p.l.length ≤ 1000 := h.good.2 p (List.mem_of_getElem? hp)
  clear hp hrb hr0 hr1
  clear hw0 hal hx h hby hnb hX hSw
  go_enter Tryd.func24, Tryd.ntmps24
  go_upto_region 1 with fail
  rw [← HXW.out, ← HW.out]
  clear HW HXW
  have hj0 : (0 : Int) ≤ (j : Int) := by omega
  have hjn : (j : Int) < (n : Int) := by omega
  obtain ⟨pl, hpe⟩ : ∃ x, x = p.l := ⟨_, rfl⟩
  obtain ⟨m, hm⟩ : ∃ m, m = pl.length := ⟨_, rfl⟩
  have hsz : (str pl).size = m := by rw [str_size, hm]
  have hjl : j < l.length := by have := HL.out; omega
  have HAS := Lib.hid (has_any w0 H0.out.net (j : Int))
  rw [show hasB (j : Int) l.length = true by simp [hasB]; exact hjl] at HAS
  rw [← hpe] at HRC
  obtain ⟨k, hk⟩ : ∃ k, k = tt / 8 := ⟨_, rfl⟩
  obtain ⟨r, hr⟩ : ∃ r, r = tt % 8 := ⟨_, rfl⟩
  have hr8 : r < 8 := by omega
  have HPT := Lib.hid hpe
  have hkm : k < m := by rw [hm, hk, hpe]; exact hnear p HP.out
  have hqk : ¬ (m : Int) ≤ (k : Int) := by omega
  have hq5 : (0 : Int) ≤ (tt : Int) := Int.natCast_nonneg _
  have hq4 : ¬ (tt : Int) < 0 := by omega
  have hq8 : (0 : Int) ≤ (k : Int) := Int.natCast_nonneg _
  have hq2 : (tt : Int) / 8 = (k : Int) := by omega
  have hk63 : (k : Int) ≤ 9223372036854775807 := by omega
  have HQ6 : Hid ((tt : Int).tmod 8 = (r : Int)) := Lib.hid (by rw [Int.tmod_eq_emod_of_nonneg (Int.natCast_nonneg _)]; omega)
  have hq : (tt : Int).tdiv 8 = (k : Int) := by rw [Int.tdiv_eq_ediv_of_nonneg (Int.natCast_nonneg _)]; exact hq2
  have hqw : wrap64 (k : Int) = (k : Int) := wrap64_in _ (Int.le_trans (by decide) hq8) (Int.le_trans hk63 (by decide))
  have hqv : IntKind.i64.wrap (k : Int) = (k : Int) := IntWalk.i64_in _ ⟨Int.le_trans (by decide) hq8, hk63⟩
  have HKR := Lib.hid (And.intro hk hr)
  have HM := Lib.hid hm
  have HSZ := Lib.hid hsz
  have HQQ := Lib.hid (And.intro hqk (And.intro hq5 (And.intro hq4 (And.intro hq8 (And.intro hqw (And.intro hqv (And.intro hq2 hq)))))))
  clear hk63 hk hr hm hjl hpe hqk hq5 hq4 hq8 hqw hqv hq2 hq hsz
  go_wp2_with fail
  clear x0 x1 x2 x3 x4
  refine (spoil_any w0 H0.out.net HP.out tt ht8 (hnear p HP.out)).mono ?_
  rintro e w1 ⟨rfl, hn, bb, _, hc, hbB⟩
  rw [← HKR.out.1, ← HKR.out.2, ← HPT.out] at hn
  obtain ⟨pl2, hpl2⟩ : ∃ x, x = pl.set k (turn8 (pl.getD k 0) r) := ⟨_, rfl⟩
  rw [← hpl2] at hn
  have HP2 := Lib.hid hpl2
  have HN1 := Lib.hid hn
  have HR1 : Hid (RL w1 S (some ⟨rb, 0, none⟩) n c (l.map absP)) := Lib.hid ⟨H0.out.row.1, hc.own H0.out.row.2 (by decide)⟩
  have hlo : Below S w0 w1 := hc.chg.below hs0 (fun k hk e => by injection e with e; omega)
  have HB1 := Lib.hid (HB0.out.trans hlo)
  have hs1 : S ≤ w1.heap.size := Nat.le_trans hs0 hc.chg.size
  have HX1 := Lib.hid (hc.blk HX0.out (by show (51 + 1 : Nat) ≠ _; decide))
  obtain ⟨rb', hrr, _, _, _, hq1, _⟩ := HR1.out.pk (j := j) (p := absP p) (by rw [List.getElem?_map, HP.out]; rfl)
  injection hrr with hrr
  injection hrr with hrr _
  subst hrr
  have HRC1 := Lib.hid (show w1.cell? ⟨rb, j * 2 + 1, none⟩ = some (.string (str pl)) by rw [hq1, HPT.out]; rfl)
  clear hn hpl2 hc hbB hlo hq1 HX0 HB0
  go_upto_region 21 with (fail)
  have HN1 := Lib.hid (HN1.out.below (Below.refl _ w1).drew)
  have HR1 := Lib.hid (HR1.out.below (Below.refl _ w1).drew)
  have HB1 : Hid (Below S w w1.drew) := Lib.hid HB1.out.drew
  have hs1 : S ≤ w1.drew.heap.size := hs1
  have HX1 : Hid (w1.drew.heap[X]? = _) := HX1
  have f2 : w1.drew.cell? ⟨rb, j * 2 + 1, none⟩ = some (.string (str pl)) := HRC1.out
  have f0 : w1.drew.cell? ⟨X, 1, none⟩ = some (.int .i64 j) := cellb (i := 1) HX1.out rfl
  have f1 : w1.drew.cell? ⟨X, 3, none⟩ = some (.int .i64 tt) := cellb (i := 3) HX1.out rfl
  clear HRC1 HRC
  obtain ⟨hqk, hq5, hq4, hq8, hqw, hqv, hq2, hq⟩ := HQQ.out
  have hsz := HSZ.out
  refine wp_region_noPanic ?_
  refine wp_region_held_drew (S := fun w' => w'.cell? ⟨X, 1, none⟩ = some (.int .i64 j) ∧ w'.cell? ⟨X, 3, none⟩ = some (.int .i64 tt) ∧ w'.cell? ⟨rb, j * 2 + 1, none⟩ = some (.string (str pl))) (by kernel_rfl) ?_ (fun hHeld => ?_)
  · try dsimp only
    (refine ⟨?_, ?_, ?_⟩ <;> (first | with_reducible assumption))
  generalize w1.drew = wd at *
  refine wpAnyH_take (i := 0) (v := ?_) (by (simp only [List.getElem?_toArray, List.getElem?_cons_zero]; rfl)) (by kernel_rfl) (by kernel_rfl) (by kernel_rfl) (fun _ _ _ h => h) (Or.inl ⟨by rfl, ?_⟩) (by assumption) ?_
  rotate_left
  · (intro w hSw; (try dsimp only at hSw); go_simp; try with_reducible rfl)
  try simp only [Act.put, List.setIfInBounds_toArray, List.set_cons_zero, List.set_cons_succ]
  refine wpAnyH_take (i := 1) (v := ?_) (by (simp only [List.getElem?_toArray, List.getElem?_cons_succ, List.getElem?_cons_zero]; rfl)) (by kernel_rfl) (by kernel_rfl) (by kernel_rfl) (fun _ _ _ h => h) (Or.inl ⟨by rfl, ?_⟩) (by assumption) ?_
  rotate_left
  · (intro w hSw; (try dsimp only at hSw); go_simp; try with_reducible rfl)
  try simp only [Act.put, List.setIfInBounds_toArray, List.set_cons_zero, List.set_cons_succ]
  refine wpAnyH_take (i := 2) (v := ?_) (by (simp only [List.getElem?_toArray, List.getElem?_cons_succ, List.getElem?_cons_zero]; rfl)) (by kernel_rfl) (by kernel_rfl) (by kernel_rfl) (fun _ _ _ h => h) (Or.inl ⟨by rfl, ?_⟩) (by assumption) ?_
  rotate_left
  · (intro w hSw; (try dsimp only at hSw); go_simp; try with_reducible rfl)
  try simp only [Act.put, List.setIfInBounds_toArray, List.set_cons_zero, List.set_cons_succ]
  refine wpAnyH_take (i := 3) (v := ?_) (by (simp only [List.getElem?_toArray, List.getElem?_cons_succ, List.getElem?_cons_zero]; rfl)) (by kernel_rfl) (by kernel_rfl) (by kernel_rfl) (fun _ _ _ h => h) (Or.inl ⟨by rfl, ?_⟩) (by assumption) ?_
  rotate_left
  · (intro w hSw; (try dsimp only at hSw); go_simp; try with_reducible rfl)
  try simp only [Act.put, List.setIfInBounds_toArray, List.set_cons_zero, List.set_cons_succ]
  refine wpAnyH_take (i := 4) (v := ?_) (by (simp only [List.getElem?_toArray, List.getElem?_cons_succ, List.getElem?_cons_zero]; rfl)) (by kernel_rfl) (by kernel_rfl) (by kernel_rfl) (fun _ _ _ h => h) (Or.inl ⟨by rfl, ?_⟩) (by assumption) ?_
  rotate_left
  · (intro w hSw; (try dsimp only at hSw); go_simp; try with_reducible rfl)
  try simp only [Act.put, List.setIfInBounds_toArray, List.set_cons_zero, List.set_cons_succ]
  refine wpAnyH_take (i := 5) (v := ?_) (by (simp only [List.getElem?_toArray, List.getElem?_cons_succ, List.getElem?_cons_zero]; rfl)) (by kernel_rfl) (by kernel_rfl) (by kernel_rfl) (fun _ _ _ h => h) (Or.inl ⟨by rfl, ?_⟩) (by assumption) ?_
  rotate_left
  · (intro w hSw; (try dsimp only at hSw); go_simp; try with_reducible rfl)
  try simp only [Act.put, List.setIfInBounds_toArray, List.set_cons_zero, List.set_cons_succ]
  refine wpAnyH_take (i := 6) (v := ?_) (by (simp only [List.getElem?_toArray, List.getElem?_cons_succ, List.getElem?_cons_zero]; rfl)) (by kernel_rfl) (by kernel_rfl) (by kernel_rfl) (fun _ _ _ h => h) (Or.inl ⟨by rfl, ?_⟩) (by assumption) ?_
  rotate_left
  · (intro w hSw; (try dsimp only at hSw); go_simp; try with_reducible rfl)
  try simp only [Act.put, List.setIfInBounds_toArray, List.set_cons_zero, List.set_cons_succ]
  refine wpAnyH_take (i := 7) (v := ?_) (by (simp only [List.getElem?_toArray, List.getElem?_cons_succ, List.getElem?_cons_zero]; rfl)) (by kernel_rfl) (by kernel_rfl) (by kernel_rfl) (fun _ _ _ h => h) (Or.inl ⟨by rfl, ?_⟩) (by assumption) ?_
  rotate_left
  · (intro w hSw; (try dsimp only at hSw); go_simp; try with_reducible rfl)
  try simp only [Act.put, List.setIfInBounds_toArray, List.set_cons_zero, List.set_cons_succ]
  refine wpAnyH_take (i := 8) (v := ?_) (by (simp only [List.getElem?_toArray, List.getElem?_cons_succ, List.getElem?_cons_zero]; rfl)) (by kernel_rfl) (by kernel_rfl) (by kernel_rfl) (fun _ _ _ h => h) (Or.inl ⟨by rfl, ?_⟩) (by assumption) ?_
  rotate_left
  · (intro w hSw; (try dsimp only at hSw); go_simp; try with_reducible rfl)
  try simp only [Act.put, List.setIfInBounds_toArray, List.set_cons_zero, List.set_cons_succ]
  refine wpAnyH_take (i := 9) (v := ?_) (by (simp only [List.getElem?_toArray, List.getElem?_cons_succ, List.getElem?_cons_zero]; rfl)) (by kernel_rfl) (by kernel_rfl) (by kernel_rfl) (fun _ _ _ h => h) (Or.inl ⟨by rfl, ?_⟩) (by assumption) ?_
  rotate_left
  · (intro w hSw; (try dsimp only at hSw); go_simp; try with_reducible rfl)
  try simp only [Act.put, List.setIfInBounds_toArray, List.set_cons_zero, List.set_cons_succ]
  refine wpAnyH_take (i := 10) (v := ?_) (by (simp only [List.getElem?_toArray, List.getElem?_cons_succ, List.getElem?_cons_zero]; rfl)) (by kernel_rfl) (by kernel_rfl) (by kernel_rfl) (fun _ _ _ h => h) (Or.inl ⟨by rfl, ?_⟩) (by assumption) ?_
  rotate_left
  · (intro w hSw; (try dsimp only at hSw); go_simp; try with_reducible rfl)
  try simp only [Act.put, List.setIfInBounds_toArray, List.set_cons_zero, List.set_cons_succ]
  refine wpAnyH_take (i := 11) (v := ?_) (by (simp only [List.getElem?_toArray, List.getElem?_cons_succ, List.getElem?_cons_zero]; rfl)) (by kernel_rfl) (by kernel_rfl) (by kernel_rfl) (fun _ _ _ h => h) (Or.inl ⟨by rfl, ?_⟩) (by assumption) ?_
  rotate_left
  · (intro w hSw; (try dsimp only at hSw); go_simp; try with_reducible rfl)
  try simp only [Act.put, List.setIfInBounds_toArray, List.set_cons_zero, List.set_cons_succ]
  refine wpAnyH_take (i := 12) (v := ?_) (by (simp only [List.getElem?_toArray, List.getElem?_cons_succ, List.getElem?_cons_zero]; rfl)) (by kernel_rfl) (by kernel_rfl) (by kernel_rfl) (fun _ _ _ h => h) (Or.inl ⟨by rfl, ?_⟩) (by assumption) ?_
  rotate_left
  · (intro w hSw; (try dsimp only at hSw); go_simp; try with_reducible rfl)
  try simp only [Act.put, List.setIfInBounds_toArray, List.set_cons_zero, List.set_cons_succ]
  refine wpAnyH_take (i := 13) (v := ?_) (by (simp only [List.getElem?_toArray, List.getElem?_cons_succ, List.getElem?_cons_zero]; rfl)) (by kernel_rfl) (by kernel_rfl) (by kernel_rfl) (fun _ _ _ h => h) (Or.inl ⟨by rfl, ?_⟩) (by assumption) ?_
  rotate_left
  · (intro w hSw; (try dsimp only at hSw); go_simp; try with_reducible rfl)
  try simp only [Act.put, List.setIfInBounds_toArray, List.set_cons_zero, List.set_cons_succ]
  refine wpAnyH_take (i := 14) (v := ?_) (by (simp only [List.getElem?_toArray, List.getElem?_cons_succ, List.getElem?_cons_zero]; rfl)) (by kernel_rfl) (by kernel_rfl) (by kernel_rfl) (fun _ _ _ h => h) (Or.inl ⟨by rfl, ?_⟩) (by assumption) ?_
  rotate_left
  · (intro w hSw; (try dsimp only at hSw); go_simp; try with_reducible rfl)
  try simp only [Act.put, List.setIfInBounds_toArray, List.set_cons_zero, List.set_cons_succ]
  refine wpAnyH_take (i := 15) (v := ?_) (by (simp only [List.getElem?_toArray, List.getElem?_cons_succ, List.getElem?_cons_zero]; rfl)) (by kernel_rfl) (by kernel_rfl) (by kernel_rfl) (fun _ _ _ h => h) (Or.inl ⟨by rfl, ?_⟩) (by assumption) ?_
  rotate_left
  · (intro w hSw; (try dsimp only at hSw); go_simp; try with_reducible rfl)
  try simp only [Act.put, List.setIfInBounds_toArray, List.set_cons_zero, List.set_cons_succ]
  refine wpAnyH_take (i := 16) (v := ?_) (by (simp only [List.getElem?_toArray, List.getElem?_cons_succ, List.getElem?_cons_zero]; rfl)) (by kernel_rfl) (by kernel_rfl) (by kernel_rfl) (fun _ _ _ h => h) (Or.inl ⟨by rfl, ?_⟩) (by assumption) ?_
  rotate_left
  · (intro w hSw; (try dsimp only at hSw); go_simp; try with_reducible rfl)
  try simp only [Act.put, List.setIfInBounds_toArray, List.set_cons_zero, List.set_cons_succ]
  refine wpAnyH_take (i := 17) (v := ?_) (by (simp only [List.getElem?_toArray, List.getElem?_cons_succ, List.getElem?_cons_zero]; rfl)) (by kernel_rfl) (by kernel_rfl) (by kernel_rfl) (fun _ _ _ h => h) (Or.inl ⟨by rfl, ?_⟩) (by assumption) ?_
  rotate_left
  · (intro w hSw; (try dsimp only at hSw); go_simp; try with_reducible rfl)
  try simp only [Act.put, List.setIfInBounds_toArray, List.set_cons_zero, List.set_cons_succ]
  refine wpAnyH_take (i := 18) (v := ?_) (by (simp only [List.getElem?_toArray, List.getElem?_cons_succ, List.getElem?_cons_zero]; rfl)) (by kernel_rfl) (by kernel_rfl) (by kernel_rfl) (fun _ _ _ h => h) (Or.inl ⟨by rfl, ?_⟩) (by assumption) ?_
  rotate_left
  · (intro w hSw; (try dsimp only at hSw); go_simp; try with_reducible rfl)
  try simp only [Act.put, List.setIfInBounds_toArray, List.set_cons_zero, List.set_cons_succ]
  refine wpAnyH_take (i := 19) (v := ?_) (by (simp only [List.getElem?_toArray, List.getElem?_cons_succ, List.getElem?_cons_zero]; rfl)) (by kernel_rfl) (by kernel_rfl) (by kernel_rfl) (fun _ _ _ h => h) (Or.inl ⟨by rfl, ?_⟩) (by assumption) ?_
  rotate_left
  · (intro w hSw; (try dsimp only at hSw); go_simp; try with_reducible rfl)
  try simp only [Act.put, List.setIfInBounds_toArray, List.set_cons_zero, List.set_cons_succ]
  refine wpAnyH_done (by kernel_rfl) ?_ _
  refine NoPanic.normal ?_
  clear hHeld f0 hqk hq5 hq4 hq8 hqw hqv hq2 hq hsz
  obtain ⟨cc, cs, hcv, hcl, hcm, hce⟩ := conv_sb2 pl wd (by rw [HPT.out]; omega)
  rw [← HM.out] at hcv hcl
  have HCL := Lib.hid hcl
  obtain ⟨Cb, hCb⟩ : ∃ x, x = wd.heap.size := ⟨_, rfl⟩
  rw [← hCb] at hcv
  have HCb := Lib.hid hCb
  clear hCb
  have x1 := cellb (i := 1) HX1.out rfl
  go_upto_region 24 with (fail)
  clear hcv x1 f1 f2
  have hCb := HCb.out
  have hkl : k < pl.length := by rw [← HM.out]; exact hkm
  obtain ⟨cb, hcb⟩ : ∃ x, x = pl.getD k 0 := ⟨_, rfl⟩
  have hcbe : pl[k] = cb := by rw [hcb]; simp [List.getD, hkl]
  obtain ⟨we, hwe⟩ : ∃ y, y = (wd.alloc (.cells cs 5 (cs.size, cs.size + 1))).drew := ⟨_, rfl⟩
  have hbe : Below wd.heap.size wd we := by rw [hwe]; exact ((Below.refl _ _).alloc (Nat.le_refl _) _).drew
  have hblk : we.heap[Cb]? = some (.cells cs 5 (cs.size, cs.size + 1)) := by rw [hwe]; exact alloc_at wd _ _ hCb.symm
  rw [← hwe]
  clear hwe
  have hbd : Below wd.heap.size wd we.drew := hbe.drew
  have hblkd : we.drew.heap[Cb]? = some (.cells cs 5 (cs.size, cs.size + 1)) := hblk
  have hXd : X < wd.heap.size := ltb HX1.out
  have hrbd : rb < wd.heap.size := by
    obtain ⟨b', h1, _, h2, _⟩ := HR1.out.pk (j := j) (p := absP p) (by rw [List.getElem?_map, HP.out]; rfl)
    injection h1 with h1
    injection h1 with h1 _
    rw [h1]; exact h2
  have hcs : k < cs.size := (Array.getElem?_eq_some_iff.1 (hce k hkl)).1
  have HBD := Lib.hid hbd
  have HBK := Lib.hid hblkd
  have HCE := Lib.hid hce
  have HCB := Lib.hid hcb
  have f0 : we.drew.cell? ⟨X, 3, none⟩ = some (.int .i64 tt) := (hbd.cell (p := ⟨X, 3, none⟩) hXd).trans (cellb (i := 3) HX1.out rfl)
  have HBY := Lib.hid (show we.drew.cell? ⟨Cb, k, none⟩ = some (.int .u8 (cb.toNat : Int)) by rw [← hcbe]; exact cellb hblkd (hce k hkl))
  have HFZ := Lib.hid (show we.drew.frozen? ⟨Cb, k, none⟩ = false by simp [World.frozen?, hblkd]; omega)
  have hCX : Cb ≠ X := by omega
  have hkm' : (k : Int) < (m : Int) := by omega
  clear hCb hcl hce hbe hblk hbd hblkd hcb hcbe hkl hcs
  obtain ⟨hqk, hq5, hq4, hq8, hqw, hqv, hq2, hq⟩ := HQQ.out
  refine wp_region_noPanic ?_
  refine wp_region_held_drew (S := fun w' => w'.cell? ⟨X, 3, none⟩ = some (.int .i64 tt)) (by kernel_rfl) ?_ (fun hHeld => ?_)
  · try dsimp only
    (refine ?_ <;> (first | with_reducible assumption))
  generalize we.drew = wf at *
  refine wpAnyH_take (i := 0) (v := ?_) (by (simp only [List.getElem?_toArray, List.getElem?_cons_zero]; rfl)) (by kernel_rfl) (by kernel_rfl) (by kernel_rfl) (fun _ _ _ h => h) (Or.inl ⟨by rfl, ?_⟩) (by assumption) ?_
  rotate_left
  · (intro w hSw; (try dsimp only at hSw); go_simp; try with_reducible rfl)
  try simp only [Act.put, List.setIfInBounds_toArray, List.set_cons_zero, List.set_cons_succ]
  refine wpAnyH_take (i := 1) (v := ?_) (by (simp only [List.getElem?_toArray, List.getElem?_cons_succ, List.getElem?_cons_zero]; rfl)) (by kernel_rfl) (by kernel_rfl) (by kernel_rfl) (fun _ _ _ h => h) (Or.inl ⟨by rfl, ?_⟩) (by assumption) ?_
  rotate_left
  · (intro w hSw; (try dsimp only at hSw); go_simp; try with_reducible rfl)
  try simp only [Act.put, List.setIfInBounds_toArray, List.set_cons_zero, List.set_cons_succ]
  refine wpAnyH_take (i := 2) (v := ?_) (by (simp only [List.getElem?_toArray, List.getElem?_cons_succ, List.getElem?_cons_zero]; rfl)) (by kernel_rfl) (by kernel_rfl) (by kernel_rfl) (fun _ _ _ h => h) (Or.inl ⟨by rfl, ?_⟩) (by assumption) ?_
  rotate_left
  · (intro w hSw; (try dsimp only at hSw); go_simp; try with_reducible rfl)
  try simp only [Act.put, List.setIfInBounds_toArray, List.set_cons_zero, List.set_cons_succ]
  refine wpAnyH_take (i := 3) (v := ?_) (by (simp only [List.getElem?_toArray, List.getElem?_cons_succ, List.getElem?_cons_zero]; rfl)) (by kernel_rfl) (by kernel_rfl) (by kernel_rfl) (fun _ _ _ h => h) (Or.inl ⟨by rfl, ?_⟩) (by assumption) ?_
  rotate_left
  · (intro w hSw; (try dsimp only at hSw); go_simp; try with_reducible rfl)
  try simp only [Act.put, List.setIfInBounds_toArray, List.set_cons_zero, List.set_cons_succ]
  refine wpAnyH_take (i := 4) (v := ?_) (by (simp only [List.getElem?_toArray, List.getElem?_cons_succ, List.getElem?_cons_zero]; rfl)) (by kernel_rfl) (by kernel_rfl) (by kernel_rfl) (fun _ _ _ h => h) (Or.inl ⟨by rfl, ?_⟩) (by assumption) ?_
  rotate_left
  · (intro w hSw; (try dsimp only at hSw); go_simp; try with_reducible rfl)
  try simp only [Act.put, List.setIfInBounds_toArray, List.set_cons_zero, List.set_cons_succ]
  refine wpAnyH_take (i := 5) (v := ?_) (by (simp only [List.getElem?_toArray, List.getElem?_cons_succ, List.getElem?_cons_zero]; rfl)) (by kernel_rfl) (by kernel_rfl) (by kernel_rfl) (fun _ _ _ h => h) (Or.inl ⟨by rfl, ?_⟩) (by assumption) ?_
  rotate_left
  · (intro w hSw; (try dsimp only at hSw); go_simp; try with_reducible rfl)
  try simp only [Act.put, List.setIfInBounds_toArray, List.set_cons_zero, List.set_cons_succ]
  refine wpAnyH_take (i := 6) (v := ?_) (by (simp only [List.getElem?_toArray, List.getElem?_cons_succ, List.getElem?_cons_zero]; rfl)) (by kernel_rfl) (by kernel_rfl) (by kernel_rfl) (fun _ _ _ h => h) (Or.inl ⟨by rfl, ?_⟩) (by assumption) ?_
  rotate_left
  · (intro w hSw; (try dsimp only at hSw); go_simp; try with_reducible rfl)
  try simp only [Act.put, List.setIfInBounds_toArray, List.set_cons_zero, List.set_cons_succ]
  refine wpAnyH_take (i := 7) (v := ?_) (by (simp only [List.getElem?_toArray, List.getElem?_cons_succ, List.getElem?_cons_zero]; rfl)) (by kernel_rfl) (by kernel_rfl) (by kernel_rfl) (fun _ _ _ h => h) (Or.inl ⟨by rfl, ?_⟩) (by assumption) ?_
  rotate_left
  · (intro w hSw; (try dsimp only at hSw); go_simp; try with_reducible rfl)
  try simp only [Act.put, List.setIfInBounds_toArray, List.set_cons_zero, List.set_cons_succ]
  refine wpAnyH_take (i := 8) (v := ?_) (by (simp only [List.getElem?_toArray, List.getElem?_cons_succ, List.getElem?_cons_zero]; rfl)) (by kernel_rfl) (by kernel_rfl) (by kernel_rfl) (fun _ _ _ h => h) (Or.inl ⟨by rfl, ?_⟩) (by assumption) ?_
  rotate_left
  · (intro w hSw; (try dsimp only at hSw); go_simp; try with_reducible rfl)
  try simp only [Act.put, List.setIfInBounds_toArray, List.set_cons_zero, List.set_cons_succ]
  refine wpAnyH_take (i := 10) (v := ?_) (by (simp only [List.getElem?_toArray, List.getElem?_cons_succ, List.getElem?_cons_zero]; rfl)) (by kernel_rfl) (by kernel_rfl) (by kernel_rfl) (fun _ _ _ h => h) (Or.inl ⟨by rfl, ?_⟩) (by assumption) ?_
  rotate_left
  · (intro w hSw; (try dsimp only at hSw); go_simp; try with_reducible rfl)
  try simp only [Act.put, List.setIfInBounds_toArray, List.set_cons_zero, List.set_cons_succ]
  refine wpAnyH_take (i := 11) (v := ?_) (by (simp only [List.getElem?_toArray, List.getElem?_cons_succ, List.getElem?_cons_zero]; rfl)) (by kernel_rfl) (by kernel_rfl) (by kernel_rfl) (fun _ _ _ h => h) (Or.inl ⟨by rfl, ?_⟩) (by assumption) ?_
  rotate_left
  · (intro w hSw; (try dsimp only at hSw); go_simp; try with_reducible rfl)
  try simp only [Act.put, List.setIfInBounds_toArray, List.set_cons_zero, List.set_cons_succ]
  refine wpAnyH_take (i := 12) (v := ?_) (by (simp only [List.getElem?_toArray, List.getElem?_cons_succ, List.getElem?_cons_zero]; rfl)) (by kernel_rfl) (by kernel_rfl) (by kernel_rfl) (fun _ _ _ h => h) (Or.inl ⟨by rfl, ?_⟩) (by assumption) ?_
  rotate_left
  · (intro w hSw; (try dsimp only at hSw); go_simp; try with_reducible rfl)
  try simp only [Act.put, List.setIfInBounds_toArray, List.set_cons_zero, List.set_cons_succ]
  refine wpAnyH_take (i := 13) (v := ?_) (by (simp only [List.getElem?_toArray, List.getElem?_cons_succ, List.getElem?_cons_zero]; rfl)) (by kernel_rfl) (by kernel_rfl) (by kernel_rfl) (fun _ _ _ h => h) (Or.inl ⟨by rfl, ?_⟩) (by assumption) ?_
  rotate_left
  · (intro w hSw; (try dsimp only at hSw); go_simp; rw [HQ6.out, shl8' w r hr8]; rfl)
  try simp only [Act.put, List.setIfInBounds_toArray, List.set_cons_zero, List.set_cons_succ]
  refine wpAnyH_ready (rs := [9]) (by kernel_rfl) (by simp) ?_
  refine AllReadyH.cons (by (simp only [List.getElem?_toArray, List.getElem?_cons_succ, List.getElem?_cons_zero]; rfl)) (fun K hK => ?_) AllReadyH.nil
  have c0 : wf.cell? ⟨Cb, k, none⟩ = some (.int .u8 (cb.toNat : Int)) := HBY.out
  go_simp
  clear c0
  refine hK.out _ _ ?_ (fun hHeld => ?_)
  · try dsimp only
    (refine ?_ <;> (first | with_reducible assumption))
  clear hK K
  try simp only [Act.put, List.setIfInBounds_toArray, List.set_cons_zero, List.set_cons_succ]
  refine wpAnyH_take (i := 14) (v := ?_) (by (simp only [List.getElem?_toArray, List.getElem?_cons_succ, List.getElem?_cons_zero]; rfl)) (by kernel_rfl) (by kernel_rfl) (by kernel_rfl) (fun _ _ _ h => h) (Or.inl ⟨by rfl, ?_⟩) (by assumption) ?_
  rotate_left
  · (intro w hSw; (try dsimp only at hSw); go_simp; try with_reducible rfl)
  try simp only [Act.put, List.setIfInBounds_toArray, List.set_cons_zero, List.set_cons_succ]
  refine wpAnyH_take (i := 15) (v := ?_) (by (simp only [List.getElem?_toArray, List.getElem?_cons_succ, List.getElem?_cons_zero]; rfl)) (by kernel_rfl) (by kernel_rfl) (by kernel_rfl) (fun _ _ _ h => h) (Or.inl ⟨by rfl, ?_⟩) (by assumption) ?_
  rotate_left
  · (intro w hSw; (try dsimp only at hSw); go_simp; try with_reducible rfl)
  try simp only [Act.put, List.setIfInBounds_toArray, List.set_cons_zero, List.set_cons_succ]
  refine wpAnyH_ready (rs := [16]) (by kernel_rfl) (by simp) ?_
  refine AllReadyH.cons (by (simp only [List.getElem?_toArray, List.getElem?_cons_succ, List.getElem?_cons_zero]; rfl)) (fun K hK => ?_) AllReadyH.nil
  rw [turn8_val cb r hr8]
  have c0 : wf.cell? ⟨Cb, k, none⟩ = some (.int .u8 (cb.toNat : Int)) := HBY.out
  have hfz : wf.frozen? ⟨Cb, k, none⟩ = false := HFZ.out
  have f0' : (wf.setCell ⟨Cb, k, none⟩ (.int .u8 ((turn8 cb r).toNat : Int))).cell? ⟨X, 3, none⟩ = some (.int .i64 tt) := ((Chg.refl (fun b' => b' = Cb) wf).setCell (p := ⟨Cb, k, none⟩) (.inr rfl) _).cell f0 (fun e => hCX e.symm)
  go_simp
  clear c0 hfz
  refine hK.out _ _ ?_ (fun hHeld => ?_)
  · try dsimp only
    (refine ?_ <;> (first | with_reducible assumption))
  clear hK K
  try simp only [Act.put]
  refine wpAnyH_done (by kernel_rfl) ?_ _
  refine NoPanic.normal ?_
  clear hHeld f0 f0' hqk hq5 hq4 hq8 hqw hqv hq2 hq hkm'
  have hblk3 := set_blk (i := k) HBK.out (.int .u8 ((turn8 cb r).toNat : Int))
  have hb3 : Below wd.heap.size wd (wf.setCell ⟨Cb, k, none⟩ (.int .u8 ((turn8 cb r).toNat : Int))) := HBD.out.setCell (p := ⟨Cb, k, none⟩) (by show wd.heap.size ≤ Cb; exact Nat.le_of_eq HCb.out.symm) _
  generalize wf.setCell ⟨Cb, k, none⟩ (.int .u8 ((turn8 cb r).toNat : Int)) = w3 at hblk3 hb3 ⊢
  have hy3 : BytesIn w3 w3.heap.size (some ⟨Cb, 0, none⟩) cc pl2 := by
    have hl2 : pl2.length = pl.length := by rw [HP2.out, List.length_set]
    refine ⟨?_, hcm, .inr ⟨Cb, 0, rfl, ltb hblk3, fun i hi => ?_⟩⟩
    · rw [hl2, ← HM.out]; exact HCL.out
    · rw [Nat.zero_add]
      have hil : i < pl.length := by rw [← hl2]; exact hi
      refine cellb hblk3 ?_
      have hcsz : k < cs.size := by
        have h9 := HCE.out k (by rw [← HM.out]; exact hkm)
        exact (Array.getElem?_eq_some_iff.1 h9).1
      rw [Array.getElem?_setIfInBounds]
      have e2 : pl2[i]? = (pl.set k (turn8 cb r))[i]? := by rw [HP2.out, HCB.out]
      rw [List.getElem?_eq_getElem hi, List.getElem?_set] at e2
      by_cases hik : k = i
      · subst hik
        rw [if_pos rfl, if_pos hil] at e2
        injection e2 with e2
        rw [if_pos rfl, if_pos hcsz, e2]
      · rw [if_neg hik, List.getElem?_eq_getElem hil] at e2
        injection e2 with e2
        rw [if_neg hik, e2]
        exact HCE.out i hil
  have HY3 := Lib.hid hy3
  have HB3 := Lib.hid hb3
  have HR3 := Lib.hid (HR1.out.below hb3).cells
  have hs3 : wd.heap.size ≤ w3.heap.size := hb3.size
  have HL2 : Hid (m = pl2.length) := Lib.hid (by rw [HP2.out, List.length_set]; exact HM.out)
  clear hblk3 hb3 hy3 HBD HBK HCE HBY HFZ HCB
  obtain ⟨iR, hi, hz0, hz1, hz2⟩ := info_parts Tryd.infoR
  go_upto_region 27 with (at_builtin; refine wpList_append_row _ rfl (.tmp 174) (.tmp 175) _ rfl w3.heap.size 55 iR _ 2 24 Tryd.underlying49 hi hz0 hz1 hz2 rfl (by omega) none 0 0 [] rfl (World.ownsRow_nil _ _ _ _) _ _ n _ _ rfl HR3.out (rks_one _) (by unfold maxLen; omega) (by omega) (Nat.le_refl _) (fun A2 c2 w4 hown hg hor => ?_))
  have ho4 := own_norm hown
  have hbg : Below w3.heap.size w3 w4 := (Below.refl _ w3).grown hg (Nat.le_refl _) (fun k hk => by simp [Value.ownBlock] at hk)
  obtain ⟨ob, hob, hob3, hob4, _⟩ := own_form ho4 (by omega)
  subst hob
  have HB4 := Lib.hid (HB3.out.trans (hbg.mono hs3))
  have HO4 := Lib.hid ho4
  have hL : (l.map absP)[j]? = some (absP p) := by rw [List.getElem?_map, HP.out]; rfl
  have hrow4 : RL w4 w3.heap.size (some ⟨ob, 0, none⟩) n c2 (l.map absP) := ⟨HR1.out.1, ho4⟩
  obtain ⟨ob', hoo, _, _, _, hk1, cur4, hcur4⟩ := hrow4.pk hL
  injection hoo with hoo
  injection hoo with hoo _
  subst hoo
  have k1 : w4.cell? ⟨ob, j * 2 + 1, none⟩ = some (.string (str pl)) := by rw [hk1, HPT.out]; rfl
  have kf : w4.frozen? ⟨ob, j * 2 + 1, none⟩ = false := fzb hcur4 _
  have z := zc (HY3.out.below hbg (Nat.le_refl _)) HL2.out
  have x1 : w4.cell? ⟨X, 1, none⟩ = some (.int .i64 j) := (HB4.out.cell (p := ⟨X, 1, none⟩) hXd).trans (cellb (i := 1) HX1.out rfl)
  clear hown hg hor ho4 hbg hrow4 hk1 hcur4
  go_upto_region 28 with (fail)
  clear k1 kf z x1
  have hput := own_putR HO4.out hL pl2
  have hb5 : Below wd.heap.size wd (w4.setCell ⟨ob, j * 2 + 1, none⟩ (.string (str pl2))) := HB4.out.setCell (p := ⟨ob, j * 2 + 1, none⟩) (by show wd.heap.size ≤ ob; omega) _
  have HF : Hid (Both (w4.setCell ⟨ob, j * 2 + 1, none⟩ (.string (str pl2))) S B N LA Lc (some ⟨ob, 0, none⟩) n c2 (l.set j (p.with_ pl2))) := Lib.hid ⟨HN1.out.below hb5, ⟨by rw [List.length_map, List.length_set]; exact HL.out, by
    have e : (l.set j (p.with_ pl2)).map absP = (l.map absP).set j ((absP p).1, pl2) := by rw [List.map_set]; rfl
    rw [e]
    exact own_low hput (Nat.le_trans hs1 hs3)⟩, ⟨by rw [List.length_set]; exact H0.out.good.1, fun q hq => by
      rcases List.mem_or_eq_of_mem_set hq with hq | rfl
      · exact H0.out.good.2 q hq
      · show pl2.length ≤ 1000; rw [← HL2.out, HM.out, HPT.out]; exact hpl⟩⟩
  have HB5 := Lib.hid (HB1.out.trans (hb5.mono hs1))
  clear hput hb5 hL
  generalize w4.setCell ⟨ob, j * 2 + 1, none⟩ (.string (str pl2)) = w5 at HF HB5 ⊢
  go_wp2_with fail
  refine bodyPost_ret (v := .tuple #[.slice (some ⟨ob, 0, none⟩) n c2, .bool true]) (by simp [results, Tryd.results24, go_sem]) rfl ?_
  exact HF.out.same HB5.out
end Go.Proofs.YtkenaoejijpgpaaDoor
