/- An act over both: delivering, doubling. -/
import Derived.Test.YtkenaoejijpgpaaDoorPlayD
import Derived.Test.YtkenaoejijpgpaaDoorHeldW
namespace Go.Proofs.YtkenaoejijpgpaaDoor
open Go.RowKit

theorem absP_erase (l : List Pv) (j : Nat) : (l.eraseIdx j).map absP = (l.map absP).eraseIdx j := by
  induction l generalizing j with
  | nil => simp
  | cons x l ih => cases j with
    | zero => rfl
    | succ j => simp [ih]
theorem GoodL.erase {l : List Pv} (h : GoodL l) (j : Nat) : GoodL (l.eraseIdx j) := ⟨by have := List.length_eraseIdx_le l j; have := h.1; omega, fun p hp => h.2 p (List.mem_of_mem_eraseIdx hp)⟩
set_option maxRecDepth 100000 in
set_option maxHeartbeats 4000000 in
theorem done_3F (kd ix to_ bit : Int) (Ab : Option Addr) (nb cb : Nat) (bs : List UInt8) {w : World} {S B N Lc n c : Nat} {LA A : Option Addr} {l : List Pv} (h : Both w S B N LA Lc A n c l) (hSB : S ≤ B) (hby : BytesIn w S Ab cb bs) (hnb : nb = bs.length) (_hbs : nb ≤ 1000) (hno : ¬ (0 ≤ ix ∧ ix < (n : Int))) (hk : bits .and .i64 kd 7 = 3) :
    Calls Tryd.prog 24 #[.pointer (some ⟨N, 0, none⟩), .slice A n c, .agg #[.int .i64 kd, .int .i64 ix, .int .i64 to_, .int .i64 bit, .slice Ab nb cb]] w fun e w' => DoneTo w S B N e w' := by
  obtain ⟨X, hX⟩ : ∃ x, x = w.heap.size := ⟨_, rfl⟩
  obtain ⟨w0, hw0⟩ : ∃ y, y = w.alloc (.cells #[.int .i64 kd, .int .i64 ix, .int .i64 to_, .int .i64 bit, .slice Ab nb cb] 51) := ⟨_, rfl⟩
  have hal : Below w.heap.size w w0 := by rw [hw0]; exact (Below.refl _ _).alloc (Nat.le_refl _) _
  have hx : w0.heap[X]? = some (.cells #[.int .i64 kd, .int .i64 ix, .int .i64 to_, .int .i64 bit, .slice Ab nb cb] 51 (0, 0)) := by rw [hw0, hX]; exact heap_alloc_new w _
  have hSw : S ≤ w.heap.size := Nat.le_trans hSB h.size
  have H0 := Lib.hid (h.below hal)
  have HX0 := Lib.hid hx
  have HB0 := Lib.hid (hal.mono hSw)
  have HY0 := Lib.hid (hby.below (hal.mono hSw) (Nat.le_refl _))
  have HNB := Lib.hid hnb
  have HL := Lib.hid h.len
  have HW := Lib.hid hw0
  have HXW := Lib.hid hX
  have hs0 : S ≤ w0.heap.size := Nat.le_trans hSw hal.size
  have hXs : X < w0.heap.size := ltb hx
  have hSX : S ≤ X := by omega
  have hn1000 : n ≤ 1000 := by have := h.good.1; have := h.len; omega
  have x0 := cellb (i := 0) hx rfl
  have x1 := cellb (i := 1) hx rfl
  have x2 := cellb (i := 2) hx rfl
  have x3 := cellb (i := 3) hx rfl
  have x4 := cellb (i := 4) hx rfl
  clear hw0 hal hx h hby hnb hX hSw
  go_enter Tryd.func24, Tryd.ntmps24
  go_upto_region 1 with fail
  rw [← HXW.out, ← HW.out]
  clear HW HXW
  by_cases hge : 0 ≤ ix
  · have hlt : ¬ ix < (n : Int) := fun h => hno ⟨hge, h⟩
    go_wp2_with fail
    have hhas : hasB ix l.length = false := by simp only [hasB, Bool.and_eq_false_iff, decide_eq_false_iff_not]; rw [← HL.out]; omega
    have HAS := Lib.hid (has_any w0 H0.out.net ix)
    rw [hhas] at HAS
    refine (deliver_none w0 ix _ HAS.out).mono ?_
    rintro e w1 ⟨rfl, rfl⟩
    go_wp2_with fail
    refine bodyPost_ret (v := .tuple #[.slice A n c, .bool true]) (by simp [results, Tryd.results24, go_sem]) rfl ?_
    exact H0.out.same HB0.out
  · skip
    go_wp2_with fail
    have hhas : hasB ix l.length = false := by simp only [hasB, Bool.and_eq_false_iff, decide_eq_false_iff_not]; rw [← HL.out]; omega
    have HAS := Lib.hid (has_any w0 H0.out.net ix)
    rw [hhas] at HAS
    refine (deliver_none w0 ix _ HAS.out).mono ?_
    rintro e w1 ⟨rfl, rfl⟩
    go_wp2_with fail
    refine bodyPost_ret (v := .tuple #[.slice A n c, .bool true]) (by simp [results, Tryd.results24, go_sem]) rfl ?_
    exact H0.out.same HB0.out
set_option maxRecDepth 100000 in
set_option maxHeartbeats 4000000 in
theorem done_3T (kd  to_ bit : Int) (j : Nat) (Ab : Option Addr) (nb cb : Nat) (bs : List UInt8) {w : World} {S B N Lc n c : Nat} {LA A : Option Addr} {l : List Pv} (h : Both w S B N LA Lc A n c l) (hSB : S ≤ B) (hby : BytesIn w S Ab cb bs) (hnb : nb = bs.length) (_hbs : nb ≤ 1000) (hj : j < n) (hk : bits .and .i64 kd 7 = 3) :
    Calls Tryd.prog 24 #[.pointer (some ⟨N, 0, none⟩), .slice A n c, .agg #[.int .i64 kd, .int .i64 j, .int .i64 to_, .int .i64 bit, .slice Ab nb cb]] w fun e w' => DoneTo w S B N e w' := by
  obtain ⟨X, hX⟩ : ∃ x, x = w.heap.size := ⟨_, rfl⟩
  obtain ⟨w0, hw0⟩ : ∃ y, y = w.alloc (.cells #[.int .i64 kd, .int .i64 j, .int .i64 to_, .int .i64 bit, .slice Ab nb cb] 51) := ⟨_, rfl⟩
  have hal : Below w.heap.size w w0 := by rw [hw0]; exact (Below.refl _ _).alloc (Nat.le_refl _) _
  have hx : w0.heap[X]? = some (.cells #[.int .i64 kd, .int .i64 j, .int .i64 to_, .int .i64 bit, .slice Ab nb cb] 51 (0, 0)) := by rw [hw0, hX]; exact heap_alloc_new w _
  have hSw : S ≤ w.heap.size := Nat.le_trans hSB h.size
  have H0 := Lib.hid (h.below hal)
  have HX0 := Lib.hid hx
  have HB0 := Lib.hid (hal.mono hSw)
  have HY0 := Lib.hid (hby.below (hal.mono hSw) (Nat.le_refl _))
  have HNB := Lib.hid hnb
  have HL := Lib.hid h.len
  have HW := Lib.hid hw0
  have HXW := Lib.hid hX
  have hs0 : S ≤ w0.heap.size := Nat.le_trans hSw hal.size
  have hXs : X < w0.heap.size := ltb hx
  have hSX : S ≤ X := by omega
  have hn1000 : n ≤ 1000 := by have := h.good.1; have := h.len; omega
  have x0 := cellb (i := 0) hx rfl
  have x1 := cellb (i := 1) hx rfl
  have x2 := cellb (i := 2) hx rfl
  have x3 := cellb (i := 3) hx rfl
  have x4 := cellb (i := 4) hx rfl
  obtain ⟨p, hp⟩ : ∃ p, l[j]? = some p := ⟨l[j]'(by have := h.len; omega), List.getElem?_eq_getElem (by have := h.len; omega)⟩
  obtain ⟨rb, hrA, hrb, hr0, hr1⟩ := h.pk hp
  subst hrA
  have hrb0 : rb < w0.heap.size := Nat.lt_of_lt_of_le hrb hal.size
  have HRC := Lib.hid (And.intro ((hal.cell (p := ⟨rb, j * 2, none⟩) hrb).trans hr0) ((hal.cell (p := ⟨rb, j * 2 + 1, none⟩) hrb).trans hr1))
  have HP := Lib.hid hp
  have hpl : p.l.length ≤ 1000 := h.good.2 p (List.mem_of_getElem? hp)
  clear hp hrb hr0 hr1
  clear hw0 hal hx h hby hnb hX hSw
  go_enter Tryd.func24, Tryd.ntmps24
  go_upto_region 1 with fail
  rw [← HXW.out, ← HW.out]
  clear HW HXW
  have hj0 : (0 : Int) ≤ (j : Int) := by omega
  have hjn : (j : Int) < (n : Int) := by omega
  obtain ⟨pl, hpe⟩ : ∃ x, x = p.l := ⟨_, rfl⟩
  obtain ⟨pt, hpt⟩ : ∃ x, x = p.to_ := ⟨_, rfl⟩
  obtain ⟨PA, hPA⟩ : ∃ x, x = p.A := ⟨_, rfl⟩
  obtain ⟨Pc, hPc⟩ : ∃ x, x = p.c := ⟨_, rfl⟩
  obtain ⟨m, hm⟩ : ∃ m, m = pl.length := ⟨_, rfl⟩
  have HPK := Lib.hid (deliver_any w0 H0.out.net HP.out H0.out.good.1)
  have hpo := H0.out.net.own p (List.mem_of_getElem? HP.out)
  unfold Pv.sl at hpo
  have HSL : Hid (p.sl = .slice PA m Pc ∧ p.to_ = pt) := Lib.hid ⟨by unfold Pv.sl; rw [← hPA, ← hPc, ← hpe, ← hm], hpt.symm⟩
  rw [← hpe, ← hPA, ← hPc, ← hm] at hpo
  have HPO := Lib.hid hpo
  rw [← hpe, ← hpt] at HRC
  have HM := Lib.hid hm
  have HPL : Hid (some (Value.string (str (absP p).2)) = some (.string (str pl))) := Lib.hid (by rw [hpe]; rfl)
  clear hpe hpt hpl hm hpo hPA hPc
  go_wp2_with fail
  clear x0 x1 x2 x3 x4
  refine HPK.out.mono ?_
  clear HPK
  rintro e w1 ⟨LA1, Lc1, he, hn, hc⟩
  rw [HSL.out.1, HSL.out.2] at he
  subst he
  have HN1 := Lib.hid hn
  have HR1 := Lib.hid (H0.out.row.nch hc)
  have HB1 := Lib.hid (HB0.out.trans (hc.low.mono hSB))
  have hs1 : S ≤ w1.heap.size := Nat.le_trans hs0 hc.size
  have HZ := Lib.hid (bytesIn_of_own (hc.own HPO.out (by decide) (by decide))).2
  have HX1 := Lib.hid (hc.kp _ _ HX0.out (by show (51 + 1 : Nat) ≠ _; decide) (by show (51 + 1 : Nat) ≠ _; decide))
  have hrb1 : rb < w1.heap.size := Nat.lt_of_lt_of_le hrb0 hc.size
  have hXs1 : X < w1.heap.size := Nat.lt_of_lt_of_le hXs hc.size
  obtain ⟨rb', hrr, _, _, hq0, hq1, _⟩ := HR1.out.pk (j := j) (p := absP p) (by rw [List.getElem?_map, HP.out]; rfl)
  injection hrr with hrr
  injection hrr with hrr _
  subst hrr
  have HQ := Lib.hid (show w1.cell? ⟨rb, j * 2, none⟩ = some (.int .i64 pt) ∧ w1.cell? ⟨rb, j * 2 + 1, none⟩ = some (.string (str pl)) from ⟨by rw [hq0]; exact congrArg (fun x => some (Value.int .i64 x)) HSL.out.2, hq1.trans HPL.out⟩)
  clear hn hc hq0 hq1
  go_upto_region 13 with (fail)
  have f0 : w1.drew.cell? ⟨X, 1, none⟩ = some (.int .i64 j) := cellb (i := 1) (show w1.drew.heap[X]? = _ from HX1.out) rfl
  have f1 : w1.drew.cell? ⟨rb, j * 2, none⟩ = some (.int .i64 pt) := HQ.out.1
  have f2 : w1.drew.cell? ⟨rb, j * 2 + 1, none⟩ = some (.string (str pl)) := HQ.out.2
  have f3 : BytesIn w1.drew w1.drew.heap.size PA Pc pl := HZ.out.drew
  have HN1d := Lib.hid (HN1.out.below (Below.refl _ w1).drew)
  have HR1d := Lib.hid (HR1.out.below (Below.refl _ w1).drew)
  have HB1d : Hid (Below S w w1.drew) := Lib.hid HB1.out.drew
  have hs1d : S ≤ w1.drew.heap.size := hs1
  have hrb1d : rb < w1.drew.heap.size := hrb1
  have hXs1d : X < w1.drew.heap.size := hXs1
  clear HN1 HR1 HB1 hs1 HZ HX1 hrb1 hXs1 HQ
  obtain ⟨M0, hM0⟩ : ∃ x, x = w1.drew.heap.size := ⟨_, rfl⟩
  rw [← hM0] at f3
  refine wp_region_noPanic ?_
  refine wp_region_held_drew (S := fun w' => w'.cell? ⟨X, 1, none⟩ = some (.int .i64 j) ∧ w'.cell? ⟨rb, j * 2, none⟩ = some (.int .i64 pt) ∧ w'.cell? ⟨rb, j * 2 + 1, none⟩ = some (.string (str pl)) ∧ BytesIn w' M0 PA Pc pl) (by kernel_rfl) ?_ (fun hHeld => ?_)
  · try dsimp only
    (refine ⟨?_, ?_, ?_, ?_⟩ <;> (first | with_reducible assumption))
  generalize w1.drew = wd at *
  refine wpAnyH_take (i := 0) (v := ?_) (by (simp only [List.getElem?_toArray, List.getElem?_cons_zero]; rfl)) (by kernel_rfl) (by kernel_rfl) (by kernel_rfl) (fun _ _ _ h => h) (Or.inl ⟨by rfl, ?_⟩) (by assumption) ?_
  rotate_left
  · (intro w hSw; (try dsimp only at hSw); go_simp; try with_reducible rfl)
  try simp only [Act.put, List.setIfInBounds_toArray, List.set_cons_zero, List.set_cons_succ]
  refine wpAnyH_take (i := 1) (v := ?_) (by (simp only [List.getElem?_toArray, List.getElem?_cons_succ, List.getElem?_cons_zero]; rfl)) (by kernel_rfl) (by kernel_rfl) (by kernel_rfl) (fun _ _ _ h => h) (Or.inl ⟨by rfl, ?_⟩) (by assumption) ?_
  rotate_left
  · (intro w hSw; (try dsimp only at hSw); go_simp; try with_reducible rfl)
  try simp only [Act.put, List.setIfInBounds_toArray, List.set_cons_zero, List.set_cons_succ]
  refine wpAnyH_take (i := 2) (v := ?_) (by (simp only [List.getElem?_toArray, List.getElem?_cons_succ, List.getElem?_cons_zero]; rfl)) (by kernel_rfl) (by kernel_rfl) (by kernel_rfl) (fun _ _ _ h => h) (Or.inl ⟨by rfl, ?_⟩) (by assumption) ?_
  rotate_left
  · (intro w hSw; (try dsimp only at hSw); go_simp; try with_reducible rfl)
  try simp only [Act.put, List.setIfInBounds_toArray, List.set_cons_zero, List.set_cons_succ]
  refine wpAnyH_take (i := 4) (v := ?_) (by (simp only [List.getElem?_toArray, List.getElem?_cons_succ, List.getElem?_cons_zero]; rfl)) (by kernel_rfl) (by kernel_rfl) (by kernel_rfl) (fun _ _ _ h => h) (Or.inl ⟨by rfl, ?_⟩) (by assumption) ?_
  rotate_left
  · (intro w hSw; (try dsimp only at hSw); go_simp; try with_reducible rfl)
  try simp only [Act.put, List.setIfInBounds_toArray, List.set_cons_zero, List.set_cons_succ]
  refine wpAnyH_take (i := 5) (v := ?_) (by (simp only [List.getElem?_toArray, List.getElem?_cons_succ, List.getElem?_cons_zero]; rfl)) (by kernel_rfl) (by kernel_rfl) (by kernel_rfl) (fun _ _ _ h => h) (Or.inl ⟨by rfl, ?_⟩) (by assumption) ?_
  rotate_left
  · (intro w hSw; (try dsimp only at hSw); go_simp; try with_reducible rfl)
  try simp only [Act.put, List.setIfInBounds_toArray, List.set_cons_zero, List.set_cons_succ]
  refine wpAnyH_take (i := 6) (v := ?_) (by (simp only [List.getElem?_toArray, List.getElem?_cons_succ, List.getElem?_cons_zero]; rfl)) (by kernel_rfl) (by kernel_rfl) (by kernel_rfl) (fun _ _ _ h => h) (Or.inl ⟨by rfl, ?_⟩) (by assumption) ?_
  rotate_left
  · (intro w hSw; (try dsimp only at hSw); go_simp; try with_reducible rfl)
  try simp only [Act.put, List.setIfInBounds_toArray, List.set_cons_zero, List.set_cons_succ]
  refine wpAnyH_take (i := 7) (v := ?_) (by (simp only [List.getElem?_toArray, List.getElem?_cons_succ, List.getElem?_cons_zero]; rfl)) (by kernel_rfl) (by kernel_rfl) (by kernel_rfl) (fun _ _ _ h => h) (Or.inl ⟨by rfl, ?_⟩) (by assumption) ?_
  rotate_left
  · (intro w hSw; (try dsimp only at hSw); go_simp; try with_reducible rfl)
  try simp only [Act.put, List.setIfInBounds_toArray, List.set_cons_zero, List.set_cons_succ]
  refine wpAnyH_take (i := 8) (v := ?_) (by (simp only [List.getElem?_toArray, List.getElem?_cons_succ, List.getElem?_cons_zero]; rfl)) (by kernel_rfl) (by kernel_rfl) (by kernel_rfl) (fun _ _ _ h => h) (Or.inl ⟨by rfl, ?_⟩) (by assumption) ?_
  rotate_left
  · (intro w hSw; (try dsimp only at hSw); go_simp; try with_reducible rfl)
  try simp only [Act.put, List.setIfInBounds_toArray, List.set_cons_zero, List.set_cons_succ]
  refine wpAnyH_take (i := 9) (v := ?_) (by (simp only [List.getElem?_toArray, List.getElem?_cons_succ, List.getElem?_cons_zero]; rfl)) (by kernel_rfl) (by kernel_rfl) (by kernel_rfl) (fun _ _ _ h => h) (Or.inl ⟨by rfl, ?_⟩) (by assumption) ?_
  rotate_left
  · (intro w hSw; (try dsimp only at hSw); go_simp; try with_reducible rfl)
  try simp only [Act.put, List.setIfInBounds_toArray, List.set_cons_zero, List.set_cons_succ]
  refine wpAnyH_take (i := 10) (v := ?_) (by (simp only [List.getElem?_toArray, List.getElem?_cons_succ, List.getElem?_cons_zero]; rfl)) (by kernel_rfl) (by kernel_rfl) (by kernel_rfl) (fun _ _ _ h => h) (Or.inl ⟨by rfl, ?_⟩) (by assumption) ?_
  rotate_left
  · (intro w hSw; (try dsimp only at hSw); go_simp; try with_reducible rfl)
  try simp only [Act.put, List.setIfInBounds_toArray, List.set_cons_zero, List.set_cons_succ]
  refine wpAnyH_take (i := 11) (v := ?_) (by (simp only [List.getElem?_toArray, List.getElem?_cons_succ, List.getElem?_cons_zero]; rfl)) (by kernel_rfl) (by kernel_rfl) (by kernel_rfl) (fun _ _ _ h => h) (Or.inl ⟨by rfl, ?_⟩) (by assumption) ?_
  rotate_left
  · (intro w hSw; (try dsimp only at hSw); go_simp; try with_reducible rfl)
  try simp only [Act.put, List.setIfInBounds_toArray, List.set_cons_zero, List.set_cons_succ]
  refine wpAnyH_ready (rs := [3]) (by kernel_rfl) (by simp) ?_
  refine AllReadyH.cons (by (simp only [List.getElem?_toArray, List.getElem?_cons_succ, List.getElem?_cons_zero]; rfl)) (fun K hK => ?_) AllReadyH.nil
  go_simp
  refine (out_any (some ⟨rb, 0, none⟩) n c S j _ wd HR1d.out hs1d hj hn1000).mono ?_
  rintro e w2 ⟨A2, n2, c2, rfl, hr, hb⟩
  have g0 : w2.cell? ⟨X, 1, none⟩ = some (.int .i64 j) := (hb.cell (p := ⟨X, 1, none⟩) hXs1d).trans f0
  have g1 : w2.cell? ⟨rb, j * 2, none⟩ = some (.int .i64 pt) := (hb.cell (p := ⟨rb, j * 2, none⟩) hrb1d).trans f1
  have g2 : w2.cell? ⟨rb, j * 2 + 1, none⟩ = some (.string (str pl)) := (hb.cell (p := ⟨rb, j * 2 + 1, none⟩) hrb1d).trans f2
  have g3 : BytesIn w2 M0 PA Pc pl := f3.below (hM0 ▸ hb) (Nat.le_refl _)
  have HF : Hid (Both w2 S B N LA1 Lc1 A2 n2 c2 (l.eraseIdx j)) := Lib.hid ⟨HN1d.out.below hb, by rw [absP_erase]; exact hr, H0.out.good.erase j⟩
  have HB2 := Lib.hid (HB1d.out.trans (hb.mono hs1d))
  clear hr hb
  refine hK.out _ _ ?_ (fun hHeld => ?_)
  · try dsimp only
    (refine ⟨?_, ?_, ?_, ?_⟩ <;> (first | with_reducible assumption))
  clear hK K
  try simp only [Act.put, List.setIfInBounds_toArray, List.set_cons_zero, List.set_cons_succ]
  refine wpAnyH_take (i := 12) (v := ?_) (by (simp only [List.getElem?_toArray, List.getElem?_cons_succ, List.getElem?_cons_zero]; rfl)) (by kernel_rfl) (by kernel_rfl) (by kernel_rfl) (fun _ _ _ h => h) (Or.inl ⟨by rfl, ?_⟩) (by assumption) ?_
  rotate_left
  · (intro w hSw; (try dsimp only at hSw); go_simp; try with_reducible rfl)
  try simp only [Act.put, List.setIfInBounds_toArray, List.set_cons_zero, List.set_cons_succ]
  refine wpAnyH_take (i := 13) (v := ?_) (by (simp only [List.getElem?_toArray, List.getElem?_cons_succ, List.getElem?_cons_zero]; rfl)) (by kernel_rfl) (by kernel_rfl) (by kernel_rfl) (fun _ _ _ h => h) (Or.inl ⟨by rfl, ?_⟩) (by assumption) ?_
  rotate_left
  · (intro w hSw; (try dsimp only at hSw); go_simp; try with_reducible rfl)
  try simp only [Act.put, List.setIfInBounds_toArray, List.set_cons_zero, List.set_cons_succ]
  refine wpAnyH_take (i := 14) (v := ?_) (by (simp only [List.getElem?_toArray, List.getElem?_cons_succ, List.getElem?_cons_zero]; rfl)) (by kernel_rfl) (by kernel_rfl) (by kernel_rfl) (fun _ _ _ h => h) (Or.inl ⟨by rfl, ?_⟩) (by assumption) ?_
  rotate_left
  · (intro w hSw; (try dsimp only at hSw); have z := zc hSw.2.2.2 HM.out; go_simp; try with_reducible rfl)
  try simp only [Act.put, List.setIfInBounds_toArray, List.set_cons_zero, List.set_cons_succ]
  refine wpAnyH_take (i := 15) (v := ?_) (by (simp only [List.getElem?_toArray, List.getElem?_cons_succ, List.getElem?_cons_zero]; rfl)) (by kernel_rfl) (by kernel_rfl) (by kernel_rfl) (fun _ _ _ h => h) (Or.inl ⟨by rfl, ?_⟩) (by assumption) ?_
  rotate_left
  · (intro w hSw; (try dsimp only at hSw); go_simp; try with_reducible rfl)
  try simp only [Act.put, List.setIfInBounds_toArray, List.set_cons_zero, List.set_cons_succ]
  refine wpAnyH_take (i := 16) (v := ?_) (by (simp only [List.getElem?_toArray, List.getElem?_cons_succ, List.getElem?_cons_zero]; rfl)) (by kernel_rfl) (by kernel_rfl) (by kernel_rfl) (fun _ _ _ h => h) (Or.inl ⟨by rfl, ?_⟩) (by assumption) ?_
  rotate_left
  · (intro w hSw; (try dsimp only at hSw); go_simp; try with_reducible rfl)
  try simp only [Act.put, List.setIfInBounds_toArray, List.set_cons_zero, List.set_cons_succ]
  refine wpAnyH_take (i := 17) (v := ?_) (by (simp only [List.getElem?_toArray, List.getElem?_cons_succ, List.getElem?_cons_zero]; rfl)) (by kernel_rfl) (by kernel_rfl) (by kernel_rfl) (fun _ _ _ h => h) (Or.inl ⟨by rfl, ?_⟩) (by assumption) ?_
  rotate_left
  · (intro w hSw; (try dsimp only at hSw); go_simp; try with_reducible rfl)
  try simp only [Act.put, List.setIfInBounds_toArray, List.set_cons_zero, List.set_cons_succ]
  refine wpAnyH_take (i := 18) (v := ?_) (by (simp only [List.getElem?_toArray, List.getElem?_cons_succ, List.getElem?_cons_zero]; rfl)) (by kernel_rfl) (by kernel_rfl) (by kernel_rfl) (fun _ _ _ h => h) (Or.inl ⟨by rfl, ?_⟩) (by assumption) ?_
  rotate_left
  · (intro w hSw; (try dsimp only at hSw); go_simp; try with_reducible rfl)
  try simp only [Act.put, List.setIfInBounds_toArray, List.set_cons_zero, List.set_cons_succ]
  refine wpAnyH_take (i := 19) (v := ?_) (by (simp only [List.getElem?_toArray, List.getElem?_cons_succ, List.getElem?_cons_zero]; rfl)) (by kernel_rfl) (by kernel_rfl) (by kernel_rfl) (fun _ _ _ h => h) (Or.inl ⟨by rfl, ?_⟩) (by assumption) ?_
  rotate_left
  · (intro w hSw; (try dsimp only at hSw); go_simp; try with_reducible rfl)
  try simp only [Act.put, List.setIfInBounds_toArray, List.set_cons_zero, List.set_cons_succ]
  refine wpAnyH_take (i := 20) (v := ?_) (by (simp only [List.getElem?_toArray, List.getElem?_cons_succ, List.getElem?_cons_zero]; rfl)) (by kernel_rfl) (by kernel_rfl) (by kernel_rfl) (fun _ _ _ h => h) (Or.inl ⟨by rfl, ?_⟩) (by assumption) ?_
  rotate_left
  · (intro w hSw; (try dsimp only at hSw); go_simp; try with_reducible rfl)
  try simp only [Act.put, List.setIfInBounds_toArray, List.set_cons_zero, List.set_cons_succ]
  refine wpAnyH_take (i := 21) (v := ?_) (by (simp only [List.getElem?_toArray, List.getElem?_cons_succ, List.getElem?_cons_zero]; rfl)) (by kernel_rfl) (by kernel_rfl) (by kernel_rfl) (fun _ _ _ h => h) (Or.inl ⟨by rfl, ?_⟩) (by assumption) ?_
  rotate_left
  · (intro w hSw; (try dsimp only at hSw); go_simp; try with_reducible rfl)
  try simp only [Act.put, List.setIfInBounds_toArray, List.set_cons_zero, List.set_cons_succ]
  refine wpAnyH_take (i := 22) (v := ?_) (by (simp only [List.getElem?_toArray, List.getElem?_cons_succ, List.getElem?_cons_zero]; rfl)) (by kernel_rfl) (by kernel_rfl) (by kernel_rfl) (fun _ _ _ h => h) (Or.inl ⟨by rfl, ?_⟩) (by assumption) ?_
  rotate_left
  · (intro w hSw; (try dsimp only at hSw); go_simp; try with_reducible rfl)
  try simp only [Act.put, List.setIfInBounds_toArray, List.set_cons_zero, List.set_cons_succ]
  refine wpAnyH_take (i := 23) (v := ?_) (by (simp only [List.getElem?_toArray, List.getElem?_cons_succ, List.getElem?_cons_zero]; rfl)) (by kernel_rfl) (by kernel_rfl) (by kernel_rfl) (fun _ _ _ h => h) (Or.inl ⟨by rfl, ?_⟩) (by assumption) ?_
  rotate_left
  · (intro w hSw; (try dsimp only at hSw); go_simp; try with_reducible rfl)
  try simp only [Act.put, List.setIfInBounds_toArray, List.set_cons_zero, List.set_cons_succ]
  refine wpAnyH_take (i := 24) (v := ?_) (by (simp only [List.getElem?_toArray, List.getElem?_cons_succ, List.getElem?_cons_zero]; rfl)) (by kernel_rfl) (by kernel_rfl) (by kernel_rfl) (fun _ _ _ h => h) (Or.inl ⟨by rfl, ?_⟩) (by assumption) ?_
  rotate_left
  · (intro w hSw; (try dsimp only at hSw); go_simp; try with_reducible rfl)
  try simp only [Act.put, List.setIfInBounds_toArray, List.set_cons_zero, List.set_cons_succ]
  refine wpAnyH_take (i := 25) (v := ?_) (by (simp only [List.getElem?_toArray, List.getElem?_cons_succ, List.getElem?_cons_zero]; rfl)) (by kernel_rfl) (by kernel_rfl) (by kernel_rfl) (fun _ _ _ h => h) (Or.inl ⟨by rfl, ?_⟩) (by assumption) ?_
  rotate_left
  · (intro w hSw; (try dsimp only at hSw); go_simp; try with_reducible rfl)
  try simp only [Act.put, List.setIfInBounds_toArray, List.set_cons_zero, List.set_cons_succ]
  refine wpAnyH_take (i := 26) (v := ?_) (by (simp only [List.getElem?_toArray, List.getElem?_cons_succ, List.getElem?_cons_zero]; rfl)) (by kernel_rfl) (by kernel_rfl) (by kernel_rfl) (fun _ _ _ h => h) (Or.inl ⟨by rfl, ?_⟩) (by assumption) ?_
  rotate_left
  · (intro w hSw; (try dsimp only at hSw); go_simp; try with_reducible rfl)
  try simp only [Act.put, List.setIfInBounds_toArray, List.set_cons_zero, List.set_cons_succ]
  refine wpAnyH_take (i := 27) (v := ?_) (by (simp only [List.getElem?_toArray, List.getElem?_cons_succ, List.getElem?_cons_zero]; rfl)) (by kernel_rfl) (by kernel_rfl) (by kernel_rfl) (fun _ _ _ h => h) (Or.inl ⟨by rfl, ?_⟩) (by assumption) ?_
  rotate_left
  · (intro w hSw; (try dsimp only at hSw); go_simp; try with_reducible rfl)
  try simp only [Act.put, List.setIfInBounds_toArray, List.set_cons_zero, List.set_cons_succ]
  refine wpAnyH_done (by kernel_rfl) ?_ _
  refine NoPanic.normal ?_
  clear hHeld f0 f1 f2 f3 g0 g1 g2 g3
  go_wp2_with fail
  refine bodyPost_ret (v := .tuple #[.slice A2 n2 c2, .bool true]) (by simp [results, Tryd.results24, go_sem]) rfl ?_
  exact HF.out.same HB2.out
set_option maxRecDepth 100000 in
set_option maxHeartbeats 4000000 in
theorem done_4F (kd ix to_ bit : Int) (Ab : Option Addr) (nb cb : Nat) (bs : List UInt8) {w : World} {S B N Lc n c : Nat} {LA A : Option Addr} {l : List Pv} (h : Both w S B N LA Lc A n c l) (hSB : S ≤ B) (hby : BytesIn w S Ab cb bs) (hnb : nb = bs.length) (_hbs : nb ≤ 1000) (hno : ¬ (0 ≤ ix ∧ ix < (n : Int))) (hk : bits .and .i64 kd 7 = 4) :
    Calls Tryd.prog 24 #[.pointer (some ⟨N, 0, none⟩), .slice A n c, .agg #[.int .i64 kd, .int .i64 ix, .int .i64 to_, .int .i64 bit, .slice Ab nb cb]] w fun e w' => DoneTo w S B N e w' := by
  obtain ⟨X, hX⟩ : ∃ x, x = w.heap.size := ⟨_, rfl⟩
  obtain ⟨w0, hw0⟩ : ∃ y, y = w.alloc (.cells #[.int .i64 kd, .int .i64 ix, .int .i64 to_, .int .i64 bit, .slice Ab nb cb] 51) := ⟨_, rfl⟩
  have hal : Below w.heap.size w w0 := by rw [hw0]; exact (Below.refl _ _).alloc (Nat.le_refl _) _
  have hx : w0.heap[X]? = some (.cells #[.int .i64 kd, .int .i64 ix, .int .i64 to_, .int .i64 bit, .slice Ab nb cb] 51 (0, 0)) := by rw [hw0, hX]; exact heap_alloc_new w _
  have hSw : S ≤ w.heap.size := Nat.le_trans hSB h.size
  have H0 := Lib.hid (h.below hal)
  have HX0 := Lib.hid hx
  have HB0 := Lib.hid (hal.mono hSw)
  have HY0 := Lib.hid (hby.below (hal.mono hSw) (Nat.le_refl _))
  have HNB := Lib.hid hnb
  have HL := Lib.hid h.len
  have HW := Lib.hid hw0
  have HXW := Lib.hid hX
  have hs0 : S ≤ w0.heap.size := Nat.le_trans hSw hal.size
  have hXs : X < w0.heap.size := ltb hx
  have hSX : S ≤ X := by omega
  have hn1000 : n ≤ 1000 := by have := h.good.1; have := h.len; omega
  have x0 := cellb (i := 0) hx rfl
  have x1 := cellb (i := 1) hx rfl
  have x2 := cellb (i := 2) hx rfl
  have x3 := cellb (i := 3) hx rfl
  have x4 := cellb (i := 4) hx rfl
  clear hw0 hal hx h hby hnb hX hSw
  go_enter Tryd.func24, Tryd.ntmps24
  go_upto_region 1 with fail
  rw [← HXW.out, ← HW.out]
  clear HW HXW
  by_cases hge : 0 ≤ ix
  · have hlt : ¬ ix < (n : Int) := fun h => hno ⟨hge, h⟩
    go_wp2_with fail
    have hhas : hasB ix l.length = false := by simp only [hasB, Bool.and_eq_false_iff, decide_eq_false_iff_not]; rw [← HL.out]; omega
    have HAS := Lib.hid (has_any w0 H0.out.net ix)
    rw [hhas] at HAS
    refine (deliver_none w0 ix _ HAS.out).mono ?_
    rintro e w1 ⟨rfl, rfl⟩
    go_wp2_with fail
    refine bodyPost_ret (v := .tuple #[.slice A n c, .bool true]) (by simp [results, Tryd.results24, go_sem]) rfl ?_
    exact H0.out.same HB0.out
  · skip
    go_wp2_with fail
    have hhas : hasB ix l.length = false := by simp only [hasB, Bool.and_eq_false_iff, decide_eq_false_iff_not]; rw [← HL.out]; omega
    have HAS := Lib.hid (has_any w0 H0.out.net ix)
    rw [hhas] at HAS
    refine (deliver_none w0 ix _ HAS.out).mono ?_
    rintro e w1 ⟨rfl, rfl⟩
    go_wp2_with fail
    refine bodyPost_ret (v := .tuple #[.slice A n c, .bool true]) (by simp [results, Tryd.results24, go_sem]) rfl ?_
    exact H0.out.same HB0.out
set_option maxRecDepth 100000 in
set_option maxHeartbeats 4000000 in
theorem done_4T (kd  to_ bit : Int) (j : Nat) (Ab : Option Addr) (nb cb : Nat) (bs : List UInt8) {w : World} {S B N Lc n c : Nat} {LA A : Option Addr} {l : List Pv} (h : Both w S B N LA Lc A n c l) (hSB : S ≤ B) (hby : BytesIn w S Ab cb bs) (hnb : nb = bs.length) (_hbs : nb ≤ 1000) (hj : j < n) (hk : bits .and .i64 kd 7 = 4) :
    Calls Tryd.prog 24 #[.pointer (some ⟨N, 0, none⟩), .slice A n c, .agg #[.int .i64 kd, .int .i64 j, .int .i64 to_, .int .i64 bit, .slice Ab nb cb]] w fun e w' => DoneTo w S B N e w' := by
  obtain ⟨X, hX⟩ : ∃ x, x = w.heap.size := ⟨_, rfl⟩
  obtain ⟨w0, hw0⟩ : ∃ y, y = w.alloc (.cells #[.int .i64 kd, .int .i64 j, .int .i64 to_, .int .i64 bit, .slice Ab nb cb] 51) := ⟨_, rfl⟩
  have hal : Below w.heap.size w w0 := by rw [hw0]; exact (Below.refl _ _).alloc (Nat.le_refl _) _
  have hx : w0.heap[X]? = some (.cells #[.int .i64 kd, .int .i64 j, .int .i64 to_, .int .i64 bit, .slice Ab nb cb] 51 (0, 0)) := by rw [hw0, hX]; exact heap_alloc_new w _
  have hSw : S ≤ w.heap.size := Nat.le_trans hSB h.size
  have H0 := Lib.hid (h.below hal)
  have HX0 := Lib.hid hx
  have HB0 := Lib.hid (hal.mono hSw)
  have HY0 := Lib.hid (hby.below (hal.mono hSw) (Nat.le_refl _))
  have HNB := Lib.hid hnb
  have HL := Lib.hid h.len
  have HW := Lib.hid hw0
  have HXW := Lib.hid hX
  have hs0 : S ≤ w0.heap.size := Nat.le_trans hSw hal.size
  have hXs : X < w0.heap.size := ltb hx
  have hSX : S ≤ X := by omega
  have hn1000 : n ≤ 1000 := by have := h.good.1; have := h.len; omega
  have x0 := cellb (i := 0) hx rfl
  have x1 := cellb (i := 1) hx rfl
  have x2 := cellb (i := 2) hx rfl
  have x3 := cellb (i := 3) hx rfl
  have x4 := cellb (i := 4) hx rfl
  obtain ⟨p, hp⟩ : ∃ p, l[j]? = some p := ⟨l[j]'(by have := h.len; omega), List.getElem?_eq_getElem (by have := h.len; omega)⟩
  obtain ⟨rb, hrA, hrb, hr0, hr1⟩ := h.pk hp
  subst hrA
  have hrb0 : rb < w0.heap.size := Nat.lt_of_lt_of_le hrb hal.size
  have HRC := Lib.hid (And.intro ((hal.cell (p := ⟨rb, j * 2, none⟩) hrb).trans hr0) ((hal.cell (p := ⟨rb, j * 2 + 1, none⟩) hrb).trans hr1))
  have HP := Lib.hid hp
  have hpl : p.l.length ≤ 1000 := h.good.2 p (List.mem_of_getElem? hp)
  clear hp hrb hr0 hr1
  clear hw0 hal hx h hby hnb hX hSw
  go_enter Tryd.func24, Tryd.ntmps24
  go_upto_region 1 with fail
  rw [← HXW.out, ← HW.out]
  clear HW HXW
  have hj0 : (0 : Int) ≤ (j : Int) := by omega
  have hjn : (j : Int) < (n : Int) := by omega
  obtain ⟨pl, hpe⟩ : ∃ x, x = p.l := ⟨_, rfl⟩
  obtain ⟨pt, hpt⟩ : ∃ x, x = p.to_ := ⟨_, rfl⟩
  obtain ⟨PA, hPA⟩ : ∃ x, x = p.A := ⟨_, rfl⟩
  obtain ⟨Pc, hPc⟩ : ∃ x, x = p.c := ⟨_, rfl⟩
  obtain ⟨m, hm⟩ : ∃ m, m = pl.length := ⟨_, rfl⟩
  have HPK := Lib.hid (deliver_any w0 H0.out.net HP.out H0.out.good.1)
  have hpo := H0.out.net.own p (List.mem_of_getElem? HP.out)
  unfold Pv.sl at hpo
  have HSL : Hid (p.sl = .slice PA m Pc ∧ p.to_ = pt) := Lib.hid ⟨by unfold Pv.sl; rw [← hPA, ← hPc, ← hpe, ← hm], hpt.symm⟩
  rw [← hpe, ← hPA, ← hPc, ← hm] at hpo
  have HPO := Lib.hid hpo
  rw [← hpe, ← hpt] at HRC
  have HM := Lib.hid hm
  have HPL : Hid (some (Value.string (str (absP p).2)) = some (.string (str pl))) := Lib.hid (by rw [hpe]; rfl)
  clear hpe hpt hpl hm hpo hPA hPc
  go_wp2_with fail
  clear x0 x1 x2 x3 x4
  refine HPK.out.mono ?_
  clear HPK
  rintro e w1 ⟨LA1, Lc1, he, hn, hc⟩
  rw [HSL.out.1, HSL.out.2] at he
  subst he
  have HN1 := Lib.hid hn
  have HR1 := Lib.hid (H0.out.row.nch hc)
  have HB1 := Lib.hid (HB0.out.trans (hc.low.mono hSB))
  have hs1 : S ≤ w1.heap.size := Nat.le_trans hs0 hc.size
  have HZ := Lib.hid (bytesIn_of_own (hc.own HPO.out (by decide) (by decide))).2
  have HX1 := Lib.hid (hc.kp _ _ HX0.out (by show (51 + 1 : Nat) ≠ _; decide) (by show (51 + 1 : Nat) ≠ _; decide))
  have hrb1 : rb < w1.heap.size := Nat.lt_of_lt_of_le hrb0 hc.size
  have hXs1 : X < w1.heap.size := Nat.lt_of_lt_of_le hXs hc.size
  obtain ⟨rb', hrr, _, _, hq0, hq1, _⟩ := HR1.out.pk (j := j) (p := absP p) (by rw [List.getElem?_map, HP.out]; rfl)
  injection hrr with hrr
  injection hrr with hrr _
  subst hrr
  have HQ := Lib.hid (show w1.cell? ⟨rb, j * 2, none⟩ = some (.int .i64 pt) ∧ w1.cell? ⟨rb, j * 2 + 1, none⟩ = some (.string (str pl)) from ⟨by rw [hq0]; exact congrArg (fun x => some (Value.int .i64 x)) HSL.out.2, hq1.trans HPL.out⟩)
  clear hn hc hq0 hq1
  go_upto_region 13 with (fail)
  have f0 : w1.drew.cell? ⟨X, 1, none⟩ = some (.int .i64 j) := cellb (i := 1) (show w1.drew.heap[X]? = _ from HX1.out) rfl
  have f1 : w1.drew.cell? ⟨rb, j * 2, none⟩ = some (.int .i64 pt) := HQ.out.1
  have f2 : w1.drew.cell? ⟨rb, j * 2 + 1, none⟩ = some (.string (str pl)) := HQ.out.2
  have f3 : BytesIn w1.drew w1.drew.heap.size PA Pc pl := HZ.out.drew
  have HN1d := Lib.hid (HN1.out.below (Below.refl _ w1).drew)
  have HR1d := Lib.hid (HR1.out.below (Below.refl _ w1).drew)
  have HB1d : Hid (Below S w w1.drew) := Lib.hid HB1.out.drew
  have hs1d : S ≤ w1.drew.heap.size := hs1
  have hrb1d : rb < w1.drew.heap.size := hrb1
  have hXs1d : X < w1.drew.heap.size := hXs1
  clear HN1 HR1 HB1 hs1 HZ HX1 hrb1 hXs1 HQ
  obtain ⟨M0, hM0⟩ : ∃ x, x = w1.drew.heap.size := ⟨_, rfl⟩
  rw [← hM0] at f3
  refine wp_region_noPanic ?_
  refine wp_region_held_drew (S := fun w' => w'.cell? ⟨X, 1, none⟩ = some (.int .i64 j) ∧ w'.cell? ⟨rb, j * 2, none⟩ = some (.int .i64 pt) ∧ w'.cell? ⟨rb, j * 2 + 1, none⟩ = some (.string (str pl)) ∧ BytesIn w' M0 PA Pc pl) (by kernel_rfl) ?_ (fun hHeld => ?_)
  · try dsimp only
    (refine ⟨?_, ?_, ?_, ?_⟩ <;> (first | with_reducible assumption))
  generalize w1.drew = wd at *
  refine wpAnyH_take (i := 0) (v := ?_) (by (simp only [List.getElem?_toArray, List.getElem?_cons_zero]; rfl)) (by kernel_rfl) (by kernel_rfl) (by kernel_rfl) (fun _ _ _ h => h) (Or.inl ⟨by rfl, ?_⟩) (by assumption) ?_
  rotate_left
  · (intro w hSw; (try dsimp only at hSw); go_simp; try with_reducible rfl)
  try simp only [Act.put, List.setIfInBounds_toArray, List.set_cons_zero, List.set_cons_succ]
  refine wpAnyH_take (i := 1) (v := ?_) (by (simp only [List.getElem?_toArray, List.getElem?_cons_succ, List.getElem?_cons_zero]; rfl)) (by kernel_rfl) (by kernel_rfl) (by kernel_rfl) (fun _ _ _ h => h) (Or.inl ⟨by rfl, ?_⟩) (by assumption) ?_
  rotate_left
  · (intro w hSw; (try dsimp only at hSw); go_simp; try with_reducible rfl)
  try simp only [Act.put, List.setIfInBounds_toArray, List.set_cons_zero, List.set_cons_succ]
  refine wpAnyH_take (i := 2) (v := ?_) (by (simp only [List.getElem?_toArray, List.getElem?_cons_succ, List.getElem?_cons_zero]; rfl)) (by kernel_rfl) (by kernel_rfl) (by kernel_rfl) (fun _ _ _ h => h) (Or.inl ⟨by rfl, ?_⟩) (by assumption) ?_
  rotate_left
  · (intro w hSw; (try dsimp only at hSw); go_simp; try with_reducible rfl)
  try simp only [Act.put, List.setIfInBounds_toArray, List.set_cons_zero, List.set_cons_succ]
  refine wpAnyH_take (i := 4) (v := ?_) (by (simp only [List.getElem?_toArray, List.getElem?_cons_succ, List.getElem?_cons_zero]; rfl)) (by kernel_rfl) (by kernel_rfl) (by kernel_rfl) (fun _ _ _ h => h) (Or.inl ⟨by rfl, ?_⟩) (by assumption) ?_
  rotate_left
  · (intro w hSw; (try dsimp only at hSw); go_simp; try with_reducible rfl)
  try simp only [Act.put, List.setIfInBounds_toArray, List.set_cons_zero, List.set_cons_succ]
  refine wpAnyH_take (i := 5) (v := ?_) (by (simp only [List.getElem?_toArray, List.getElem?_cons_succ, List.getElem?_cons_zero]; rfl)) (by kernel_rfl) (by kernel_rfl) (by kernel_rfl) (fun _ _ _ h => h) (Or.inl ⟨by rfl, ?_⟩) (by assumption) ?_
  rotate_left
  · (intro w hSw; (try dsimp only at hSw); go_simp; try with_reducible rfl)
  try simp only [Act.put, List.setIfInBounds_toArray, List.set_cons_zero, List.set_cons_succ]
  refine wpAnyH_take (i := 6) (v := ?_) (by (simp only [List.getElem?_toArray, List.getElem?_cons_succ, List.getElem?_cons_zero]; rfl)) (by kernel_rfl) (by kernel_rfl) (by kernel_rfl) (fun _ _ _ h => h) (Or.inl ⟨by rfl, ?_⟩) (by assumption) ?_
  rotate_left
  · (intro w hSw; (try dsimp only at hSw); go_simp; try with_reducible rfl)
  try simp only [Act.put, List.setIfInBounds_toArray, List.set_cons_zero, List.set_cons_succ]
  refine wpAnyH_take (i := 7) (v := ?_) (by (simp only [List.getElem?_toArray, List.getElem?_cons_succ, List.getElem?_cons_zero]; rfl)) (by kernel_rfl) (by kernel_rfl) (by kernel_rfl) (fun _ _ _ h => h) (Or.inl ⟨by rfl, ?_⟩) (by assumption) ?_
  rotate_left
  · (intro w hSw; (try dsimp only at hSw); go_simp; try with_reducible rfl)
  try simp only [Act.put, List.setIfInBounds_toArray, List.set_cons_zero, List.set_cons_succ]
  refine wpAnyH_take (i := 8) (v := ?_) (by (simp only [List.getElem?_toArray, List.getElem?_cons_succ, List.getElem?_cons_zero]; rfl)) (by kernel_rfl) (by kernel_rfl) (by kernel_rfl) (fun _ _ _ h => h) (Or.inl ⟨by rfl, ?_⟩) (by assumption) ?_
  rotate_left
  · (intro w hSw; (try dsimp only at hSw); go_simp; try with_reducible rfl)
  try simp only [Act.put, List.setIfInBounds_toArray, List.set_cons_zero, List.set_cons_succ]
  refine wpAnyH_take (i := 9) (v := ?_) (by (simp only [List.getElem?_toArray, List.getElem?_cons_succ, List.getElem?_cons_zero]; rfl)) (by kernel_rfl) (by kernel_rfl) (by kernel_rfl) (fun _ _ _ h => h) (Or.inl ⟨by rfl, ?_⟩) (by assumption) ?_
  rotate_left
  · (intro w hSw; (try dsimp only at hSw); go_simp; try with_reducible rfl)
  try simp only [Act.put, List.setIfInBounds_toArray, List.set_cons_zero, List.set_cons_succ]
  refine wpAnyH_take (i := 10) (v := ?_) (by (simp only [List.getElem?_toArray, List.getElem?_cons_succ, List.getElem?_cons_zero]; rfl)) (by kernel_rfl) (by kernel_rfl) (by kernel_rfl) (fun _ _ _ h => h) (Or.inl ⟨by rfl, ?_⟩) (by assumption) ?_
  rotate_left
  · (intro w hSw; (try dsimp only at hSw); go_simp; try with_reducible rfl)
  try simp only [Act.put, List.setIfInBounds_toArray, List.set_cons_zero, List.set_cons_succ]
  refine wpAnyH_take (i := 11) (v := ?_) (by (simp only [List.getElem?_toArray, List.getElem?_cons_succ, List.getElem?_cons_zero]; rfl)) (by kernel_rfl) (by kernel_rfl) (by kernel_rfl) (fun _ _ _ h => h) (Or.inl ⟨by rfl, ?_⟩) (by assumption) ?_
  rotate_left
  · (intro w hSw; (try dsimp only at hSw); go_simp; try with_reducible rfl)
  try simp only [Act.put, List.setIfInBounds_toArray, List.set_cons_zero, List.set_cons_succ]
  refine wpAnyH_ready (rs := [3]) (by kernel_rfl) (by simp) ?_
  refine AllReadyH.cons (by (simp only [List.getElem?_toArray, List.getElem?_cons_succ, List.getElem?_cons_zero]; rfl)) (fun K hK => ?_) AllReadyH.nil
  go_simp
  refine (out_any (some ⟨rb, 0, none⟩) n c S j _ wd HR1d.out hs1d hj hn1000).mono ?_
  rintro e w2 ⟨A2, n2, c2, rfl, hr, hb⟩
  have g0 : w2.cell? ⟨X, 1, none⟩ = some (.int .i64 j) := (hb.cell (p := ⟨X, 1, none⟩) hXs1d).trans f0
  have g1 : w2.cell? ⟨rb, j * 2, none⟩ = some (.int .i64 pt) := (hb.cell (p := ⟨rb, j * 2, none⟩) hrb1d).trans f1
  have g2 : w2.cell? ⟨rb, j * 2 + 1, none⟩ = some (.string (str pl)) := (hb.cell (p := ⟨rb, j * 2 + 1, none⟩) hrb1d).trans f2
  have g3 : BytesIn w2 M0 PA Pc pl := f3.below (hM0 ▸ hb) (Nat.le_refl _)
  have HF : Hid (Both w2 S B N LA1 Lc1 A2 n2 c2 (l.eraseIdx j)) := Lib.hid ⟨HN1d.out.below hb, by rw [absP_erase]; exact hr, H0.out.good.erase j⟩
  have HB2 := Lib.hid (HB1d.out.trans (hb.mono hs1d))
  clear hr hb
  refine hK.out _ _ ?_ (fun hHeld => ?_)
  · try dsimp only
    (refine ⟨?_, ?_, ?_, ?_⟩ <;> (first | with_reducible assumption))
  clear hK K
  try simp only [Act.put, List.setIfInBounds_toArray, List.set_cons_zero, List.set_cons_succ]
  refine wpAnyH_take (i := 12) (v := ?_) (by (simp only [List.getElem?_toArray, List.getElem?_cons_succ, List.getElem?_cons_zero]; rfl)) (by kernel_rfl) (by kernel_rfl) (by kernel_rfl) (fun _ _ _ h => h) (Or.inl ⟨by rfl, ?_⟩) (by assumption) ?_
  rotate_left
  · (intro w hSw; (try dsimp only at hSw); go_simp; try with_reducible rfl)
  try simp only [Act.put, List.setIfInBounds_toArray, List.set_cons_zero, List.set_cons_succ]
  refine wpAnyH_take (i := 13) (v := ?_) (by (simp only [List.getElem?_toArray, List.getElem?_cons_succ, List.getElem?_cons_zero]; rfl)) (by kernel_rfl) (by kernel_rfl) (by kernel_rfl) (fun _ _ _ h => h) (Or.inl ⟨by rfl, ?_⟩) (by assumption) ?_
  rotate_left
  · (intro w hSw; (try dsimp only at hSw); go_simp; try with_reducible rfl)
  try simp only [Act.put, List.setIfInBounds_toArray, List.set_cons_zero, List.set_cons_succ]
  refine wpAnyH_take (i := 14) (v := ?_) (by (simp only [List.getElem?_toArray, List.getElem?_cons_succ, List.getElem?_cons_zero]; rfl)) (by kernel_rfl) (by kernel_rfl) (by kernel_rfl) (fun _ _ _ h => h) (Or.inl ⟨by rfl, ?_⟩) (by assumption) ?_
  rotate_left
  · (intro w hSw; (try dsimp only at hSw); have z := zc hSw.2.2.2 HM.out; go_simp; try with_reducible rfl)
  try simp only [Act.put, List.setIfInBounds_toArray, List.set_cons_zero, List.set_cons_succ]
  refine wpAnyH_take (i := 15) (v := ?_) (by (simp only [List.getElem?_toArray, List.getElem?_cons_succ, List.getElem?_cons_zero]; rfl)) (by kernel_rfl) (by kernel_rfl) (by kernel_rfl) (fun _ _ _ h => h) (Or.inl ⟨by rfl, ?_⟩) (by assumption) ?_
  rotate_left
  · (intro w hSw; (try dsimp only at hSw); go_simp; try with_reducible rfl)
  try simp only [Act.put, List.setIfInBounds_toArray, List.set_cons_zero, List.set_cons_succ]
  refine wpAnyH_take (i := 16) (v := ?_) (by (simp only [List.getElem?_toArray, List.getElem?_cons_succ, List.getElem?_cons_zero]; rfl)) (by kernel_rfl) (by kernel_rfl) (by kernel_rfl) (fun _ _ _ h => h) (Or.inl ⟨by rfl, ?_⟩) (by assumption) ?_
  rotate_left
  · (intro w hSw; (try dsimp only at hSw); go_simp; try with_reducible rfl)
  try simp only [Act.put, List.setIfInBounds_toArray, List.set_cons_zero, List.set_cons_succ]
  refine wpAnyH_take (i := 17) (v := ?_) (by (simp only [List.getElem?_toArray, List.getElem?_cons_succ, List.getElem?_cons_zero]; rfl)) (by kernel_rfl) (by kernel_rfl) (by kernel_rfl) (fun _ _ _ h => h) (Or.inl ⟨by rfl, ?_⟩) (by assumption) ?_
  rotate_left
  · (intro w hSw; (try dsimp only at hSw); go_simp; try with_reducible rfl)
  try simp only [Act.put, List.setIfInBounds_toArray, List.set_cons_zero, List.set_cons_succ]
  refine wpAnyH_take (i := 18) (v := ?_) (by (simp only [List.getElem?_toArray, List.getElem?_cons_succ, List.getElem?_cons_zero]; rfl)) (by kernel_rfl) (by kernel_rfl) (by kernel_rfl) (fun _ _ _ h => h) (Or.inl ⟨by rfl, ?_⟩) (by assumption) ?_
  rotate_left
  · (intro w hSw; (try dsimp only at hSw); go_simp; try with_reducible rfl)
  try simp only [Act.put, List.setIfInBounds_toArray, List.set_cons_zero, List.set_cons_succ]
  refine wpAnyH_take (i := 19) (v := ?_) (by (simp only [List.getElem?_toArray, List.getElem?_cons_succ, List.getElem?_cons_zero]; rfl)) (by kernel_rfl) (by kernel_rfl) (by kernel_rfl) (fun _ _ _ h => h) (Or.inl ⟨by rfl, ?_⟩) (by assumption) ?_
  rotate_left
  · (intro w hSw; (try dsimp only at hSw); go_simp; try with_reducible rfl)
  try simp only [Act.put, List.setIfInBounds_toArray, List.set_cons_zero, List.set_cons_succ]
  refine wpAnyH_take (i := 20) (v := ?_) (by (simp only [List.getElem?_toArray, List.getElem?_cons_succ, List.getElem?_cons_zero]; rfl)) (by kernel_rfl) (by kernel_rfl) (by kernel_rfl) (fun _ _ _ h => h) (Or.inl ⟨by rfl, ?_⟩) (by assumption) ?_
  rotate_left
  · (intro w hSw; (try dsimp only at hSw); go_simp; try with_reducible rfl)
  try simp only [Act.put, List.setIfInBounds_toArray, List.set_cons_zero, List.set_cons_succ]
  refine wpAnyH_take (i := 21) (v := ?_) (by (simp only [List.getElem?_toArray, List.getElem?_cons_succ, List.getElem?_cons_zero]; rfl)) (by kernel_rfl) (by kernel_rfl) (by kernel_rfl) (fun _ _ _ h => h) (Or.inl ⟨by rfl, ?_⟩) (by assumption) ?_
  rotate_left
  · (intro w hSw; (try dsimp only at hSw); go_simp; try with_reducible rfl)
  try simp only [Act.put, List.setIfInBounds_toArray, List.set_cons_zero, List.set_cons_succ]
  refine wpAnyH_take (i := 22) (v := ?_) (by (simp only [List.getElem?_toArray, List.getElem?_cons_succ, List.getElem?_cons_zero]; rfl)) (by kernel_rfl) (by kernel_rfl) (by kernel_rfl) (fun _ _ _ h => h) (Or.inl ⟨by rfl, ?_⟩) (by assumption) ?_
  rotate_left
  · (intro w hSw; (try dsimp only at hSw); go_simp; try with_reducible rfl)
  try simp only [Act.put, List.setIfInBounds_toArray, List.set_cons_zero, List.set_cons_succ]
  refine wpAnyH_take (i := 23) (v := ?_) (by (simp only [List.getElem?_toArray, List.getElem?_cons_succ, List.getElem?_cons_zero]; rfl)) (by kernel_rfl) (by kernel_rfl) (by kernel_rfl) (fun _ _ _ h => h) (Or.inl ⟨by rfl, ?_⟩) (by assumption) ?_
  rotate_left
  · (intro w hSw; (try dsimp only at hSw); go_simp; try with_reducible rfl)
  try simp only [Act.put, List.setIfInBounds_toArray, List.set_cons_zero, List.set_cons_succ]
  refine wpAnyH_take (i := 24) (v := ?_) (by (simp only [List.getElem?_toArray, List.getElem?_cons_succ, List.getElem?_cons_zero]; rfl)) (by kernel_rfl) (by kernel_rfl) (by kernel_rfl) (fun _ _ _ h => h) (Or.inl ⟨by rfl, ?_⟩) (by assumption) ?_
  rotate_left
  · (intro w hSw; (try dsimp only at hSw); go_simp; try with_reducible rfl)
  try simp only [Act.put, List.setIfInBounds_toArray, List.set_cons_zero, List.set_cons_succ]
  refine wpAnyH_take (i := 25) (v := ?_) (by (simp only [List.getElem?_toArray, List.getElem?_cons_succ, List.getElem?_cons_zero]; rfl)) (by kernel_rfl) (by kernel_rfl) (by kernel_rfl) (fun _ _ _ h => h) (Or.inl ⟨by rfl, ?_⟩) (by assumption) ?_
  rotate_left
  · (intro w hSw; (try dsimp only at hSw); go_simp; try with_reducible rfl)
  try simp only [Act.put, List.setIfInBounds_toArray, List.set_cons_zero, List.set_cons_succ]
  refine wpAnyH_take (i := 26) (v := ?_) (by (simp only [List.getElem?_toArray, List.getElem?_cons_succ, List.getElem?_cons_zero]; rfl)) (by kernel_rfl) (by kernel_rfl) (by kernel_rfl) (fun _ _ _ h => h) (Or.inl ⟨by rfl, ?_⟩) (by assumption) ?_
  rotate_left
  · (intro w hSw; (try dsimp only at hSw); go_simp; try with_reducible rfl)
  try simp only [Act.put, List.setIfInBounds_toArray, List.set_cons_zero, List.set_cons_succ]
  refine wpAnyH_take (i := 27) (v := ?_) (by (simp only [List.getElem?_toArray, List.getElem?_cons_succ, List.getElem?_cons_zero]; rfl)) (by kernel_rfl) (by kernel_rfl) (by kernel_rfl) (fun _ _ _ h => h) (Or.inl ⟨by rfl, ?_⟩) (by assumption) ?_
  rotate_left
  · (intro w hSw; (try dsimp only at hSw); go_simp; try with_reducible rfl)
  try simp only [Act.put, List.setIfInBounds_toArray, List.set_cons_zero, List.set_cons_succ]
  refine wpAnyH_done (by kernel_rfl) ?_ _
  refine NoPanic.normal ?_
  clear hHeld f0 f1 f2 f3 g0 g1 g2 g3
  go_wp2_with fail
  refine bodyPost_ret (v := .tuple #[.slice A2 n2 c2, .bool true]) (by simp [results, Tryd.results24, go_sem]) rfl ?_
  exact HF.out.same HB2.out
set_option maxRecDepth 100000 in
set_option maxHeartbeats 4000000 in
theorem done_5F (kd ix to_ bit : Int) (Ab : Option Addr) (nb cb : Nat) (bs : List UInt8) {w : World} {S B N Lc n c : Nat} {LA A : Option Addr} {l : List Pv} (h : Both w S B N LA Lc A n c l) (hSB : S ≤ B) (hby : BytesIn w S Ab cb bs) (hnb : nb = bs.length) (_hbs : nb ≤ 1000) (hno : ¬ (0 ≤ ix ∧ ix < (n : Int))) (hk : bits .and .i64 kd 7 = 5) :
    Calls Tryd.prog 24 #[.pointer (some ⟨N, 0, none⟩), .slice A n c, .agg #[.int .i64 kd, .int .i64 ix, .int .i64 to_, .int .i64 bit, .slice Ab nb cb]] w fun e w' => DoneTo w S B N e w' := by
  obtain ⟨X, hX⟩ : ∃ x, x = w.heap.size := ⟨_, rfl⟩
  obtain ⟨w0, hw0⟩ : ∃ y, y = w.alloc (.cells #[.int .i64 kd, .int .i64 ix, .int .i64 to_, .int .i64 bit, .slice Ab nb cb] 51) := ⟨_, rfl⟩
  have hal : Below w.heap.size w w0 := by rw [hw0]; exact (Below.refl _ _).alloc (Nat.le_refl _) _
  have hx : w0.heap[X]? = some (.cells #[.int .i64 kd, .int .i64 ix, .int .i64 to_, .int .i64 bit, .slice Ab nb cb] 51 (0, 0)) := by rw [hw0, hX]; exact heap_alloc_new w _
  have hSw : S ≤ w.heap.size := Nat.le_trans hSB h.size
  have H0 := Lib.hid (h.below hal)
  have HX0 := Lib.hid hx
  have HB0 := Lib.hid (hal.mono hSw)
  have HY0 := Lib.hid (hby.below (hal.mono hSw) (Nat.le_refl _))
  have HNB := Lib.hid hnb
  have HL := Lib.hid h.len
  have HW := Lib.hid hw0
  have HXW := Lib.hid hX
  have hs0 : S ≤ w0.heap.size := Nat.le_trans hSw hal.size
  have hXs : X < w0.heap.size := ltb hx
  have hSX : S ≤ X := by omega
  have hn1000 : n ≤ 1000 := by have := h.good.1; have := h.len; omega
  have x0 := cellb (i := 0) hx rfl
  have x1 := cellb (i := 1) hx rfl
  have x2 := cellb (i := 2) hx rfl
  have x3 := cellb (i := 3) hx rfl
  have x4 := cellb (i := 4) hx rfl
  clear hw0 hal hx h hby hnb hX hSw
  go_enter Tryd.func24, Tryd.ntmps24
  go_upto_region 1 with fail
  rw [← HXW.out, ← HW.out]
  clear HW HXW
  by_cases hge : 0 ≤ ix
  · have hlt : ¬ ix < (n : Int) := fun h => hno ⟨hge, h⟩
    go_wp2_with fail
    have hhas : hasB ix l.length = false := by simp only [hasB, Bool.and_eq_false_iff, decide_eq_false_iff_not]; rw [← HL.out]; omega
    have HAS := Lib.hid (has_any w0 H0.out.net ix)
    rw [hhas] at HAS
    refine (double_none w0 ix _ HAS.out).mono ?_
    rintro e w1 ⟨rfl, rfl⟩
    go_wp2_with fail
    refine bodyPost_ret (v := .tuple #[.slice A n c, .bool true]) (by simp [results, Tryd.results24, go_sem]) rfl ?_
    exact H0.out.same HB0.out
  · skip
    go_wp2_with fail
    have hhas : hasB ix l.length = false := by simp only [hasB, Bool.and_eq_false_iff, decide_eq_false_iff_not]; rw [← HL.out]; omega
    have HAS := Lib.hid (has_any w0 H0.out.net ix)
    rw [hhas] at HAS
    refine (double_none w0 ix _ HAS.out).mono ?_
    rintro e w1 ⟨rfl, rfl⟩
    go_wp2_with fail
    refine bodyPost_ret (v := .tuple #[.slice A n c, .bool true]) (by simp [results, Tryd.results24, go_sem]) rfl ?_
    exact H0.out.same HB0.out
set_option maxRecDepth 100000 in
set_option maxHeartbeats 4000000 in
theorem done_5T (kd  to_ bit : Int) (j : Nat) (Ab : Option Addr) (nb cb : Nat) (bs : List UInt8) {w : World} {S B N Lc n c : Nat} {LA A : Option Addr} {l : List Pv} (h : Both w S B N LA Lc A n c l) (hSB : S ≤ B) (hby : BytesIn w S Ab cb bs) (hnb : nb = bs.length) (_hbs : nb ≤ 1000) (hj : j < n) (hk : bits .and .i64 kd 7 = 5) :
    Calls Tryd.prog 24 #[.pointer (some ⟨N, 0, none⟩), .slice A n c, .agg #[.int .i64 kd, .int .i64 j, .int .i64 to_, .int .i64 bit, .slice Ab nb cb]] w fun e w' => DoneTo w S B N e w' := by
  obtain ⟨X, hX⟩ : ∃ x, x = w.heap.size := ⟨_, rfl⟩
  obtain ⟨w0, hw0⟩ : ∃ y, y = w.alloc (.cells #[.int .i64 kd, .int .i64 j, .int .i64 to_, .int .i64 bit, .slice Ab nb cb] 51) := ⟨_, rfl⟩
  have hal : Below w.heap.size w w0 := by rw [hw0]; exact (Below.refl _ _).alloc (Nat.le_refl _) _
  have hx : w0.heap[X]? = some (.cells #[.int .i64 kd, .int .i64 j, .int .i64 to_, .int .i64 bit, .slice Ab nb cb] 51 (0, 0)) := by rw [hw0, hX]; exact heap_alloc_new w _
  have hSw : S ≤ w.heap.size := Nat.le_trans hSB h.size
  have H0 := Lib.hid (h.below hal)
  have HX0 := Lib.hid hx
  have HB0 := Lib.hid (hal.mono hSw)
  have HY0 := Lib.hid (hby.below (hal.mono hSw) (Nat.le_refl _))
  have HNB := Lib.hid hnb
  have HL := Lib.hid h.len
  have HW := Lib.hid hw0
  have HXW := Lib.hid hX
  have hs0 : S ≤ w0.heap.size := Nat.le_trans hSw hal.size
  have hXs : X < w0.heap.size := ltb hx
  have hSX : S ≤ X := by omega
  have hn1000 : n ≤ 1000 := by have := h.good.1; have := h.len; omega
  have x0 := cellb (i := 0) hx rfl
  have x1 := cellb (i := 1) hx rfl
  have x2 := cellb (i := 2) hx rfl
  have x3 := cellb (i := 3) hx rfl
  have x4 := cellb (i := 4) hx rfl
  obtain ⟨p, hp⟩ : ∃ p, l[j]? = some p := ⟨l[j]'(by have := h.len; omega), List.getElem?_eq_getElem (by have := h.len; omega)⟩
  obtain ⟨rb, hrA, hrb, hr0, hr1⟩ := h.pk hp
  subst hrA
  have hrb0 : rb < w0.heap.size := Nat.lt_of_lt_of_le hrb hal.size
  have HRC := Lib.hid (And.intro ((hal.cell (p := ⟨rb, j * 2, none⟩) hrb).trans hr0) ((hal.cell (p := ⟨rb, j * 2 + 1, none⟩) hrb).trans hr1))
  have HP := Lib.hid hp
  have hpl : p.l.length ≤ 1000 := h.good.2 p (List.mem_of_getElem? hp)
  clear hp hrb hr0 hr1
  clear hw0 hal hx h hby hnb hX hSw
  go_enter Tryd.func24, Tryd.ntmps24
  go_upto_region 1 with fail
  rw [← HXW.out, ← HW.out]
  clear HW HXW
  have hj0 : (0 : Int) ≤ (j : Int) := by omega
  have hjn : (j : Int) < (n : Int) := by omega
  obtain ⟨pl, hpe⟩ : ∃ x, x = p.l := ⟨_, rfl⟩
  obtain ⟨pt, hpt⟩ : ∃ x, x = p.to_ := ⟨_, rfl⟩
  have HPE := Lib.hid (And.intro hpe hpt)
  rw [← hpe, ← hpt] at HRC
  have hd := H0.out.below (Below.refl _ w0).drew
  have HD := Lib.hid hd
  clear hpe hpt hd
  go_wp2_with fail
  clear x0 x1 x2 x3 x4
  by_cases hf : l.length < 1000
  · refine (double_of w0 H0.out.net HP.out (fun w' => ∃ LA1 Lc1 QA Qc, NAt w' B N LA1 Lc1 (l ++ [⟨p.to_, QA, Qc, p.l⟩]) ∧ NCh B w0.drew w') ((send_any w0.drew HD.out.net hf p.to_ p.A p.l.length p.c p.l (HD.out.net.bytes (List.mem_of_getElem? HP.out)) rfl (by omega)).mono (by rintro e w' ⟨LA1, Lc1, QA, Qc, rfl, hn, hc⟩; exact ⟨rfl, LA1, Lc1, QA, Qc, hn, hc⟩))).mono ?_
    rintro e w1 ⟨rfl, LA1, Lc1, QA, Qc, hn, hc0⟩
    have hc : NCh B w0 w1 := (NCh.of_below (Below.refl _ w0).drew H0.out.size).trans hc0
    have HX1 := Lib.hid (hc.kp _ _ HX0.out (by show (51 + 1 : Nat) ≠ _; decide) (by show (51 + 1 : Nat) ≠ _; decide))
    have HN1 := Lib.hid hn
    have HR1 := Lib.hid (H0.out.row.nch hc)
    have HB1 := Lib.hid (HB0.out.trans (hc.low.mono hSB))
    have hs1 : S ≤ w1.heap.size := Nat.le_trans hs0 hc.size
    have hG : Hid (GoodL (l ++ [⟨p.to_, QA, Qc, p.l⟩])) := Lib.hid ⟨by rw [List.length_append]; exact hf, fun p' hp' => by
      rw [List.mem_append, List.mem_singleton] at hp'
      rcases hp' with hp' | rfl
      · exact H0.out.good.2 p' hp'
      · exact hpl⟩
    clear hn hc hc0 HX0 HB0
    obtain ⟨rb', hrr, _, _, hq0, hq1, _⟩ := HR1.out.pk (j := j) (p := absP p) (by rw [List.getElem?_map, HP.out]; rfl)
    injection hrr with hrr
    injection hrr with hrr _
    subst hrr
    have q0 : w1.cell? ⟨rb, j * 2, none⟩ = some (.int .i64 pt) := by rw [hq0, HPE.out.2]; rfl
    have q1 : w1.cell? ⟨rb, j * 2 + 1, none⟩ = some (.string (str pl)) := by rw [hq1, HPE.out.1]; rfl
    have x1 := cellb (i := 1) HX1.out rfl
    clear hq0 hq1
    go_wp2_with fail
    clear q0 q1 x1
    refine (put_any _ n c S _ pt pl w1 HR1.out hs1 (by have := HL.out; omega)).mono ?_
    rintro e w2 ⟨A2, n2, c2, rfl, hr, hb⟩
    have HF : Hid (Both w2 S B N LA1 Lc1 A2 n2 c2 (l ++ [⟨p.to_, QA, Qc, p.l⟩])) := Lib.hid ⟨HN1.out.below hb, by rw [List.map_append, ← HPE.out.1, ← HPE.out.2]; exact hr, hG.out⟩
    have HB2 := Lib.hid (HB1.out.trans (hb.mono hs1))
    clear hr hb
    go_wp2_with fail
    refine bodyPost_ret (v := .tuple #[.slice A2 n2 c2, .bool true]) (by simp [results, Tryd.results24, go_sem]) rfl ?_
    exact HF.out.same HB2.out
  · have HGD := Lib.hid H0.out.good
    refine (double_of w0 H0.out.net HP.out (fun w' => w0.drew = w') (send_full w0.drew HD.out.net (by omega) p.to_ p.A p.l.length p.c)).mono ?_
    rintro e w1 ⟨rfl, rfl⟩
    have HX1 : Hid (w0.drew.heap[X]? = _) := HX0
    have HR1 := Lib.hid HD.out.row
    have HN1 := Lib.hid HD.out.net
    have HB1 : Hid (Below S w w0.drew) := Lib.hid HB0.out.drew
    have hs1 : S ≤ w0.drew.heap.size := hs0
    clear HX0 HB0 H0 HD
    generalize w0.drew = w1 at HX1 HR1 HN1 HB1 hs1 ⊢
    obtain ⟨rb', hrr, _, _, hq0, hq1, _⟩ := HR1.out.pk (j := j) (p := absP p) (by rw [List.getElem?_map, HP.out]; rfl)
    injection hrr with hrr
    injection hrr with hrr _
    subst hrr
    have q0 : w1.cell? ⟨rb, j * 2, none⟩ = some (.int .i64 pt) := by rw [hq0, HPE.out.2]; rfl
    have q1 : w1.cell? ⟨rb, j * 2 + 1, none⟩ = some (.string (str pl)) := by rw [hq1, HPE.out.1]; rfl
    have x1 := cellb (i := 1) HX1.out rfl
    clear hq0 hq1
    go_wp2_with fail
    clear q0 q1 x1
    refine (put_full _ n c S _ pt pl w1 HR1.out (by have := HL.out; omega)).mono ?_
    rintro e w2 ⟨A2, n2, c2, rfl, hr, hb⟩
    have HF : Hid (Both w2 S B N LA Lc A2 n2 c2 l) := Lib.hid ⟨HN1.out.below hb, hr, HGD.out⟩
    have HB2 := Lib.hid (HB1.out.trans (hb.mono hs1))
    clear hr hb
    go_wp2_with fail
    refine bodyPost_ret (v := .tuple #[.slice A2 n2 c2, .bool true]) (by simp [results, Tryd.results24, go_sem]) rfl ?_
    exact HF.out.same HB2.out
end Go.Proofs.YtkenaoejijpgpaaDoor
