/- Amounts: the document's sums, differences and products. -/
import Derived.Test.YtfbmjejkhnopiaaDoorVecB
namespace Go.Proofs.YtfbmjejkhnopiaaDoor
open Go.RowKit

set_option maxRecDepth 100000 in
set_option maxHeartbeats 1000000 in
theorem radd_any (a b : Nat → Int) (w : World)  :
    Calls Tryd.prog 17 #[.agg #[.int .i64 (a 0), .int .i64 (a 1), .int .i64 (a 2), .int .i64 (a 3)], .agg #[.int .i64 (b 0), .int .i64 (b 1), .int .i64 (b 2), .int .i64 (b 3)]] w fun e w' => e = .returned (.tuple #[.agg #[.int .i64 (toldV (okv a && okv b) (fun i => a i + b i) 0), .int .i64 (toldV (okv a && okv b) (fun i => a i + b i) 1), .int .i64 (toldV (okv a && okv b) (fun i => a i + b i) 2), .int .i64 (toldV (okv a && okv b) (fun i => a i + b i) 3)], .int .i64 (toldE (okv a && okv b) (fun i => a i + b i) (30))]) ∧ Below w.heap.size w w' := by
  obtain ⟨S, hS⟩ : ∃ S, S = w.heap.size := ⟨_, rfl⟩
  obtain ⟨w1, hw1⟩ : ∃ x, x = (((w.alloc (.cells #[.int .i64 (a 0), .int .i64 (a 1), .int .i64 (a 2), .int .i64 (a 3)] 23)).alloc (.cells #[.int .i64 (b 0), .int .i64 (b 1), .int .i64 (b 2), .int .i64 (b 3)] 23)).alloc (.cells #[.int .i64 0, .int .i64 0, .int .i64 0, .int .i64 0] 23)) := ⟨_, rfl⟩
  have HB_1 : Hid (Below w.heap.size w w1) := Lib.hid (by rw [hw1]; exact ((((Below.refl w.heap.size w).alloc (by simp) _).alloc (by simp) _).alloc (by simp; omega) _))
  have HS_1 : Hid (VAt w1 S a) := Lib.hid (by
    rw [hw1, hS]
    have h := heap_alloc_new w (.cells #[.int .i64 (a 0), .int .i64 (a 1), .int .i64 (a 2), .int .i64 (a 3)] 23)
    replace h := (Below.heap_alloc (w.alloc (.cells #[.int .i64 (a 0), .int .i64 (a 1), .int .i64 (a 2), .int .i64 (a 3)] 23)) (.cells #[.int .i64 (b 0), .int .i64 (b 1), .int .i64 (b 2), .int .i64 (b 3)] 23) _ (by simp)).trans h
    replace h := (Below.heap_alloc ((w.alloc (.cells #[.int .i64 (a 0), .int .i64 (a 1), .int .i64 (a 2), .int .i64 (a 3)] 23)).alloc (.cells #[.int .i64 (b 0), .int .i64 (b 1), .int .i64 (b 2), .int .i64 (b 3)] 23)) (.cells #[.int .i64 0, .int .i64 0, .int .i64 0, .int .i64 0] 23) _ (by simp; omega)).trans h
    exact h)
  have HR_1 : Hid (VAt w1 (S + 1) b) := Lib.hid (by
    rw [hw1, hS]
    have h := heap_alloc_new (w.alloc (.cells #[.int .i64 (a 0), .int .i64 (a 1), .int .i64 (a 2), .int .i64 (a 3)] 23)) (.cells #[.int .i64 (b 0), .int .i64 (b 1), .int .i64 (b 2), .int .i64 (b 3)] 23)
    simp only [World.size_alloc] at h
    replace h := (Below.heap_alloc ((w.alloc (.cells #[.int .i64 (a 0), .int .i64 (a 1), .int .i64 (a 2), .int .i64 (a 3)] 23)).alloc (.cells #[.int .i64 (b 0), .int .i64 (b 1), .int .i64 (b 2), .int .i64 (b 3)] 23)) (.cells #[.int .i64 0, .int .i64 0, .int .i64 0, .int .i64 0] 23) _ (by simp)).trans h
    exact h)
  have HT_1 : Hid (VAt w1 (S + 2) (fun _ => 0)) := Lib.hid (by
    rw [hw1, hS]
    have h := heap_alloc_new ((w.alloc (.cells #[.int .i64 (a 0), .int .i64 (a 1), .int .i64 (a 2), .int .i64 (a 3)] 23)).alloc (.cells #[.int .i64 (b 0), .int .i64 (b 1), .int .i64 (b 2), .int .i64 (b 3)] 23)) (.cells #[.int .i64 0, .int .i64 0, .int .i64 0, .int .i64 0] 23)
    simp only [World.size_alloc] at h
    exact h)
  have HS := Lib.hid hS
  go_enter Tryd.func17, Tryd.ntmps17
  go_upto_region 1 with (fail)
  rw [← hw1, ← hS]
  clear hw1 hS
  go_wp2_with (refine wpList_load_row rfl 23 (.tmp 2) rfl (S) rfl 23 _ (0, 0) _ HS_1.out Tryd.underlying23 rfl (by kernel_rfl) ?_)
  refine (rright_any (a 0) (a 1) (a 2) (a 3) w1).mono ?_
  rintro e w2 ⟨rfl, hb⟩
  rw [show rB (a 0) (a 1) (a 2) (a 3) = okv a from rfl]
  have HB_2 : Hid (Below w.heap.size w w2) := Lib.hid (HB_1.out.trans (hb.mono HB_1.out.size))
  have HS_2 : Hid (VAt w2 S a) := Lib.hid (HS_1.out.below hb (ltb HS_1.out))
  have HR_2 : Hid (VAt w2 (S + 1) b) := Lib.hid (HR_1.out.below hb (ltb HR_1.out))
  have HT_2 : Hid (VAt w2 (S + 2) (fun _ => 0)) := Lib.hid (HT_1.out.below hb (ltb HT_1.out))
  clear hb HB_1 HS_1 HR_1 HT_1
  go_wp2_with (refine wpList_load_row rfl 23 (.tmp 3) rfl (S + 1) rfl 23 _ (0, 0) _ HR_2.out Tryd.underlying23 rfl (by kernel_rfl) ?_)
  refine (rright_any (b 0) (b 1) (b 2) (b 3) w2).mono ?_
  rintro e w3 ⟨rfl, hb⟩
  rw [show rB (b 0) (b 1) (b 2) (b 3) = okv b from rfl]
  have HB_3 : Hid (Below w.heap.size w w3) := Lib.hid (HB_2.out.trans (hb.mono HB_2.out.size))
  have HS_3 : Hid (VAt w3 S a) := Lib.hid (HS_2.out.below hb (ltb HS_2.out))
  have HR_3 : Hid (VAt w3 (S + 1) b) := Lib.hid (HR_2.out.below hb (ltb HR_2.out))
  have HT_3 : Hid (VAt w3 (S + 2) (fun _ => 0)) := Lib.hid (HT_2.out.below hb (ltb HT_2.out))
  clear hb HB_2 HS_2 HR_2 HT_2
  rcases hoa : okv a with _ | _
  · have HA := Lib.hid hoa
    clear hoa
    have HST : Hid (VAt (w3.setRow (S + 2) #[.int .i64 0, .int .i64 0, .int .i64 0, .int .i64 0]) (S + 2) (fun _ => 0)) := Lib.hid (setRow_heap w3 (S + 2) _ _ _ _ HT_3.out)
    have HBF : Hid (Below w.heap.size w (w3.setRow (S + 2) #[.int .i64 0, .int .i64 0, .int .i64 0, .int .i64 0])) := Lib.hid (HB_3.out.trans (((Chg.refl (fun k => k = S + 2) w3).setRow (.inr rfl) _).below HB_3.out.size (fun k hk e => by have := HS.out; omega)))
    go_wp2_with (refine wpList_store_row rfl 23 (.tmp 4) (.tmp 19) rfl (S + 2) _ rfl rfl 23 _ HT_3.out (by kernel_rfl) rfl (by simp [Value.oneCell']) ?_)
    refine bodyPost_ret (v := .tuple #[.agg #[.int .i64 0, .int .i64 0, .int .i64 0, .int .i64 0], .int .i64 1]) (results_vece Tryd.results17 _ _ (S + 2) (fun _ => 0) rfl HST.out) rfl ⟨?_, HBF.out⟩
    simp [toldV, toldE, HA.out]
  have HA := Lib.hid hoa
  clear hoa
  rcases hob : okv b with _ | _
  · have HBo := Lib.hid hob
    clear hob
    have HST : Hid (VAt (w3.setRow (S + 2) #[.int .i64 0, .int .i64 0, .int .i64 0, .int .i64 0]) (S + 2) (fun _ => 0)) := Lib.hid (setRow_heap w3 (S + 2) _ _ _ _ HT_3.out)
    have HBF : Hid (Below w.heap.size w (w3.setRow (S + 2) #[.int .i64 0, .int .i64 0, .int .i64 0, .int .i64 0])) := Lib.hid (HB_3.out.trans (((Chg.refl (fun k => k = S + 2) w3).setRow (.inr rfl) _).below HB_3.out.size (fun k hk e => by have := HS.out; omega)))
    go_wp2_with (refine wpList_store_row rfl 23 (.tmp 4) (.tmp 19) rfl (S + 2) _ rfl rfl 23 _ HT_3.out (by kernel_rfl) rfl (by simp [Value.oneCell']) ?_)
    refine bodyPost_ret (v := .tuple #[.agg #[.int .i64 0, .int .i64 0, .int .i64 0, .int .i64 0], .int .i64 1]) (results_vece Tryd.results17 _ _ (S + 2) (fun _ => 0) rfl HST.out) rfl ⟨?_, HBF.out⟩
    simp [toldV, toldE, HBo.out]
  have HBo := Lib.hid hob
  clear hob
  have x0 : w3.cell? ⟨S, 0, none⟩ = some (.int .i64 (a 0)) := HS_3.out.cell (by decide)
  have y0 : w3.cell? ⟨S + 1, 0, none⟩ = some (.int .i64 (b 0)) := HR_3.out.cell (by decide)
  have xb0 := okv_bd HA.out (show 0 < 4 by decide)
  have yb0 := okv_bd HBo.out (show 0 < 4 by decide)
  obtain ⟨xp0, xq0⟩ := xb0
  obtain ⟨yp0, yq0⟩ := yb0
  have x1 : w3.cell? ⟨S, 1, none⟩ = some (.int .i64 (a 1)) := HS_3.out.cell (by decide)
  have y1 : w3.cell? ⟨S + 1, 1, none⟩ = some (.int .i64 (b 1)) := HR_3.out.cell (by decide)
  have xb1 := okv_bd HA.out (show 1 < 4 by decide)
  have yb1 := okv_bd HBo.out (show 1 < 4 by decide)
  obtain ⟨xp1, xq1⟩ := xb1
  obtain ⟨yp1, yq1⟩ := yb1
  have x2 : w3.cell? ⟨S, 2, none⟩ = some (.int .i64 (a 2)) := HS_3.out.cell (by decide)
  have y2 : w3.cell? ⟨S + 1, 2, none⟩ = some (.int .i64 (b 2)) := HR_3.out.cell (by decide)
  have xb2 := okv_bd HA.out (show 2 < 4 by decide)
  have yb2 := okv_bd HBo.out (show 2 < 4 by decide)
  obtain ⟨xp2, xq2⟩ := xb2
  obtain ⟨yp2, yq2⟩ := yb2
  have x3 : w3.cell? ⟨S, 3, none⟩ = some (.int .i64 (a 3)) := HS_3.out.cell (by decide)
  have y3 : w3.cell? ⟨S + 1, 3, none⟩ = some (.int .i64 (b 3)) := HR_3.out.cell (by decide)
  have xb3 := okv_bd HA.out (show 3 < 4 by decide)
  have yb3 := okv_bd HBo.out (show 3 < 4 by decide)
  obtain ⟨xp3, xq3⟩ := xb3
  obtain ⟨yp3, yq3⟩ := yb3
  obtain ⟨P8, hP8⟩ : ∃ x, x = w3.heap.size := ⟨_, rfl⟩
  have hS2 := ltb HT_3.out
  have hal : Below w3.heap.size w3 (w3.alloc (.cells #[.int .i64 (a 0 + b 0), .int .i64 (a 1 + b 1), .int .i64 (a 2 + b 2), .int .i64 (a 3 + b 3)] 23)) := (Below.refl _ _).alloc (Nat.le_refl _) _
  have hnew : (w3.alloc (.cells #[.int .i64 (a 0 + b 0), .int .i64 (a 1 + b 1), .int .i64 (a 2 + b 2), .int .i64 (a 3 + b 3)] 23)).heap[P8]? = some (.cells #[.int .i64 (a 0 + b 0), .int .i64 (a 1 + b 1), .int .i64 (a 2 + b 2), .int .i64 (a 3 + b 3)] 23 (0, 0)) := by rw [hP8]; exact heap_alloc_new _ _
  have HB_4 : Hid (Below w.heap.size w (w3.alloc (.cells #[.int .i64 (a 0 + b 0), .int .i64 (a 1 + b 1), .int .i64 (a 2 + b 2), .int .i64 (a 3 + b 3)] 23))) := Lib.hid (HB_3.out.trans (hal.mono HB_3.out.size))
  have HS_4 : Hid (VAt (w3.alloc (.cells #[.int .i64 (a 0 + b 0), .int .i64 (a 1 + b 1), .int .i64 (a 2 + b 2), .int .i64 (a 3 + b 3)] 23)) S a) := Lib.hid (HS_3.out.below hal (ltb HS_3.out))
  have HR_4 : Hid (VAt (w3.alloc (.cells #[.int .i64 (a 0 + b 0), .int .i64 (a 1 + b 1), .int .i64 (a 2 + b 2), .int .i64 (a 3 + b 3)] 23)) (S + 1) b) := Lib.hid (HR_3.out.below hal (ltb HR_3.out))
  have HT_4 : Hid (VAt (w3.alloc (.cells #[.int .i64 (a 0 + b 0), .int .i64 (a 1 + b 1), .int .i64 (a 2 + b 2), .int .i64 (a 3 + b 3)] 23)) (S + 2) (fun _ => 0)) := Lib.hid (HT_3.out.below hal (ltb HT_3.out))
  clear hal HB_3 HS_3 HR_3 HT_3
  have HP8_4 : Hid (VAt (w3.alloc (.cells #[.int .i64 (a 0 + b 0), .int .i64 (a 1 + b 1), .int .i64 (a 2 + b 2), .int .i64 (a 3 + b 3)] 23)) P8 (fun i => a i + b i)) := Lib.hid hnew
  clear hnew
  go_upto_region 6 with (fail)
  rw [← hP8]
  clear hP8
  generalize w3.alloc (.cells #[.int .i64 (a 0 + b 0), .int .i64 (a 1 + b 1), .int .i64 (a 2 + b 2), .int .i64 (a 3 + b 3)] 23) = w4 at HB_4 HS_4 HR_4 HT_4 HP8_4 ⊢
  clear x0 x1 x2 x3 y0 y1 y2 y3 xp0 xq0 xp1 xq1 xp2 xq2 xp3 xq3 yp0 yq0 yp1 yq1 yp2 yq2 yp3 yq3
  go_wp2_with (refine wpList_load_row rfl 23 (.tmp 8) rfl (P8) rfl 23 _ (0, 0) _ HP8_4.out Tryd.underlying23 rfl (by kernel_rfl) ?_)
  refine (rright_any (a 0 + b 0) (a 1 + b 1) (a 2 + b 2) (a 3 + b 3) w4).mono ?_
  rintro e w5 ⟨rfl, hb⟩
  rw [show rB (a 0 + b 0) (a 1 + b 1) (a 2 + b 2) (a 3 + b 3) = okv (fun i => a i + b i) from rfl]
  have HB_5 : Hid (Below w.heap.size w w5) := Lib.hid (HB_4.out.trans (hb.mono HB_4.out.size))
  have HS_5 : Hid (VAt w5 S a) := Lib.hid (HS_4.out.below hb (ltb HS_4.out))
  have HR_5 : Hid (VAt w5 (S + 1) b) := Lib.hid (HR_4.out.below hb (ltb HR_4.out))
  have HT_5 : Hid (VAt w5 (S + 2) (fun _ => 0)) := Lib.hid (HT_4.out.below hb (ltb HT_4.out))
  have HP8_5 : Hid (VAt w5 P8 (fun i => a i + b i)) := Lib.hid (HP8_4.out.below hb (ltb HP8_4.out))
  clear hb HB_4 HS_4 HR_4 HT_4 HP8_4
  have HOK : Hid ((okv a && okv b) = true) := Lib.hid (by rw [HA.out, HBo.out]; rfl)
  rcases hoc : okv (fun i => a i + b i) with _ | _
  · have HC := Lib.hid hoc
    clear hoc
    have HST : Hid (VAt (w5.setRow (S + 2) #[.int .i64 0, .int .i64 0, .int .i64 0, .int .i64 0]) (S + 2) (fun _ => 0)) := Lib.hid (setRow_heap w5 (S + 2) _ _ _ _ HT_5.out)
    have HBF : Hid (Below w.heap.size w (w5.setRow (S + 2) #[.int .i64 0, .int .i64 0, .int .i64 0, .int .i64 0])) := Lib.hid (HB_5.out.trans (((Chg.refl (fun k => k = S + 2) w5).setRow (.inr rfl) _).below HB_5.out.size (fun k hk e => by have := HS.out; omega)))
    go_wp2_with (refine wpList_store_row rfl 23 (.tmp 4) (.tmp 44) rfl (S + 2) _ rfl rfl 23 _ HT_5.out (by kernel_rfl) rfl (by simp [Value.oneCell']) ?_)
    refine bodyPost_ret (v := .tuple #[.agg #[.int .i64 0, .int .i64 0, .int .i64 0, .int .i64 0], .int .i64 30]) (results_vece Tryd.results17 _ _ (S + 2) (fun _ => 0) rfl HST.out) rfl ⟨?_, HBF.out⟩
    simp [toldV, toldE, HOK.out, HC.out]
  have HC := Lib.hid hoc
  clear hoc
  have HST : Hid (VAt (w5.setRow (S + 2) #[.int .i64 (a 0 + b 0), .int .i64 (a 1 + b 1), .int .i64 (a 2 + b 2), .int .i64 (a 3 + b 3)]) (S + 2) (fun i => a i + b i)) := Lib.hid (setRow_heap w5 (S + 2) _ _ _ _ HT_5.out)
  have HBF : Hid (Below w.heap.size w (w5.setRow (S + 2) #[.int .i64 (a 0 + b 0), .int .i64 (a 1 + b 1), .int .i64 (a 2 + b 2), .int .i64 (a 3 + b 3)])) := Lib.hid (HB_5.out.trans (((Chg.refl (fun k => k = S + 2) w5).setRow (.inr rfl) _).below HB_5.out.size (fun k hk e => by have := HS.out; omega)))
  go_wp2_with (first | (refine wpList_load_row rfl 23 (.tmp 8) rfl (P8) rfl 23 _ (0, 0) _ HP8_5.out Tryd.underlying23 rfl (by kernel_rfl) ?_) | (refine wpList_store_row rfl 23 (.tmp 4) (.tmp 45) rfl (S + 2) _ rfl rfl 23 _ HT_5.out (by kernel_rfl) rfl (by simp [Value.oneCell']) ?_))
  refine bodyPost_ret (v := .tuple #[.agg #[.int .i64 (a 0 + b 0), .int .i64 (a 1 + b 1), .int .i64 (a 2 + b 2), .int .i64 (a 3 + b 3)], .int .i64 0]) (results_vece Tryd.results17 _ _ (S + 2) (fun i => a i + b i) rfl HST.out) rfl ⟨?_, HBF.out⟩
  simp [toldV, toldE, HOK.out, HC.out]
set_option maxRecDepth 100000 in
set_option maxHeartbeats 1000000 in
theorem rsub_any (a b : Nat → Int) (w : World)  :
    Calls Tryd.prog 18 #[.agg #[.int .i64 (a 0), .int .i64 (a 1), .int .i64 (a 2), .int .i64 (a 3)], .agg #[.int .i64 (b 0), .int .i64 (b 1), .int .i64 (b 2), .int .i64 (b 3)]] w fun e w' => e = .returned (.tuple #[.agg #[.int .i64 (toldV (okv a && okv b) (fun i => a i - b i) 0), .int .i64 (toldV (okv a && okv b) (fun i => a i - b i) 1), .int .i64 (toldV (okv a && okv b) (fun i => a i - b i) 2), .int .i64 (toldV (okv a && okv b) (fun i => a i - b i) 3)], .int .i64 (toldE (okv a && okv b) (fun i => a i - b i) (31))]) ∧ Below w.heap.size w w' := by
  obtain ⟨S, hS⟩ : ∃ S, S = w.heap.size := ⟨_, rfl⟩
  obtain ⟨w1, hw1⟩ : ∃ x, x = (((w.alloc (.cells #[.int .i64 (a 0), .int .i64 (a 1), .int .i64 (a 2), .int .i64 (a 3)] 23)).alloc (.cells #[.int .i64 (b 0), .int .i64 (b 1), .int .i64 (b 2), .int .i64 (b 3)] 23)).alloc (.cells #[.int .i64 0, .int .i64 0, .int .i64 0, .int .i64 0] 23)) := ⟨_, rfl⟩
  have HB_1 : Hid (Below w.heap.size w w1) := Lib.hid (by rw [hw1]; exact ((((Below.refl w.heap.size w).alloc (by simp) _).alloc (by simp) _).alloc (by simp; omega) _))
  have HS_1 : Hid (VAt w1 S a) := Lib.hid (by
    rw [hw1, hS]
    have h := heap_alloc_new w (.cells #[.int .i64 (a 0), .int .i64 (a 1), .int .i64 (a 2), .int .i64 (a 3)] 23)
    replace h := (Below.heap_alloc (w.alloc (.cells #[.int .i64 (a 0), .int .i64 (a 1), .int .i64 (a 2), .int .i64 (a 3)] 23)) (.cells #[.int .i64 (b 0), .int .i64 (b 1), .int .i64 (b 2), .int .i64 (b 3)] 23) _ (by simp)).trans h
    replace h := (Below.heap_alloc ((w.alloc (.cells #[.int .i64 (a 0), .int .i64 (a 1), .int .i64 (a 2), .int .i64 (a 3)] 23)).alloc (.cells #[.int .i64 (b 0), .int .i64 (b 1), .int .i64 (b 2), .int .i64 (b 3)] 23)) (.cells #[.int .i64 0, .int .i64 0, .int .i64 0, .int .i64 0] 23) _ (by simp; omega)).trans h
    exact h)
  have HR_1 : Hid (VAt w1 (S + 1) b) := Lib.hid (by
    rw [hw1, hS]
    have h := heap_alloc_new (w.alloc (.cells #[.int .i64 (a 0), .int .i64 (a 1), .int .i64 (a 2), .int .i64 (a 3)] 23)) (.cells #[.int .i64 (b 0), .int .i64 (b 1), .int .i64 (b 2), .int .i64 (b 3)] 23)
    simp only [World.size_alloc] at h
    replace h := (Below.heap_alloc ((w.alloc (.cells #[.int .i64 (a 0), .int .i64 (a 1), .int .i64 (a 2), .int .i64 (a 3)] 23)).alloc (.cells #[.int .i64 (b 0), .int .i64 (b 1), .int .i64 (b 2), .int .i64 (b 3)] 23)) (.cells #[.int .i64 0, .int .i64 0, .int .i64 0, .int .i64 0] 23) _ (by simp)).trans h
    exact h)
  have HT_1 : Hid (VAt w1 (S + 2) (fun _ => 0)) := Lib.hid (by
    rw [hw1, hS]
    have h := heap_alloc_new ((w.alloc (.cells #[.int .i64 (a 0), .int .i64 (a 1), .int .i64 (a 2), .int .i64 (a 3)] 23)).alloc (.cells #[.int .i64 (b 0), .int .i64 (b 1), .int .i64 (b 2), .int .i64 (b 3)] 23)) (.cells #[.int .i64 0, .int .i64 0, .int .i64 0, .int .i64 0] 23)
    simp only [World.size_alloc] at h
    exact h)
  have HS := Lib.hid hS
  go_enter Tryd.func18, Tryd.ntmps18
  go_upto_region 1 with (fail)
  rw [← hw1, ← hS]
  clear hw1 hS
  go_wp2_with (refine wpList_load_row rfl 23 (.tmp 2) rfl (S) rfl 23 _ (0, 0) _ HS_1.out Tryd.underlying23 rfl (by kernel_rfl) ?_)
  refine (rright_any (a 0) (a 1) (a 2) (a 3) w1).mono ?_
  rintro e w2 ⟨rfl, hb⟩
  rw [show rB (a 0) (a 1) (a 2) (a 3) = okv a from rfl]
  have HB_2 : Hid (Below w.heap.size w w2) := Lib.hid (HB_1.out.trans (hb.mono HB_1.out.size))
  have HS_2 : Hid (VAt w2 S a) := Lib.hid (HS_1.out.below hb (ltb HS_1.out))
  have HR_2 : Hid (VAt w2 (S + 1) b) := Lib.hid (HR_1.out.below hb (ltb HR_1.out))
  have HT_2 : Hid (VAt w2 (S + 2) (fun _ => 0)) := Lib.hid (HT_1.out.below hb (ltb HT_1.out))
  clear hb HB_1 HS_1 HR_1 HT_1
  go_wp2_with (refine wpList_load_row rfl 23 (.tmp 3) rfl (S + 1) rfl 23 _ (0, 0) _ HR_2.out Tryd.underlying23 rfl (by kernel_rfl) ?_)
  refine (rright_any (b 0) (b 1) (b 2) (b 3) w2).mono ?_
  rintro e w3 ⟨rfl, hb⟩
  rw [show rB (b 0) (b 1) (b 2) (b 3) = okv b from rfl]
  have HB_3 : Hid (Below w.heap.size w w3) := Lib.hid (HB_2.out.trans (hb.mono HB_2.out.size))
  have HS_3 : Hid (VAt w3 S a) := Lib.hid (HS_2.out.below hb (ltb HS_2.out))
  have HR_3 : Hid (VAt w3 (S + 1) b) := Lib.hid (HR_2.out.below hb (ltb HR_2.out))
  have HT_3 : Hid (VAt w3 (S + 2) (fun _ => 0)) := Lib.hid (HT_2.out.below hb (ltb HT_2.out))
  clear hb HB_2 HS_2 HR_2 HT_2
  rcases hoa : okv a with _ | _
  · have HA := Lib.hid hoa
    clear hoa
    have HST : Hid (VAt (w3.setRow (S + 2) #[.int .i64 0, .int .i64 0, .int .i64 0, .int .i64 0]) (S + 2) (fun _ => 0)) := Lib.hid (setRow_heap w3 (S + 2) _ _ _ _ HT_3.out)
    have HBF : Hid (Below w.heap.size w (w3.setRow (S + 2) #[.int .i64 0, .int .i64 0, .int .i64 0, .int .i64 0])) := Lib.hid (HB_3.out.trans (((Chg.refl (fun k => k = S + 2) w3).setRow (.inr rfl) _).below HB_3.out.size (fun k hk e => by have := HS.out; omega)))
    go_wp2_with (refine wpList_store_row rfl 23 (.tmp 4) (.tmp 19) rfl (S + 2) _ rfl rfl 23 _ HT_3.out (by kernel_rfl) rfl (by simp [Value.oneCell']) ?_)
    refine bodyPost_ret (v := .tuple #[.agg #[.int .i64 0, .int .i64 0, .int .i64 0, .int .i64 0], .int .i64 1]) (results_vece Tryd.results18 _ _ (S + 2) (fun _ => 0) rfl HST.out) rfl ⟨?_, HBF.out⟩
    simp [toldV, toldE, HA.out]
  have HA := Lib.hid hoa
  clear hoa
  rcases hob : okv b with _ | _
  · have HBo := Lib.hid hob
    clear hob
    have HST : Hid (VAt (w3.setRow (S + 2) #[.int .i64 0, .int .i64 0, .int .i64 0, .int .i64 0]) (S + 2) (fun _ => 0)) := Lib.hid (setRow_heap w3 (S + 2) _ _ _ _ HT_3.out)
    have HBF : Hid (Below w.heap.size w (w3.setRow (S + 2) #[.int .i64 0, .int .i64 0, .int .i64 0, .int .i64 0])) := Lib.hid (HB_3.out.trans (((Chg.refl (fun k => k = S + 2) w3).setRow (.inr rfl) _).below HB_3.out.size (fun k hk e => by have := HS.out; omega)))
    go_wp2_with (refine wpList_store_row rfl 23 (.tmp 4) (.tmp 19) rfl (S + 2) _ rfl rfl 23 _ HT_3.out (by kernel_rfl) rfl (by simp [Value.oneCell']) ?_)
    refine bodyPost_ret (v := .tuple #[.agg #[.int .i64 0, .int .i64 0, .int .i64 0, .int .i64 0], .int .i64 1]) (results_vece Tryd.results18 _ _ (S + 2) (fun _ => 0) rfl HST.out) rfl ⟨?_, HBF.out⟩
    simp [toldV, toldE, HBo.out]
  have HBo := Lib.hid hob
  clear hob
  have x0 : w3.cell? ⟨S, 0, none⟩ = some (.int .i64 (a 0)) := HS_3.out.cell (by decide)
  have y0 : w3.cell? ⟨S + 1, 0, none⟩ = some (.int .i64 (b 0)) := HR_3.out.cell (by decide)
  have xb0 := okv_bd HA.out (show 0 < 4 by decide)
  have yb0 := okv_bd HBo.out (show 0 < 4 by decide)
  obtain ⟨xp0, xq0⟩ := xb0
  obtain ⟨yp0, yq0⟩ := yb0
  have x1 : w3.cell? ⟨S, 1, none⟩ = some (.int .i64 (a 1)) := HS_3.out.cell (by decide)
  have y1 : w3.cell? ⟨S + 1, 1, none⟩ = some (.int .i64 (b 1)) := HR_3.out.cell (by decide)
  have xb1 := okv_bd HA.out (show 1 < 4 by decide)
  have yb1 := okv_bd HBo.out (show 1 < 4 by decide)
  obtain ⟨xp1, xq1⟩ := xb1
  obtain ⟨yp1, yq1⟩ := yb1
  have x2 : w3.cell? ⟨S, 2, none⟩ = some (.int .i64 (a 2)) := HS_3.out.cell (by decide)
  have y2 : w3.cell? ⟨S + 1, 2, none⟩ = some (.int .i64 (b 2)) := HR_3.out.cell (by decide)
  have xb2 := okv_bd HA.out (show 2 < 4 by decide)
  have yb2 := okv_bd HBo.out (show 2 < 4 by decide)
  obtain ⟨xp2, xq2⟩ := xb2
  obtain ⟨yp2, yq2⟩ := yb2
  have x3 : w3.cell? ⟨S, 3, none⟩ = some (.int .i64 (a 3)) := HS_3.out.cell (by decide)
  have y3 : w3.cell? ⟨S + 1, 3, none⟩ = some (.int .i64 (b 3)) := HR_3.out.cell (by decide)
  have xb3 := okv_bd HA.out (show 3 < 4 by decide)
  have yb3 := okv_bd HBo.out (show 3 < 4 by decide)
  obtain ⟨xp3, xq3⟩ := xb3
  obtain ⟨yp3, yq3⟩ := yb3
  obtain ⟨P8, hP8⟩ : ∃ x, x = w3.heap.size := ⟨_, rfl⟩
  have hS2 := ltb HT_3.out
  have hal : Below w3.heap.size w3 (w3.alloc (.cells #[.int .i64 (a 0 - b 0), .int .i64 (a 1 - b 1), .int .i64 (a 2 - b 2), .int .i64 (a 3 - b 3)] 23)) := (Below.refl _ _).alloc (Nat.le_refl _) _
  have hnew : (w3.alloc (.cells #[.int .i64 (a 0 - b 0), .int .i64 (a 1 - b 1), .int .i64 (a 2 - b 2), .int .i64 (a 3 - b 3)] 23)).heap[P8]? = some (.cells #[.int .i64 (a 0 - b 0), .int .i64 (a 1 - b 1), .int .i64 (a 2 - b 2), .int .i64 (a 3 - b 3)] 23 (0, 0)) := by rw [hP8]; exact heap_alloc_new _ _
  have HB_4 : Hid (Below w.heap.size w (w3.alloc (.cells #[.int .i64 (a 0 - b 0), .int .i64 (a 1 - b 1), .int .i64 (a 2 - b 2), .int .i64 (a 3 - b 3)] 23))) := Lib.hid (HB_3.out.trans (hal.mono HB_3.out.size))
  have HS_4 : Hid (VAt (w3.alloc (.cells #[.int .i64 (a 0 - b 0), .int .i64 (a 1 - b 1), .int .i64 (a 2 - b 2), .int .i64 (a 3 - b 3)] 23)) S a) := Lib.hid (HS_3.out.below hal (ltb HS_3.out))
  have HR_4 : Hid (VAt (w3.alloc (.cells #[.int .i64 (a 0 - b 0), .int .i64 (a 1 - b 1), .int .i64 (a 2 - b 2), .int .i64 (a 3 - b 3)] 23)) (S + 1) b) := Lib.hid (HR_3.out.below hal (ltb HR_3.out))
  have HT_4 : Hid (VAt (w3.alloc (.cells #[.int .i64 (a 0 - b 0), .int .i64 (a 1 - b 1), .int .i64 (a 2 - b 2), .int .i64 (a 3 - b 3)] 23)) (S + 2) (fun _ => 0)) := Lib.hid (HT_3.out.below hal (ltb HT_3.out))
  clear hal HB_3 HS_3 HR_3 HT_3
  have HP8_4 : Hid (VAt (w3.alloc (.cells #[.int .i64 (a 0 - b 0), .int .i64 (a 1 - b 1), .int .i64 (a 2 - b 2), .int .i64 (a 3 - b 3)] 23)) P8 (fun i => a i - b i)) := Lib.hid hnew
  clear hnew
  go_upto_region 6 with (fail)
  rw [← hP8]
  clear hP8
  generalize w3.alloc (.cells #[.int .i64 (a 0 - b 0), .int .i64 (a 1 - b 1), .int .i64 (a 2 - b 2), .int .i64 (a 3 - b 3)] 23) = w4 at HB_4 HS_4 HR_4 HT_4 HP8_4 ⊢
  clear x0 x1 x2 x3 y0 y1 y2 y3 xp0 xq0 xp1 xq1 xp2 xq2 xp3 xq3 yp0 yq0 yp1 yq1 yp2 yq2 yp3 yq3
  go_wp2_with (refine wpList_load_row rfl 23 (.tmp 8) rfl (P8) rfl 23 _ (0, 0) _ HP8_4.out Tryd.underlying23 rfl (by kernel_rfl) ?_)
  refine (rright_any (a 0 - b 0) (a 1 - b 1) (a 2 - b 2) (a 3 - b 3) w4).mono ?_
  rintro e w5 ⟨rfl, hb⟩
  rw [show rB (a 0 - b 0) (a 1 - b 1) (a 2 - b 2) (a 3 - b 3) = okv (fun i => a i - b i) from rfl]
  have HB_5 : Hid (Below w.heap.size w w5) := Lib.hid (HB_4.out.trans (hb.mono HB_4.out.size))
  have HS_5 : Hid (VAt w5 S a) := Lib.hid (HS_4.out.below hb (ltb HS_4.out))
  have HR_5 : Hid (VAt w5 (S + 1) b) := Lib.hid (HR_4.out.below hb (ltb HR_4.out))
  have HT_5 : Hid (VAt w5 (S + 2) (fun _ => 0)) := Lib.hid (HT_4.out.below hb (ltb HT_4.out))
  have HP8_5 : Hid (VAt w5 P8 (fun i => a i - b i)) := Lib.hid (HP8_4.out.below hb (ltb HP8_4.out))
  clear hb HB_4 HS_4 HR_4 HT_4 HP8_4
  have HOK : Hid ((okv a && okv b) = true) := Lib.hid (by rw [HA.out, HBo.out]; rfl)
  rcases hoc : okv (fun i => a i - b i) with _ | _
  · have HC := Lib.hid hoc
    clear hoc
    have HST : Hid (VAt (w5.setRow (S + 2) #[.int .i64 0, .int .i64 0, .int .i64 0, .int .i64 0]) (S + 2) (fun _ => 0)) := Lib.hid (setRow_heap w5 (S + 2) _ _ _ _ HT_5.out)
    have HBF : Hid (Below w.heap.size w (w5.setRow (S + 2) #[.int .i64 0, .int .i64 0, .int .i64 0, .int .i64 0])) := Lib.hid (HB_5.out.trans (((Chg.refl (fun k => k = S + 2) w5).setRow (.inr rfl) _).below HB_5.out.size (fun k hk e => by have := HS.out; omega)))
    go_wp2_with (refine wpList_store_row rfl 23 (.tmp 4) (.tmp 44) rfl (S + 2) _ rfl rfl 23 _ HT_5.out (by kernel_rfl) rfl (by simp [Value.oneCell']) ?_)
    refine bodyPost_ret (v := .tuple #[.agg #[.int .i64 0, .int .i64 0, .int .i64 0, .int .i64 0], .int .i64 31]) (results_vece Tryd.results18 _ _ (S + 2) (fun _ => 0) rfl HST.out) rfl ⟨?_, HBF.out⟩
    simp [toldV, toldE, HOK.out, HC.out]
  have HC := Lib.hid hoc
  clear hoc
  have HST : Hid (VAt (w5.setRow (S + 2) #[.int .i64 (a 0 - b 0), .int .i64 (a 1 - b 1), .int .i64 (a 2 - b 2), .int .i64 (a 3 - b 3)]) (S + 2) (fun i => a i - b i)) := Lib.hid (setRow_heap w5 (S + 2) _ _ _ _ HT_5.out)
  have HBF : Hid (Below w.heap.size w (w5.setRow (S + 2) #[.int .i64 (a 0 - b 0), .int .i64 (a 1 - b 1), .int .i64 (a 2 - b 2), .int .i64 (a 3 - b 3)])) := Lib.hid (HB_5.out.trans (((Chg.refl (fun k => k = S + 2) w5).setRow (.inr rfl) _).below HB_5.out.size (fun k hk e => by have := HS.out; omega)))
  go_wp2_with (first | (refine wpList_load_row rfl 23 (.tmp 8) rfl (P8) rfl 23 _ (0, 0) _ HP8_5.out Tryd.underlying23 rfl (by kernel_rfl) ?_) | (refine wpList_store_row rfl 23 (.tmp 4) (.tmp 45) rfl (S + 2) _ rfl rfl 23 _ HT_5.out (by kernel_rfl) rfl (by simp [Value.oneCell']) ?_))
  refine bodyPost_ret (v := .tuple #[.agg #[.int .i64 (a 0 - b 0), .int .i64 (a 1 - b 1), .int .i64 (a 2 - b 2), .int .i64 (a 3 - b 3)], .int .i64 0]) (results_vece Tryd.results18 _ _ (S + 2) (fun i => a i - b i) rfl HST.out) rfl ⟨?_, HBF.out⟩
  simp [toldV, toldE, HOK.out, HC.out]
theorem times_zero {a : Nat → Int} {n : Int} {i : Nat} (ha : okv a = true) (hi : i < 4) (hn : 0 ≤ n) (h : a i * n ≤ 1073741824) : a i * min n 1073741825 = a i * n := by
  have hb := okv_bd ha hi
  by_cases hn1 : n ≤ 1073741825
  · rw [Int.min_eq_left hn1]
  · by_cases h0 : a i = 0
    · rw [h0]; simp
    · have h1 : 1 ≤ a i := by omega
      have h2 : 1 * n ≤ a i * n := Int.mul_le_mul_of_nonneg_right h1 hn
      omega
theorem times_over {a : Nat → Int} {n : Int} {i : Nat} (ha : okv a = true) (hi : i < 4) (h0 : a i ≠ 0) (hq : 1073741824 / a i < n) : okv (fun i => a i * min n 1073741825) = false := by
  have hb := okv_bd ha hi
  have h1 : 1 ≤ a i := by omega
  have h2 : 1073741824 < a i * n := by
    have h3 := Int.lt_mul_of_ediv_lt (by omega : (0 : Int) < a i) hq
    rw [Int.mul_comm]; exact h3
  have h3 : 1073741824 < a i * min n 1073741825 := by
    by_cases hn1 : n ≤ 1073741825
    · rw [Int.min_eq_left hn1]; exact h2
    · rw [Int.min_eq_right (by omega)]
      have h4 : 1 * 1073741825 ≤ a i * 1073741825 := Int.mul_le_mul_of_nonneg_right h1 (by decide)
      omega
  cases hc : okv (fun i => a i * min n 1073741825) with
  | false => rfl
  | true => have h5 : a i * min n 1073741825 ≤ 1073741824 := (okv_bd hc hi).2; omega
theorem times_le {a : Nat → Int} {n : Int} {i : Nat} (ha : okv a = true) (hi : i < 4) (hn : 0 ≤ n) (h : a i = 0 ∨ n ≤ 1073741824 / a i) : 0 ≤ a i * n ∧ a i * n ≤ 1073741824 := by
  have hb := okv_bd ha hi
  refine ⟨Int.mul_nonneg hb.1 hn, ?_⟩
  rcases h with h | h
  · rw [h]; simp
  · by_cases h0 : a i = 0
    · rw [h0]; simp
    · have h3 := Int.mul_le_of_le_ediv (by omega : (0 : Int) < a i) h
      rw [Int.mul_comm]; exact h3
theorem times_all {a : Nat → Int} {n : Int} (ha : okv a = true) (hn : 0 ≤ n) (h : ∀ i, i < 4 → a i * n ≤ 1073741824) : okv (fun i => a i * min n 1073741825) = true := by
  have e : ∀ i, i < 4 → okb (a i * min n 1073741825) = true := fun i hi => by
    rw [times_zero ha hi hn (h i hi)]
    have := Int.mul_nonneg (okv_bd ha hi).1 hn
    have := h i hi
    simp [okb]; omega
  simp only [okv, e 0 (by decide), e 1 (by decide), e 2 (by decide), e 3 (by decide), Bool.and_self]
set_option maxRecDepth 100000 in
set_option maxHeartbeats 2000000 in
theorem rtimes_any (a : Nat → Int) (n : Int) (w : World)  :
    Calls Tryd.prog 20 #[.agg #[.int .i64 (a 0), .int .i64 (a 1), .int .i64 (a 2), .int .i64 (a 3)], .int .i64 n] w fun e w' => e = .returned (.tuple #[.agg #[.int .i64 (toldV (okv a && decide (0 ≤ n)) (fun i => a i * min n 1073741825) 0), .int .i64 (toldV (okv a && decide (0 ≤ n)) (fun i => a i * min n 1073741825) 1), .int .i64 (toldV (okv a && decide (0 ≤ n)) (fun i => a i * min n 1073741825) 2), .int .i64 (toldV (okv a && decide (0 ≤ n)) (fun i => a i * min n 1073741825) 3)], .int .i64 (toldE (okv a && decide (0 ≤ n)) (fun i => a i * min n 1073741825) (30))]) ∧ Below w.heap.size w w' := by
  obtain ⟨S, hS⟩ : ∃ S, S = w.heap.size := ⟨_, rfl⟩
  obtain ⟨w1, hw1⟩ : ∃ x, x = ((w.alloc (.cells #[.int .i64 (a 0), .int .i64 (a 1), .int .i64 (a 2), .int .i64 (a 3)] 23)).alloc (.cells #[.int .i64 0, .int .i64 0, .int .i64 0, .int .i64 0] 23)) := ⟨_, rfl⟩
  have HB_1 : Hid (Below w.heap.size w w1) := Lib.hid (by rw [hw1]; exact (((Below.refl w.heap.size w).alloc (by simp) _).alloc (by simp) _))
  have HS_1 : Hid (VAt w1 S a) := Lib.hid (by
    rw [hw1, hS]
    have h := heap_alloc_new w (.cells #[.int .i64 (a 0), .int .i64 (a 1), .int .i64 (a 2), .int .i64 (a 3)] 23)
    replace h := (Below.heap_alloc (w.alloc (.cells #[.int .i64 (a 0), .int .i64 (a 1), .int .i64 (a 2), .int .i64 (a 3)] 23)) (.cells #[.int .i64 0, .int .i64 0, .int .i64 0, .int .i64 0] 23) _ (by simp)).trans h
    exact h)
  have HT_1 : Hid (VAt w1 (S + 1) (fun _ => 0)) := Lib.hid (by
    rw [hw1, hS]
    have h := heap_alloc_new (w.alloc (.cells #[.int .i64 (a 0), .int .i64 (a 1), .int .i64 (a 2), .int .i64 (a 3)] 23)) (.cells #[.int .i64 0, .int .i64 0, .int .i64 0, .int .i64 0] 23)
    simp only [World.size_alloc] at h
    exact h)
  have HS := Lib.hid hS
  go_enter Tryd.func20, Tryd.ntmps20
  go_upto_region 1 with (fail)
  rw [← hw1, ← hS]
  clear hw1 hS
  go_wp2_with (refine wpList_load_row rfl 23 (.tmp 2) rfl (S) rfl 23 _ (0, 0) _ HS_1.out Tryd.underlying23 rfl (by kernel_rfl) ?_)
  refine (rright_any (a 0) (a 1) (a 2) (a 3) w1).mono ?_
  rintro e w2 ⟨rfl, hb⟩
  rw [show rB (a 0) (a 1) (a 2) (a 3) = okv a from rfl]
  have HB_2 : Hid (Below w.heap.size w w2) := Lib.hid (HB_1.out.trans (hb.mono HB_1.out.size))
  have HS_2 : Hid (VAt w2 S a) := Lib.hid (HS_1.out.below hb (ltb HS_1.out))
  have HT_2 : Hid (VAt w2 (S + 1) (fun _ => 0)) := Lib.hid (HT_1.out.below hb (ltb HT_1.out))
  clear hb HB_1 HS_1 HT_1
  rcases hoa : okv a with _ | _
  · have HA := Lib.hid hoa
    clear hoa
    have HST : Hid (VAt (w2.setRow (S + 1) #[.int .i64 0, .int .i64 0, .int .i64 0, .int .i64 0]) (S + 1) (fun _ => 0)) := Lib.hid (setRow_heap w2 (S + 1) _ _ _ _ HT_2.out)
    have HBF : Hid (Below w.heap.size w (w2.setRow (S + 1) #[.int .i64 0, .int .i64 0, .int .i64 0, .int .i64 0])) := Lib.hid (HB_2.out.trans (((Chg.refl (fun k => k = S + 1) w2).setRow (.inr rfl) _).below HB_2.out.size (fun k hk e => by have := HS.out; omega)))
    go_wp2_with (refine wpList_store_row rfl 23 (.tmp 4) (.tmp 17) rfl (S + 1) _ rfl rfl 23 _ HT_2.out (by kernel_rfl) rfl (by simp [Value.oneCell']) ?_)
    refine bodyPost_ret (v := .tuple #[.agg #[.int .i64 0, .int .i64 0, .int .i64 0, .int .i64 0], .int .i64 1]) (results_vece Tryd.results20 _ _ (S + 1) (fun _ => 0) rfl HST.out) rfl ⟨?_, HBF.out⟩
    simp [toldV, toldE, HA.out]
  have HA := Lib.hid hoa
  clear hoa
  by_cases hn0 : n < 0
  · have HST : Hid (VAt (w2.setRow (S + 1) #[.int .i64 0, .int .i64 0, .int .i64 0, .int .i64 0]) (S + 1) (fun _ => 0)) := Lib.hid (setRow_heap w2 (S + 1) _ _ _ _ HT_2.out)
    have HBF : Hid (Below w.heap.size w (w2.setRow (S + 1) #[.int .i64 0, .int .i64 0, .int .i64 0, .int .i64 0])) := Lib.hid (HB_2.out.trans (((Chg.refl (fun k => k = S + 1) w2).setRow (.inr rfl) _).below HB_2.out.size (fun k hk e => by have := HS.out; omega)))
    go_wp2_with (refine wpList_store_row rfl 23 (.tmp 4) (.tmp 17) rfl (S + 1) _ rfl rfl 23 _ HT_2.out (by kernel_rfl) rfl (by simp [Value.oneCell']) ?_)
    refine bodyPost_ret (v := .tuple #[.agg #[.int .i64 0, .int .i64 0, .int .i64 0, .int .i64 0], .int .i64 1]) (results_vece Tryd.results20 _ _ (S + 1) (fun _ => 0) rfl HST.out) rfl ⟨?_, HBF.out⟩
    simp [toldV, toldE, HA.out, show ¬ (0 ≤ n) from (by omega)]
  have hn2 : 0 ≤ n := by omega
  have HOK : Hid ((okv a && decide (0 ≤ n)) = true) := Lib.hid (by rw [HA.out]; simpa using hn2)
  obtain ⟨P7, hP7⟩ : ∃ x, x = w2.heap.size := ⟨_, rfl⟩
  have hS2 : S + 1 < P7 := by have := ltb HT_2.out; omega
  have hal : Below w2.heap.size w2 (w2.alloc (.cells #[.int .i64 0, .int .i64 0, .int .i64 0, .int .i64 0] 23)) := (Below.refl _ _).alloc (Nat.le_refl _) _
  have hnew : (w2.alloc (.cells #[.int .i64 0, .int .i64 0, .int .i64 0, .int .i64 0] 23)).heap[P7]? = some (.cells #[.int .i64 0, .int .i64 0, .int .i64 0, .int .i64 0] 23 (0, 0)) := by rw [hP7]; exact heap_alloc_new _ _
  have HB_3 : Hid (Below w.heap.size w (w2.alloc (.cells #[.int .i64 0, .int .i64 0, .int .i64 0, .int .i64 0] 23))) := Lib.hid (HB_2.out.trans (hal.mono HB_2.out.size))
  have HS_3 : Hid (VAt (w2.alloc (.cells #[.int .i64 0, .int .i64 0, .int .i64 0, .int .i64 0] 23)) S a) := Lib.hid (HS_2.out.below hal (ltb HS_2.out))
  have HT_3 : Hid (VAt (w2.alloc (.cells #[.int .i64 0, .int .i64 0, .int .i64 0, .int .i64 0] 23)) (S + 1) (fun _ => 0)) := Lib.hid (HT_2.out.below hal (ltb HT_2.out))
  clear hal HB_2 HS_2 HT_2
  have HP7_3 : Hid (VAt (w2.alloc (.cells #[.int .i64 0, .int .i64 0, .int .i64 0, .int .i64 0] 23)) P7 (fun _ => 0)) := Lib.hid hnew
  clear hnew
  go_upto_region 5 with (fail)
  rw [← hP7]
  clear hP7
  generalize w2.alloc (.cells #[.int .i64 0, .int .i64 0, .int .i64 0, .int .i64 0] 23) = w3 at HB_3 HS_3 HT_3 HP7_3 ⊢
  go_wp2_with fail
  go_loopw [8] (fun i wr => ∃ (j : Nat) (d : Nat → Int), j ≤ 4 ∧ i = .int .i64 j ∧ Hid (Below w.heap.size w wr) ∧ Hid (VAt wr S a) ∧ Hid (VAt wr (S + 1) (fun _ => 0)) ∧ Hid (VAt wr P7 d) ∧ Hid (∀ i, i < j → a i * n ≤ 1073741824 ∧ d i = a i * n) ∧ Hid (∀ i, j ≤ i → d i = 0)) (fun i _ => 4 - (intOf i).toNat)
  case atStart => exact ⟨0, fun _ => 0, by omega, rfl, HB_3, HS_3, HT_3, HP7_3, Lib.hid (fun i hi => by omega), Lib.hid (fun i hi => rfl)⟩
  case round =>
    clear HB_3 HS_3 HT_3 HP7_3
    obtain ⟨j, d, hj, rfl, HB_3, HS_3, HT_3, HP7_3, HD, HZ⟩ := hrel
    obtain ⟨w3, rfl⟩ : ∃ x : World, x = wr := ⟨_, rfl⟩
    by_cases hj4 : j < 4
    · have hj' : (j : Int) < 4 := by omega
      have hj0 : (0 : Int) ≤ (j : Int) := by omega
      have hx := HS_3.out.cell hj4
      have hb := okv_bd HA.out hj4
      by_cases hz : a j = 0 ∨ n = 0
      · have HTL : Hid (a j * n = 0) := Lib.hid (by rcases hz with h | h <;> rw [h] <;> simp)
        have key : (a j = 0) ∨ (a j ≠ 0 ∧ n = 0) := by omega
        have HAJ : Hid (d j = 0) := Lib.hid (HZ.out j (Nat.le_refl _))
        clear hz hb
        obtain ⟨x, hxe⟩ : ∃ x, x = a j := ⟨_, rfl⟩
        have HXE := Lib.hid hxe
        rw [← hxe] at hx key
        clear hxe
        rcases key with h | ⟨h, h'⟩
        · have HH := Lib.hid h
          have t1 : (x == 0) = true := by simpa using h
          clear h
          go_wp2_with fail
          go_roundw
          case rel => exact ⟨j + 1, d, by omega, by go_num, HB_3, HS_3, HT_3, HP7_3, Lib.hid (fun i hi => by
            by_cases e : i = j
            · rw [e, HTL.out, HAJ.out]; exact ⟨by decide, rfl⟩
            · exact HD.out i (by omega)), Lib.hid (fun i hi => HZ.out i (by omega))⟩
          case measure => simp [intOf]; omega
        · have HH := Lib.hid h
          have HH' := Lib.hid h'
          have t1 : (x == 0) = false := by simpa using h
          have t2 : (n == 0) = true := by simpa using h'
          clear h h'
          go_wp2_with fail
          go_roundw
          case rel => exact ⟨j + 1, d, by omega, by go_num, HB_3, HS_3, HT_3, HP7_3, Lib.hid (fun i hi => by
            by_cases e : i = j
            · rw [e, HTL.out, HAJ.out]; exact ⟨by decide, rfl⟩
            · exact HD.out i (by omega)), Lib.hid (fun i hi => HZ.out i (by omega))⟩
          case measure => simp [intOf]; omega
      · by_cases hq : 1073741824 / a j < n
        · have HOV := Lib.hid (times_over HA.out hj4 (by omega) hq)
          obtain ⟨x, hxe⟩ : ∃ x, x = a j := ⟨_, rfl⟩
          rw [← hxe] at hx hq hz hb
          have x1 : 1 ≤ x := by omega
          have n1 : 1 ≤ n := by omega
          have x2 : x ≤ 1073741824 := hb.2
          have t1 : (x == 0) = false := by simp; omega
          have t2 : (n == 0) = false := by simp; omega
          clear hz hb hxe
          have HST : Hid (VAt (w3.setRow (S + 1) #[.int .i64 0, .int .i64 0, .int .i64 0, .int .i64 0]) (S + 1) (fun _ => 0)) := Lib.hid (setRow_heap w3 (S + 1) _ _ _ _ HT_3.out)
          have HBF : Hid (Below w.heap.size w (w3.setRow (S + 1) #[.int .i64 0, .int .i64 0, .int .i64 0, .int .i64 0])) := Lib.hid (HB_3.out.trans (((Chg.refl (fun k => k = S + 1) w3).setRow (.inr rfl) _).below HB_3.out.size (fun k hk e => by have := HS.out; omega)))
          go_wp2_with (refine wpList_store_row rfl 23 (.tmp 4) (.tmp 36) rfl (S + 1) _ rfl rfl 23 _ HT_3.out (by kernel_rfl) rfl (by simp [Value.oneCell']) ?_)
          refine bodyPost_ret (v := .tuple #[.agg #[.int .i64 0, .int .i64 0, .int .i64 0, .int .i64 0], .int .i64 30]) (results_vece Tryd.results20 _ _ (S + 1) (fun _ => 0) rfl HST.out) rfl ⟨?_, HBF.out⟩
          simp [toldV, toldE, HOK.out, HOV.out]
        · have HTL := Lib.hid (times_le HA.out hj4 hn2 (.inr (by omega)))
          obtain ⟨x, hxe⟩ : ∃ x, x = a j := ⟨_, rfl⟩
          have HXE := Lib.hid hxe
          rw [← hxe] at hx hq hz hb HTL
          have x1 : 1 ≤ x := by omega
          have n1 : 1 ≤ n := by omega
          have x2 : x ≤ 1073741824 := hb.2
          have t1 : (x == 0) = false := by simp; omega
          have t2 : (n == 0) = false := by simp; omega
          have hs : IntKind.i64.wrap (n * x) = x * n := by rw [Int.mul_comm]; exact IntWalk.i64_in _ (by have := HTL.out; omega)
          have hs' : wrap64 (n * x) = x * n := by rw [Int.mul_comm]; have := HTL.out; unfold wrap64; omega
          clear hz hb hxe
          have hc : w3.cell? ⟨P7, j, none⟩ = some (.int .i64 (d j)) := HP7_3.out.cell hj4
          have hf : w3.frozen? ⟨P7, j, none⟩ = false := fzb HP7_3.out j
          have hch : Chg (fun k => k = P7) w3 (w3.setCell ⟨P7, j, none⟩ (.int .i64 (x * n))) := (Chg.refl (fun k => k = P7) w3).setCell (.inr rfl) _
          have hPS := ltb HS_3.out
          have HP' : Hid (VAt (w3.setCell ⟨P7, j, none⟩ (.int .i64 (x * n))) P7 (put1 d j (x * n))) := Lib.hid (HP7_3.out.set hj4 _)
          have HS' : Hid (VAt (w3.setCell ⟨P7, j, none⟩ (.int .i64 (x * n))) S a) := Lib.hid ((hch.block S (ltb HS_3.out) (by omega)).trans HS_3.out)
          have HT' : Hid (VAt (w3.setCell ⟨P7, j, none⟩ (.int .i64 (x * n))) (S + 1) (fun _ => 0)) := Lib.hid ((hch.block (S + 1) (ltb HT_3.out) (by omega)).trans HT_3.out)
          have HB' : Hid (Below w.heap.size w (w3.setCell ⟨P7, j, none⟩ (.int .i64 (x * n)))) := Lib.hid (HB_3.out.trans (hch.below HB_3.out.size (fun k hk e => by have := HS.out; omega)))
          clear hch hPS HP7_3 HS_3 HT_3 HB_3
          go_wp2_with fail
          go_roundw
          case rel => exact ⟨j + 1, put1 d j (x * n), by omega, by go_num, HB', HS', HT', HP', Lib.hid (fun i hi => by
            unfold put1
            by_cases e : i = j
            · rw [if_pos e, e, ← HXE.out]; exact ⟨HTL.out.2, rfl⟩
            · rw [if_neg e]; exact HD.out i (by omega)), Lib.hid (fun i hi => by unfold put1; rw [if_neg (by omega)]; exact HZ.out i (by omega))⟩
          case measure => simp [intOf]; omega
    · have hj4' : j = 4 := by omega
      have hall := times_all HA.out hn2 (fun i hi => (HD.out i (by omega)).1)
      have hv : VAt w3 P7 (fun i => a i * min n 1073741825) := by
        have e : ∀ i, i < 4 → a i * min n 1073741825 = d i := fun i hi => by rw [(HD.out i (by omega)).2, times_zero HA.out hi hn2 (HD.out i (by omega)).1]
        have := HP7_3.out
        show w3.heap[P7]? = some (.cells #[.int .i64 (a 0 * min n 1073741825), .int .i64 (a 1 * min n 1073741825), .int .i64 (a 2 * min n 1073741825), .int .i64 (a 3 * min n 1073741825)] 23 (0, 0))
        rw [e 0 (by decide), e 1 (by decide), e 2 (by decide), e 3 (by decide)]
        exact this
      have HALL := Lib.hid hall
      have HV := Lib.hid hv
      have HST : Hid (VAt (w3.setRow (S + 1) #[.int .i64 (a 0 * min n 1073741825), .int .i64 (a 1 * min n 1073741825), .int .i64 (a 2 * min n 1073741825), .int .i64 (a 3 * min n 1073741825)]) (S + 1) (fun i => a i * min n 1073741825)) := Lib.hid (setRow_heap w3 (S + 1) _ _ _ _ HT_3.out)
      have HBF : Hid (Below w.heap.size w (w3.setRow (S + 1) #[.int .i64 (a 0 * min n 1073741825), .int .i64 (a 1 * min n 1073741825), .int .i64 (a 2 * min n 1073741825), .int .i64 (a 3 * min n 1073741825)])) := Lib.hid (HB_3.out.trans (((Chg.refl (fun k => k = S + 1) w3).setRow (.inr rfl) _).below HB_3.out.size (fun k hk e => by have := HS.out; omega)))
      have hj5 : ¬ (j : Int) < 4 := by omega
      clear hall hv hj4'
      go_wp2_with (first | (refine wpList_load_row rfl 23 (.tmp 7) rfl (P7) rfl 23 _ (0, 0) _ HV.out Tryd.underlying23 rfl (by kernel_rfl) ?_) | (refine wpList_store_row rfl 23 (.tmp 4) (.tmp 44) rfl (S + 1) _ rfl rfl 23 _ HT_3.out (by kernel_rfl) rfl (by simp [Value.oneCell']) ?_))
      refine bodyPost_ret (v := .tuple #[.agg #[.int .i64 (a 0 * min n 1073741825), .int .i64 (a 1 * min n 1073741825), .int .i64 (a 2 * min n 1073741825), .int .i64 (a 3 * min n 1073741825)], .int .i64 0]) (results_vece Tryd.results20 _ _ (S + 1) (fun i => a i * min n 1073741825) rfl HST.out) rfl ⟨?_, HBF.out⟩
      simp [toldV, toldE, HA.out, HALL.out]
end Go.Proofs.YtfbmjejkhnopiaaDoor
