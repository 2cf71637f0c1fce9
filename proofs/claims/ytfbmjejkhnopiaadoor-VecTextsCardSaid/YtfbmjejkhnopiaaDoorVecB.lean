/- Amounts: the contracts. -/
import Derived.Test.YtfbmjejkhnopiaaDoorVecA
import Derived.Deep.Cut
namespace Go.Proofs.YtfbmjejkhnopiaaDoor
open Go.RowKit

theorem right_any (d : Nat → Int) (w : World) :
    Calls Tryd.prog 13 #[.agg #[.int .i64 (d 0), .int .i64 (d 1), .int .i64 (d 2), .int .i64 (d 3)]] w fun e w' => e = .returned (.bool (okv d)) ∧ Below w.heap.size w w' := by
  have hb : Below w.heap.size w (w.alloc (.cells #[.int .i64 (d 0), .int .i64 (d 1), .int .i64 (d 2), .int .i64 (d 3)] 23)) := (Below.refl _ _).alloc (Nat.le_refl _) _
  have HV := Lib.hid (vall_right w.heap.size (fun i => okb (d i)) (w.alloc (.cells #[.int .i64 (d 0), .int .i64 (d 1), .int .i64 (d 2), .int .i64 (d 3)] 23)) (fun k i hi => (right1 w.heap.size i d _ hi ((VAt.new w d).drewN k)).mono fun e w' h => ⟨h.1, 0, h.2.symm⟩))
  have HB := Lib.hid hb
  clear hb
  go_enter Tryd.func13, Tryd.ntmps13
  go_wp2_with fail
  refine HV.out.mono ?_
  rintro e w' ⟨rfl, n, rfl⟩
  have HB' := Lib.hid (below_drewN HB.out n)
  go_wp2_with fail
  go_ret
  exact ⟨rfl, HB'.out⟩
def rB (a b c d : Int) : Bool := okb a && okb b && okb c && okb d
set_option maxHeartbeats 1000000 in
theorem rright_any (a b c d : Int) (w : World) : Calls Tryd.prog 21 #[.agg #[.int .i64 a, .int .i64 b, .int .i64 c, .int .i64 d]] w fun e w' => e = .returned (.bool (rB a b c d)) ∧ Below w.heap.size w w' := by
  have HB := Lib.hid ((Below.refl w.heap.size w).alloc (Nat.le_refl _) (.cells #[.int .i64 a, .int .i64 b, .int .i64 c, .int .i64 d] 23))
  have hr : rB a b c d = (((decide (0 ≤ a) && decide (0 ≤ b) && decide (0 ≤ c) && decide (0 ≤ d)) && decide (a ≤ 1073741824) && decide (b ≤ 1073741824) && decide (c ≤ 1073741824) && decide (d ≤ 1073741824))) := by
    unfold rB okb
    cases decide (0 ≤ a) <;> cases decide (0 ≤ b) <;> cases decide (0 ≤ c) <;> cases decide (0 ≤ d) <;> cases decide (a ≤ 1073741824) <;> cases decide (b ≤ 1073741824) <;> cases decide (c ≤ 1073741824) <;> cases decide (d ≤ 1073741824) <;> rfl
  rw [hr]
  clear hr
  rcases Classical.em (0 ≤ a) with h0 | h0
  rotate_left
  ·
    go_enter Tryd.func21, Tryd.ntmps21
    go_wp2_with fail
    go_ret
    exact ⟨by simp [*] <;> omega, HB.out⟩
  rcases Classical.em (0 ≤ b) with h1 | h1
  rotate_left
  ·
    go_enter Tryd.func21, Tryd.ntmps21
    go_wp2_with fail
    go_ret
    exact ⟨by simp [*] <;> omega, HB.out⟩
  rcases Classical.em (0 ≤ c) with h2 | h2
  rotate_left
  ·
    go_enter Tryd.func21, Tryd.ntmps21
    go_wp2_with fail
    go_ret
    exact ⟨by simp [*] <;> omega, HB.out⟩
  rcases Classical.em (0 ≤ d) with h3 | h3
  rotate_left
  ·
    go_enter Tryd.func21, Tryd.ntmps21
    go_wp2_with fail
    go_ret
    exact ⟨by simp [*] <;> omega, HB.out⟩
  rcases Classical.em (a ≤ 1073741824) with h4 | h4
  rotate_left
  ·
    go_enter Tryd.func21, Tryd.ntmps21
    go_wp2_with fail
    go_ret
    exact ⟨by simp [*] <;> omega, HB.out⟩
  rcases Classical.em (b ≤ 1073741824) with h5 | h5
  rotate_left
  ·
    go_enter Tryd.func21, Tryd.ntmps21
    go_wp2_with fail
    go_ret
    exact ⟨by simp [*] <;> omega, HB.out⟩
  rcases Classical.em (c ≤ 1073741824) with h6 | h6
  rotate_left
  ·
    go_enter Tryd.func21, Tryd.ntmps21
    go_wp2_with fail
    go_ret
    exact ⟨by simp [*] <;> omega, HB.out⟩
  rcases Classical.em (d ≤ 1073741824) with h7 | h7
  rotate_left
  ·
    go_enter Tryd.func21, Tryd.ntmps21
    go_wp2_with fail
    go_ret
    exact ⟨by simp [*] <;> omega, HB.out⟩
  go_enter Tryd.func21, Tryd.ntmps21
  go_wp2_with fail
  go_ret
  exact ⟨by simp [*] <;> omega, HB.out⟩
def toldE (ok : Bool) (d : Nat → Int) (e : Int) : Int := if ok = true then (if okv d = true then 0 else e) else 1
def toldV (ok : Bool) (d : Nat → Int) : Nat → Int := fun i => if (ok && okv d) = true then d i else 0

theorem told_any (d : Nat → Int) (x : Int) (w : World)  :
    Calls Tryd.prog 26 #[.agg #[.int .i64 (d 0), .int .i64 (d 1), .int .i64 (d 2), .int .i64 (d 3)], .int .i64 x] w fun e w' => e = .returned (.tuple #[.agg #[.int .i64 (toldV (true) (d) 0), .int .i64 (toldV (true) (d) 1), .int .i64 (toldV (true) (d) 2), .int .i64 (toldV (true) (d) 3)], .int .i64 (toldE (true) (d) (x))]) ∧ Below w.heap.size w w' := by
  obtain ⟨S, hS⟩ : ∃ S, S = w.heap.size := ⟨_, rfl⟩
  obtain ⟨w1, hw1⟩ : ∃ x, x = ((w.alloc (.cells #[.int .i64 (d 0), .int .i64 (d 1), .int .i64 (d 2), .int .i64 (d 3)] 23)).alloc (.cells #[.int .i64 0, .int .i64 0, .int .i64 0, .int .i64 0] 23)) := ⟨_, rfl⟩
  have HB_1 : Hid (Below w.heap.size w w1) := Lib.hid (by rw [hw1]; exact (((Below.refl w.heap.size w).alloc (by simp) _).alloc (by simp) _))
  have HS_1 : Hid (VAt w1 S d) := Lib.hid (by
    rw [hw1, hS]
    have h := heap_alloc_new w (.cells #[.int .i64 (d 0), .int .i64 (d 1), .int .i64 (d 2), .int .i64 (d 3)] 23)
    replace h := (Below.heap_alloc (w.alloc (.cells #[.int .i64 (d 0), .int .i64 (d 1), .int .i64 (d 2), .int .i64 (d 3)] 23)) (.cells #[.int .i64 0, .int .i64 0, .int .i64 0, .int .i64 0] 23) _ (by simp)).trans h
    exact h)
  have HT_1 : Hid (VAt w1 (S + 1) (fun _ => 0)) := Lib.hid (by
    rw [hw1, hS]
    have h := heap_alloc_new (w.alloc (.cells #[.int .i64 (d 0), .int .i64 (d 1), .int .i64 (d 2), .int .i64 (d 3)] 23)) (.cells #[.int .i64 0, .int .i64 0, .int .i64 0, .int .i64 0] 23)
    simp only [World.size_alloc] at h
    exact h)
  have HS := Lib.hid hS
  go_enter Tryd.func26, Tryd.ntmps26
  go_upto_region 1 with (fail)
  rw [← hw1, ← hS]
  clear hw1 hS
  go_wp2_with (refine wpList_load_row rfl 23 (.tmp 2) rfl (S) rfl 23 _ (0, 0) _ HS_1.out Tryd.underlying23 rfl (by kernel_rfl) ?_)
  refine (right_any d w1).mono ?_
  rintro e w2 ⟨rfl, hb⟩
  have HB_2 : Hid (Below w.heap.size w w2) := Lib.hid (HB_1.out.trans (hb.mono HB_1.out.size))
  have HS_2 : Hid (VAt w2 S d) := Lib.hid (HS_1.out.below hb (ltb HS_1.out))
  have HT_2 : Hid (VAt w2 (S + 1) (fun _ => 0)) := Lib.hid (HT_1.out.below hb (ltb HT_1.out))
  clear hb HB_1 HS_1 HT_1
  rcases hok : okv d with _ | _
  · have HK := Lib.hid hok
    clear hok
    have HST : Hid (VAt (w2.setRow (S + 1) #[.int .i64 0, .int .i64 0, .int .i64 0, .int .i64 0]) (S + 1) (fun _ => 0)) := Lib.hid (setRow_heap w2 (S + 1) _ _ _ _ HT_2.out)
    have HBF : Hid (Below w.heap.size w (w2.setRow (S + 1) #[.int .i64 0, .int .i64 0, .int .i64 0, .int .i64 0])) := Lib.hid (HB_2.out.trans (((Chg.refl (fun k => k = S + 1) w2).setRow (.inr rfl) _).below HB_2.out.size (fun k hk e => by have := HS.out; omega)))
    go_wp2_with (refine wpList_store_row rfl 23 (.tmp 4) (.tmp 9) rfl (S + 1) _ rfl rfl 23 _ HT_2.out (by kernel_rfl) rfl (by simp [Value.oneCell']) ?_)
    refine bodyPost_ret (v := .tuple #[.agg #[.int .i64 0, .int .i64 0, .int .i64 0, .int .i64 0], .int .i64 (x)]) (results_vece Tryd.results26 _ _ (S + 1) (fun _ => 0) rfl HST.out) rfl ⟨?_, HBF.out⟩
    simp [toldV, toldE, HK.out]
  · have HK := Lib.hid hok
    clear hok
    have HST : Hid (VAt (w2.setRow (S + 1) #[.int .i64 (d 0), .int .i64 (d 1), .int .i64 (d 2), .int .i64 (d 3)]) (S + 1) d) := Lib.hid (setRow_heap w2 (S + 1) _ _ _ _ HT_2.out)
    have HBF : Hid (Below w.heap.size w (w2.setRow (S + 1) #[.int .i64 (d 0), .int .i64 (d 1), .int .i64 (d 2), .int .i64 (d 3)])) := Lib.hid (HB_2.out.trans (((Chg.refl (fun k => k = S + 1) w2).setRow (.inr rfl) _).below HB_2.out.size (fun k hk e => by have := HS.out; omega)))
    go_wp2_with (first | (refine wpList_load_row rfl 23 (.tmp 2) rfl (S) rfl 23 _ (0, 0) _ HS_2.out Tryd.underlying23 rfl (by kernel_rfl) ?_) | (refine wpList_store_row rfl 23 (.tmp 4) (.tmp 11) rfl (S + 1) _ rfl rfl 23 _ HT_2.out (by kernel_rfl) rfl (by simp [Value.oneCell']) ?_))
    refine bodyPost_ret (v := .tuple #[.agg #[.int .i64 (d 0), .int .i64 (d 1), .int .i64 (d 2), .int .i64 (d 3)], .int .i64 0]) (results_vece Tryd.results26 _ _ (S + 1) d rfl HST.out) rfl ⟨?_, HBF.out⟩
    simp [toldV, toldE, HK.out]
theorem add_any (a b : Nat → Int) (w : World)  :
    Calls Tryd.prog 10 #[.agg #[.int .i64 (a 0), .int .i64 (a 1), .int .i64 (a 2), .int .i64 (a 3)], .agg #[.int .i64 (b 0), .int .i64 (b 1), .int .i64 (b 2), .int .i64 (b 3)]] w fun e w' => e = .returned (.tuple #[.agg #[.int .i64 (toldV (okv a && okv b) (fun i => a i + b i) 0), .int .i64 (toldV (okv a && okv b) (fun i => a i + b i) 1), .int .i64 (toldV (okv a && okv b) (fun i => a i + b i) 2), .int .i64 (toldV (okv a && okv b) (fun i => a i + b i) 3)], .int .i64 (toldE (okv a && okv b) (fun i => a i + b i) (30))]) ∧ Below w.heap.size w w' := by
  obtain ⟨S, hS⟩ : ∃ S, S = w.heap.size := ⟨_, rfl⟩
  obtain ⟨w1, hw1⟩ : ∃ x, x = (((w.alloc (.cells #[.int .i64 (a 0), .int .i64 (a 1), .int .i64 (a 2), .int .i64 (a 3)] 23)).alloc (.cells #[.int .i64 (b 0), .int .i64 (b 1), .int .i64 (b 2), .int .i64 (b 3)] 23)).alloc (.cells #[.int .i64 0, .int .i64 0, .int .i64 0, .int .i64 0] 23)) := ⟨_, rfl⟩
  have HB_1 : Hid (Below w.heap.size w w1) := Lib.hid (by rw [hw1]; exact ((((Below.refl w.heap.size w).alloc (by simp) _).alloc (by simp) _).alloc (by simp; omega) _))
  have HS_1 : Hid (VAt w1 S a) := Lib.hid (by
    rw [hw1, hS]
    have h := heap_alloc_new w (.cells #[.int .i64 (a 0), .int .i64 (a 1), .int .i64 (a 2), .int .i64 (a 3)] 23)
    replace h := (Below.heap_alloc (w.alloc (.cells #[.int .i64 (a 0), .int .i64 (a 1), .int .i64 (a 2), .int .i64 (a 3)] 23)) (.cells #[.int .i64 (b 0), .int .i64 (b 1), .int .i64 (b 2), .int .i64 (b 3)] 23) _ (by simp)).trans h
    replace h := (Below.heap_alloc ((w.alloc (.cells #[.int .i64 (a 0), .int .i64 (a 1), .int .i64 (a 2), .int .i64 (a 3)] 23)).alloc (.cells #[.int .i64 (b 0), .int .i64 (b 1), .int .i64 (b 2), .int .i64 (b 3)] 23)) (.cells #[.int .i64 0, .int .i64 0, .int .i64 0, .int .i64 0] 23) _ (by simp; omega)).trans h
    exact h)
  have HR_1 : Hid (VAt w1 (S + 1) b) := Lib.hid (by
    rw [hw1, hS]
    have h := heap_alloc_new (w.alloc (.cells #[.int .i64 (a 0), .int .i64 (a 1), .int .i64 (a 2), .int .i64 (a 3)] 23)) (.cells #[.int .i64 (b 0), .int .i64 (b 1), .int .i64 (b 2), .int .i64 (b 3)] 23)
    simp only [World.size_alloc] at h
    replace h := (Below.heap_alloc ((w.alloc (.cells #[.int .i64 (a 0), .int .i64 (a 1), .int .i64 (a 2), .int .i64 (a 3)] 23)).alloc (.cells #[.int .i64 (b 0), .int .i64 (b 1), .int .i64 (b 2), .int .i64 (b 3)] 23)) (.cells #[.int .i64 0, .int .i64 0, .int .i64 0, .int .i64 0] 23) _ (by simp)).trans h
    exact h)
  have HT_1 : Hid (VAt w1 (S + 2) (fun _ => 0)) := Lib.hid (by
    rw [hw1, hS]
    have h := heap_alloc_new ((w.alloc (.cells #[.int .i64 (a 0), .int .i64 (a 1), .int .i64 (a 2), .int .i64 (a 3)] 23)).alloc (.cells #[.int .i64 (b 0), .int .i64 (b 1), .int .i64 (b 2), .int .i64 (b 3)] 23)) (.cells #[.int .i64 0, .int .i64 0, .int .i64 0, .int .i64 0] 23)
    simp only [World.size_alloc] at h
    exact h)
  have HS := Lib.hid hS
  go_enter Tryd.func10, Tryd.ntmps10
  go_upto_region 1 with (fail)
  rw [← hw1, ← hS]
  clear hw1 hS
  go_wp2_with (refine wpList_load_row rfl 23 (.tmp 2) rfl (S) rfl 23 _ (0, 0) _ HS_1.out Tryd.underlying23 rfl (by kernel_rfl) ?_)
  refine (right_any a w1).mono ?_
  rintro e w2 ⟨rfl, hb⟩
  have HB_2 : Hid (Below w.heap.size w w2) := Lib.hid (HB_1.out.trans (hb.mono HB_1.out.size))
  have HS_2 : Hid (VAt w2 S a) := Lib.hid (HS_1.out.below hb (ltb HS_1.out))
  have HR_2 : Hid (VAt w2 (S + 1) b) := Lib.hid (HR_1.out.below hb (ltb HR_1.out))
  have HT_2 : Hid (VAt w2 (S + 2) (fun _ => 0)) := Lib.hid (HT_1.out.below hb (ltb HT_1.out))
  clear hb HB_1 HS_1 HR_1 HT_1
  rcases hoa : okv a with _ | _
  · have HA := Lib.hid hoa
    clear hoa
    have HST : Hid (VAt (w2.setRow (S + 2) #[.int .i64 0, .int .i64 0, .int .i64 0, .int .i64 0]) (S + 2) (fun _ => 0)) := Lib.hid (setRow_heap w2 (S + 2) _ _ _ _ HT_2.out)
    have HBF : Hid (Below w.heap.size w (w2.setRow (S + 2) #[.int .i64 0, .int .i64 0, .int .i64 0, .int .i64 0])) := Lib.hid (HB_2.out.trans (((Chg.refl (fun k => k = S + 2) w2).setRow (.inr rfl) _).below HB_2.out.size (fun k hk e => by have := HS.out; omega)))
    go_wp2_with (refine wpList_store_row rfl 23 (.tmp 4) (.tmp 14) rfl (S + 2) _ rfl rfl 23 _ HT_2.out (by kernel_rfl) rfl (by simp [Value.oneCell']) ?_)
    refine bodyPost_ret (v := .tuple #[.agg #[.int .i64 0, .int .i64 0, .int .i64 0, .int .i64 0], .int .i64 1]) (results_vece Tryd.results10 _ _ (S + 2) (fun _ => 0) rfl HST.out) rfl ⟨?_, HBF.out⟩
    simp [toldV, toldE, HA.out]
  have HA := Lib.hid hoa
  clear hoa
  go_wp2_with (refine wpList_load_g rfl 23 (.tmp 3) rfl (S + 1) rfl 23 _ (0, 0) _ HR_2.out Tryd.underlying23 rfl (by kernel_rfl) ?_)
  refine (right_any b w2).mono ?_
  rintro e w3 ⟨rfl, hb⟩
  have HB_3 : Hid (Below w.heap.size w w3) := Lib.hid (HB_2.out.trans (hb.mono HB_2.out.size))
  have HS_3 : Hid (VAt w3 S a) := Lib.hid (HS_2.out.below hb (ltb HS_2.out))
  have HR_3 : Hid (VAt w3 (S + 1) b) := Lib.hid (HR_2.out.below hb (ltb HR_2.out))
  have HT_3 : Hid (VAt w3 (S + 2) (fun _ => 0)) := Lib.hid (HT_2.out.below hb (ltb HT_2.out))
  clear hb HB_2 HS_2 HR_2 HT_2
  rcases hob : okv b with _ | _
  · have HBo := Lib.hid hob
    clear hob
    have HST : Hid (VAt (w3.setRow (S + 2) #[.int .i64 0, .int .i64 0, .int .i64 0, .int .i64 0]) (S + 2) (fun _ => 0)) := Lib.hid (setRow_heap w3 (S + 2) _ _ _ _ HT_3.out)
    have HBF : Hid (Below w.heap.size w (w3.setRow (S + 2) #[.int .i64 0, .int .i64 0, .int .i64 0, .int .i64 0])) := Lib.hid (HB_3.out.trans (((Chg.refl (fun k => k = S + 2) w3).setRow (.inr rfl) _).below HB_3.out.size (fun k hk e => by have := HS.out; omega)))
    go_wp2_with (refine wpList_store_row rfl 23 (.tmp 4) (.tmp 14) rfl (S + 2) _ rfl rfl 23 _ HT_3.out (by kernel_rfl) rfl (by simp [Value.oneCell']) ?_)
    refine bodyPost_ret (v := .tuple #[.agg #[.int .i64 0, .int .i64 0, .int .i64 0, .int .i64 0], .int .i64 1]) (results_vece Tryd.results10 _ _ (S + 2) (fun _ => 0) rfl HST.out) rfl ⟨?_, HBF.out⟩
    simp [toldV, toldE, HBo.out]
  have HBo := Lib.hid hob
  clear hob
  go_wp2_with fail
  refine (each_add S (S + 1) (fun i => a i + b i) w3 (fun wr i hi hb => add1 i wr hi S (S + 1) a b (HS_3.out.below hb (ltb HS_3.out)) (HR_3.out.below hb (ltb HR_3.out)) HA.out HBo.out)).mono ?_
  rintro e w4 ⟨rfl, hb⟩
  have HB_4 : Hid (Below w.heap.size w w4) := Lib.hid (HB_3.out.trans (hb.mono HB_3.out.size))
  have HS_4 : Hid (VAt w4 S a) := Lib.hid (HS_3.out.below hb (ltb HS_3.out))
  have HR_4 : Hid (VAt w4 (S + 1) b) := Lib.hid (HR_3.out.below hb (ltb HR_3.out))
  have HT_4 : Hid (VAt w4 (S + 2) (fun _ => 0)) := Lib.hid (HT_3.out.below hb (ltb HT_3.out))
  clear hb HB_3 HS_3 HR_3 HT_3
  go_wp2_with fail
  refine (told_any (fun i => a i + b i) 30 w4).mono ?_
  rintro e w5 ⟨rfl, hb⟩
  have HB_5 : Hid (Below w.heap.size w w5) := Lib.hid (HB_4.out.trans (hb.mono HB_4.out.size))
  have HS_5 : Hid (VAt w5 S a) := Lib.hid (HS_4.out.below hb (ltb HS_4.out))
  have HR_5 : Hid (VAt w5 (S + 1) b) := Lib.hid (HR_4.out.below hb (ltb HR_4.out))
  have HT_5 : Hid (VAt w5 (S + 2) (fun _ => 0)) := Lib.hid (HT_4.out.below hb (ltb HT_4.out))
  clear hb HB_4 HS_4 HR_4 HT_4
  have HST : Hid (VAt (w5.setRow (S + 2) #[.int .i64 (toldV true (fun i => a i + b i) 0), .int .i64 (toldV true (fun i => a i + b i) 1), .int .i64 (toldV true (fun i => a i + b i) 2), .int .i64 (toldV true (fun i => a i + b i) 3)]) (S + 2) (toldV true (fun i => a i + b i))) := Lib.hid (setRow_heap w5 (S + 2) _ _ _ _ HT_5.out)
  have HBF : Hid (Below w.heap.size w (w5.setRow (S + 2) #[.int .i64 (toldV true (fun i => a i + b i) 0), .int .i64 (toldV true (fun i => a i + b i) 1), .int .i64 (toldV true (fun i => a i + b i) 2), .int .i64 (toldV true (fun i => a i + b i) 3)])) := Lib.hid (HB_5.out.trans (((Chg.refl (fun k => k = S + 2) w5).setRow (.inr rfl) _).below HB_5.out.size (fun k hk e => by have := HS.out; omega)))
  have HOK : Hid ((okv a && okv b) = true) := Lib.hid (by rw [HA.out, HBo.out]; rfl)
  go_wp2_with (refine wpList_store_row rfl 23 (.tmp 4) (.tmp 18) rfl (S + 2) _ rfl rfl 23 _ HT_5.out (by kernel_rfl) rfl (by simp [Value.oneCell']) ?_)
  refine bodyPost_ret (v := .tuple #[.agg #[.int .i64 (toldV true (fun i => a i + b i) 0), .int .i64 (toldV true (fun i => a i + b i) 1), .int .i64 (toldV true (fun i => a i + b i) 2), .int .i64 (toldV true (fun i => a i + b i) 3)], .int .i64 (toldE true (fun i => a i + b i) 30)]) (results_vece Tryd.results10 _ _ (S + 2) (toldV true (fun i => a i + b i)) rfl HST.out) rfl ⟨?_, HBF.out⟩
  rw [HOK.out]
theorem sub_any (a b : Nat → Int) (w : World)  :
    Calls Tryd.prog 11 #[.agg #[.int .i64 (a 0), .int .i64 (a 1), .int .i64 (a 2), .int .i64 (a 3)], .agg #[.int .i64 (b 0), .int .i64 (b 1), .int .i64 (b 2), .int .i64 (b 3)]] w fun e w' => e = .returned (.tuple #[.agg #[.int .i64 (toldV (okv a && okv b) (fun i => a i - b i) 0), .int .i64 (toldV (okv a && okv b) (fun i => a i - b i) 1), .int .i64 (toldV (okv a && okv b) (fun i => a i - b i) 2), .int .i64 (toldV (okv a && okv b) (fun i => a i - b i) 3)], .int .i64 (toldE (okv a && okv b) (fun i => a i - b i) (31))]) ∧ Below w.heap.size w w' := by
  obtain ⟨S, hS⟩ : ∃ S, S = w.heap.size := ⟨_, rfl⟩
  obtain ⟨w1, hw1⟩ : ∃ x, x = (((w.alloc (.cells #[.int .i64 (a 0), .int .i64 (a 1), .int .i64 (a 2), .int .i64 (a 3)] 23)).alloc (.cells #[.int .i64 (b 0), .int .i64 (b 1), .int .i64 (b 2), .int .i64 (b 3)] 23)).alloc (.cells #[.int .i64 0, .int .i64 0, .int .i64 0, .int .i64 0] 23)) := ⟨_, rfl⟩
  have HB_1 : Hid (Below w.heap.size w w1) := Lib.hid (by rw [hw1]; exact ((((Below.refl w.heap.size w).alloc (by simp) _).alloc (by simp) _).alloc (by simp; omega) _))
  have HS_1 : Hid (VAt w1 S a) := Lib.hid (by
    rw [hw1, hS]
    have h := heap_alloc_new w (.cells #[.int .i64 (a 0), .int .i64 (a 1), .int .i64 (a 2), .int .i64 (a 3)] 23)
    replace h := (Below.heap_alloc (w.alloc (.cells #[.int .i64 (a 0), .int .i64 (a 1), .int .i64 (a 2), .int .i64 (a 3)] 23)) (.cells #[.int .i64 (b 0), .int .i64 (b 1), .int .i64 (b 2), .int .i64 (b 3)] 23) _ (by simp)).trans h
    replace h := (Below.heap_alloc ((w.alloc (.cells #[.int .i64 (a 0), .int .i64 (a 1), .int .i64 (a 2), .int .i64 (a 3)] 23)).alloc (.cells #[.int .i64 (b 0), .int .i64 (b 1), .int .i64 (b 2), .int .i64 (b 3)] 23)) (.cells #[.int .i64 0, .int .i64 0, .int .i64 0, .int .i64 0] 23) _ (by simp; omega)).trans h
    exact h)
  have HR_1 : Hid (VAt w1 (S + 1) b) := Lib.hid (by
    rw [hw1, hS]
    have h := heap_alloc_new (w.alloc (.cells #[.int .i64 (a 0), .int .i64 (a 1), .int .i64 (a 2), .int .i64 (a 3)] 23)) (.cells #[.int .i64 (b 0), .int .i64 (b 1), .int .i64 (b 2), .int .i64 (b 3)] 23)
    simp only [World.size_alloc] at h
    replace h := (Below.heap_alloc ((w.alloc (.cells #[.int .i64 (a 0), .int .i64 (a 1), .int .i64 (a 2), .int .i64 (a 3)] 23)).alloc (.cells #[.int .i64 (b 0), .int .i64 (b 1), .int .i64 (b 2), .int .i64 (b 3)] 23)) (.cells #[.int .i64 0, .int .i64 0, .int .i64 0, .int .i64 0] 23) _ (by simp)).trans h
    exact h)
  have HT_1 : Hid (VAt w1 (S + 2) (fun _ => 0)) := Lib.hid (by
    rw [hw1, hS]
    have h := heap_alloc_new ((w.alloc (.cells #[.int .i64 (a 0), .int .i64 (a 1), .int .i64 (a 2), .int .i64 (a 3)] 23)).alloc (.cells #[.int .i64 (b 0), .int .i64 (b 1), .int .i64 (b 2), .int .i64 (b 3)] 23)) (.cells #[.int .i64 0, .int .i64 0, .int .i64 0, .int .i64 0] 23)
    simp only [World.size_alloc] at h
    exact h)
  have HS := Lib.hid hS
  go_enter Tryd.func11, Tryd.ntmps11
  go_upto_region 1 with (fail)
  rw [← hw1, ← hS]
  clear hw1 hS
  go_wp2_with (refine wpList_load_row rfl 23 (.tmp 2) rfl (S) rfl 23 _ (0, 0) _ HS_1.out Tryd.underlying23 rfl (by kernel_rfl) ?_)
  refine (right_any a w1).mono ?_
  rintro e w2 ⟨rfl, hb⟩
  have HB_2 : Hid (Below w.heap.size w w2) := Lib.hid (HB_1.out.trans (hb.mono HB_1.out.size))
  have HS_2 : Hid (VAt w2 S a) := Lib.hid (HS_1.out.below hb (ltb HS_1.out))
  have HR_2 : Hid (VAt w2 (S + 1) b) := Lib.hid (HR_1.out.below hb (ltb HR_1.out))
  have HT_2 : Hid (VAt w2 (S + 2) (fun _ => 0)) := Lib.hid (HT_1.out.below hb (ltb HT_1.out))
  clear hb HB_1 HS_1 HR_1 HT_1
  rcases hoa : okv a with _ | _
  · have HA := Lib.hid hoa
    clear hoa
    have HST : Hid (VAt (w2.setRow (S + 2) #[.int .i64 0, .int .i64 0, .int .i64 0, .int .i64 0]) (S + 2) (fun _ => 0)) := Lib.hid (setRow_heap w2 (S + 2) _ _ _ _ HT_2.out)
    have HBF : Hid (Below w.heap.size w (w2.setRow (S + 2) #[.int .i64 0, .int .i64 0, .int .i64 0, .int .i64 0])) := Lib.hid (HB_2.out.trans (((Chg.refl (fun k => k = S + 2) w2).setRow (.inr rfl) _).below HB_2.out.size (fun k hk e => by have := HS.out; omega)))
    go_wp2_with (refine wpList_store_row rfl 23 (.tmp 4) (.tmp 14) rfl (S + 2) _ rfl rfl 23 _ HT_2.out (by kernel_rfl) rfl (by simp [Value.oneCell']) ?_)
    refine bodyPost_ret (v := .tuple #[.agg #[.int .i64 0, .int .i64 0, .int .i64 0, .int .i64 0], .int .i64 1]) (results_vece Tryd.results11 _ _ (S + 2) (fun _ => 0) rfl HST.out) rfl ⟨?_, HBF.out⟩
    simp [toldV, toldE, HA.out]
  have HA := Lib.hid hoa
  clear hoa
  go_wp2_with (refine wpList_load_g rfl 23 (.tmp 3) rfl (S + 1) rfl 23 _ (0, 0) _ HR_2.out Tryd.underlying23 rfl (by kernel_rfl) ?_)
  refine (right_any b w2).mono ?_
  rintro e w3 ⟨rfl, hb⟩
  have HB_3 : Hid (Below w.heap.size w w3) := Lib.hid (HB_2.out.trans (hb.mono HB_2.out.size))
  have HS_3 : Hid (VAt w3 S a) := Lib.hid (HS_2.out.below hb (ltb HS_2.out))
  have HR_3 : Hid (VAt w3 (S + 1) b) := Lib.hid (HR_2.out.below hb (ltb HR_2.out))
  have HT_3 : Hid (VAt w3 (S + 2) (fun _ => 0)) := Lib.hid (HT_2.out.below hb (ltb HT_2.out))
  clear hb HB_2 HS_2 HR_2 HT_2
  rcases hob : okv b with _ | _
  · have HBo := Lib.hid hob
    clear hob
    have HST : Hid (VAt (w3.setRow (S + 2) #[.int .i64 0, .int .i64 0, .int .i64 0, .int .i64 0]) (S + 2) (fun _ => 0)) := Lib.hid (setRow_heap w3 (S + 2) _ _ _ _ HT_3.out)
    have HBF : Hid (Below w.heap.size w (w3.setRow (S + 2) #[.int .i64 0, .int .i64 0, .int .i64 0, .int .i64 0])) := Lib.hid (HB_3.out.trans (((Chg.refl (fun k => k = S + 2) w3).setRow (.inr rfl) _).below HB_3.out.size (fun k hk e => by have := HS.out; omega)))
    go_wp2_with (refine wpList_store_row rfl 23 (.tmp 4) (.tmp 14) rfl (S + 2) _ rfl rfl 23 _ HT_3.out (by kernel_rfl) rfl (by simp [Value.oneCell']) ?_)
    refine bodyPost_ret (v := .tuple #[.agg #[.int .i64 0, .int .i64 0, .int .i64 0, .int .i64 0], .int .i64 1]) (results_vece Tryd.results11 _ _ (S + 2) (fun _ => 0) rfl HST.out) rfl ⟨?_, HBF.out⟩
    simp [toldV, toldE, HBo.out]
  have HBo := Lib.hid hob
  clear hob
  go_wp2_with fail
  refine (each_sub S (S + 1) (fun i => a i - b i) w3 (fun wr i hi hb => sub1 i wr hi S (S + 1) a b (HS_3.out.below hb (ltb HS_3.out)) (HR_3.out.below hb (ltb HR_3.out)) HA.out HBo.out)).mono ?_
  rintro e w4 ⟨rfl, hb⟩
  have HB_4 : Hid (Below w.heap.size w w4) := Lib.hid (HB_3.out.trans (hb.mono HB_3.out.size))
  have HS_4 : Hid (VAt w4 S a) := Lib.hid (HS_3.out.below hb (ltb HS_3.out))
  have HR_4 : Hid (VAt w4 (S + 1) b) := Lib.hid (HR_3.out.below hb (ltb HR_3.out))
  have HT_4 : Hid (VAt w4 (S + 2) (fun _ => 0)) := Lib.hid (HT_3.out.below hb (ltb HT_3.out))
  clear hb HB_3 HS_3 HR_3 HT_3
  go_wp2_with fail
  refine (told_any (fun i => a i - b i) 31 w4).mono ?_
  rintro e w5 ⟨rfl, hb⟩
  have HB_5 : Hid (Below w.heap.size w w5) := Lib.hid (HB_4.out.trans (hb.mono HB_4.out.size))
  have HS_5 : Hid (VAt w5 S a) := Lib.hid (HS_4.out.below hb (ltb HS_4.out))
  have HR_5 : Hid (VAt w5 (S + 1) b) := Lib.hid (HR_4.out.below hb (ltb HR_4.out))
  have HT_5 : Hid (VAt w5 (S + 2) (fun _ => 0)) := Lib.hid (HT_4.out.below hb (ltb HT_4.out))
  clear hb HB_4 HS_4 HR_4 HT_4
  have HST : Hid (VAt (w5.setRow (S + 2) #[.int .i64 (toldV true (fun i => a i - b i) 0), .int .i64 (toldV true (fun i => a i - b i) 1), .int .i64 (toldV true (fun i => a i - b i) 2), .int .i64 (toldV true (fun i => a i - b i) 3)]) (S + 2) (toldV true (fun i => a i - b i))) := Lib.hid (setRow_heap w5 (S + 2) _ _ _ _ HT_5.out)
  have HBF : Hid (Below w.heap.size w (w5.setRow (S + 2) #[.int .i64 (toldV true (fun i => a i - b i) 0), .int .i64 (toldV true (fun i => a i - b i) 1), .int .i64 (toldV true (fun i => a i - b i) 2), .int .i64 (toldV true (fun i => a i - b i) 3)])) := Lib.hid (HB_5.out.trans (((Chg.refl (fun k => k = S + 2) w5).setRow (.inr rfl) _).below HB_5.out.size (fun k hk e => by have := HS.out; omega)))
  have HOK : Hid ((okv a && okv b) = true) := Lib.hid (by rw [HA.out, HBo.out]; rfl)
  go_wp2_with (refine wpList_store_row rfl 23 (.tmp 4) (.tmp 18) rfl (S + 2) _ rfl rfl 23 _ HT_5.out (by kernel_rfl) rfl (by simp [Value.oneCell']) ?_)
  refine bodyPost_ret (v := .tuple #[.agg #[.int .i64 (toldV true (fun i => a i - b i) 0), .int .i64 (toldV true (fun i => a i - b i) 1), .int .i64 (toldV true (fun i => a i - b i) 2), .int .i64 (toldV true (fun i => a i - b i) 3)], .int .i64 (toldE true (fun i => a i - b i) 31)]) (results_vece Tryd.results11 _ _ (S + 2) (toldV true (fun i => a i - b i)) rfl HST.out) rfl ⟨?_, HBF.out⟩
  rw [HOK.out]
set_option maxHeartbeats 1000000 in
theorem times_any (a : Nat → Int) (n : Int) (w : World)  :
    Calls Tryd.prog 19 #[.agg #[.int .i64 (a 0), .int .i64 (a 1), .int .i64 (a 2), .int .i64 (a 3)], .int .i64 n] w fun e w' => e = .returned (.tuple #[.agg #[.int .i64 (toldV (okv a && decide (0 ≤ n)) (fun i => a i * min n 1073741825) 0), .int .i64 (toldV (okv a && decide (0 ≤ n)) (fun i => a i * min n 1073741825) 1), .int .i64 (toldV (okv a && decide (0 ≤ n)) (fun i => a i * min n 1073741825) 2), .int .i64 (toldV (okv a && decide (0 ≤ n)) (fun i => a i * min n 1073741825) 3)], .int .i64 (toldE (okv a && decide (0 ≤ n)) (fun i => a i * min n 1073741825) (30))]) ∧ Below w.heap.size w w' := by
  obtain ⟨S, hS⟩ : ∃ S, S = w.heap.size := ⟨_, rfl⟩
  obtain ⟨w1, hw1⟩ : ∃ x, x = (((w.alloc (.cells #[.int .i64 (a 0), .int .i64 (a 1), .int .i64 (a 2), .int .i64 (a 3)] 23)).alloc (.cells #[.int .i64 n] 3)).alloc (.cells #[.int .i64 0, .int .i64 0, .int .i64 0, .int .i64 0] 23)) := ⟨_, rfl⟩
  have HB_1 : Hid (Below w.heap.size w w1) := Lib.hid (by rw [hw1]; exact ((((Below.refl w.heap.size w).alloc (by simp) _).alloc (by simp) _).alloc (by simp; omega) _))
  have HS_1 : Hid (VAt w1 S a) := Lib.hid (by
    rw [hw1, hS]
    have h := heap_alloc_new w (.cells #[.int .i64 (a 0), .int .i64 (a 1), .int .i64 (a 2), .int .i64 (a 3)] 23)
    replace h := (Below.heap_alloc (w.alloc (.cells #[.int .i64 (a 0), .int .i64 (a 1), .int .i64 (a 2), .int .i64 (a 3)] 23)) (.cells #[.int .i64 n] 3) _ (by simp)).trans h
    replace h := (Below.heap_alloc ((w.alloc (.cells #[.int .i64 (a 0), .int .i64 (a 1), .int .i64 (a 2), .int .i64 (a 3)] 23)).alloc (.cells #[.int .i64 n] 3)) (.cells #[.int .i64 0, .int .i64 0, .int .i64 0, .int .i64 0] 23) _ (by simp; omega)).trans h
    exact h)
  have HN_1 : Hid (w1.heap[S + 1]? = some (.cells #[.int .i64 n] 3 (0, 0))) := Lib.hid (by
    rw [hw1, hS]
    have h := heap_alloc_new (w.alloc (.cells #[.int .i64 (a 0), .int .i64 (a 1), .int .i64 (a 2), .int .i64 (a 3)] 23)) (.cells #[.int .i64 n] 3)
    simp only [World.size_alloc] at h
    replace h := (Below.heap_alloc ((w.alloc (.cells #[.int .i64 (a 0), .int .i64 (a 1), .int .i64 (a 2), .int .i64 (a 3)] 23)).alloc (.cells #[.int .i64 n] 3)) (.cells #[.int .i64 0, .int .i64 0, .int .i64 0, .int .i64 0] 23) _ (by simp)).trans h
    exact h)
  have HT_1 : Hid (VAt w1 (S + 2) (fun _ => 0)) := Lib.hid (by
    rw [hw1, hS]
    have h := heap_alloc_new ((w.alloc (.cells #[.int .i64 (a 0), .int .i64 (a 1), .int .i64 (a 2), .int .i64 (a 3)] 23)).alloc (.cells #[.int .i64 n] 3)) (.cells #[.int .i64 0, .int .i64 0, .int .i64 0, .int .i64 0] 23)
    simp only [World.size_alloc] at h
    exact h)
  have HS := Lib.hid hS
  go_enter Tryd.func19, Tryd.ntmps19
  go_upto_region 1 with (fail)
  rw [← hw1, ← hS]
  clear hw1 hS
  go_wp2_with (refine wpList_load_row rfl 23 (.tmp 2) rfl (S) rfl 23 _ (0, 0) _ HS_1.out Tryd.underlying23 rfl (by kernel_rfl) ?_)
  refine (right_any a w1).mono ?_
  rintro e w2 ⟨rfl, hb⟩
  have HB_2 : Hid (Below w.heap.size w w2) := Lib.hid (HB_1.out.trans (hb.mono HB_1.out.size))
  have HS_2 : Hid (VAt w2 S a) := Lib.hid (HS_1.out.below hb (ltb HS_1.out))
  have HN_2 : Hid (w2.heap[(S + 1)]? = some (.cells #[.int .i64 n] 3 (0, 0))) := Lib.hid ((hb.block (S + 1) (ltb HN_1.out)).trans HN_1.out)
  have HT_2 : Hid (VAt w2 (S + 2) (fun _ => 0)) := Lib.hid (HT_1.out.below hb (ltb HT_1.out))
  clear hb HB_1 HS_1 HN_1 HT_1
  rcases hoa : okv a with _ | _
  · have HA := Lib.hid hoa
    clear hoa
    have HST : Hid (VAt (w2.setRow (S + 2) #[.int .i64 0, .int .i64 0, .int .i64 0, .int .i64 0]) (S + 2) (fun _ => 0)) := Lib.hid (setRow_heap w2 (S + 2) _ _ _ _ HT_2.out)
    have HBF : Hid (Below w.heap.size w (w2.setRow (S + 2) #[.int .i64 0, .int .i64 0, .int .i64 0, .int .i64 0])) := Lib.hid (HB_2.out.trans (((Chg.refl (fun k => k = S + 2) w2).setRow (.inr rfl) _).below HB_2.out.size (fun k hk e => by have := HS.out; omega)))
    go_wp2_with (refine wpList_store_row rfl 23 (.tmp 4) (.tmp 13) rfl (S + 2) _ rfl rfl 23 _ HT_2.out (by kernel_rfl) rfl (by simp [Value.oneCell']) ?_)
    refine bodyPost_ret (v := .tuple #[.agg #[.int .i64 0, .int .i64 0, .int .i64 0, .int .i64 0], .int .i64 1]) (results_vece Tryd.results19 _ _ (S + 2) (fun _ => 0) rfl HST.out) rfl ⟨?_, HBF.out⟩
    simp [toldV, toldE, HA.out]
  have HA := Lib.hid hoa
  clear hoa
  have hn1 : w2.cell? ⟨S + 1, 0, none⟩ = some (.int .i64 n) := cellb (i := 0) HN_2.out rfl
  by_cases hn0 : n < 0
  · have hn0' : ¬ 0 ≤ n := by omega
    have HX := Lib.hid hn0'
    clear hn0'
    have HST : Hid (VAt (w2.setRow (S + 2) #[.int .i64 0, .int .i64 0, .int .i64 0, .int .i64 0]) (S + 2) (fun _ => 0)) := Lib.hid (setRow_heap w2 (S + 2) _ _ _ _ HT_2.out)
    have HBF : Hid (Below w.heap.size w (w2.setRow (S + 2) #[.int .i64 0, .int .i64 0, .int .i64 0, .int .i64 0])) := Lib.hid (HB_2.out.trans (((Chg.refl (fun k => k = S + 2) w2).setRow (.inr rfl) _).below HB_2.out.size (fun k hk e => by have := HS.out; omega)))
    go_wp2_with (refine wpList_store_row rfl 23 (.tmp 4) (.tmp 13) rfl (S + 2) _ rfl rfl 23 _ HT_2.out (by kernel_rfl) rfl (by simp [Value.oneCell']) ?_)
    refine bodyPost_ret (v := .tuple #[.agg #[.int .i64 0, .int .i64 0, .int .i64 0, .int .i64 0], .int .i64 1]) (results_vece Tryd.results19 _ _ (S + 2) (fun _ => 0) rfl HST.out) rfl ⟨?_, HBF.out⟩
    simp [toldV, toldE, HA.out, show ¬ (0 ≤ n) from (by have := HX.out; omega)]
  have hn2 : 0 ≤ n := by omega
  have hfz : w2.frozen? ⟨S + 1, 0, none⟩ = false := fzb HN_2.out 0
  go_wp2_with fail
  obtain ⟨m, hm⟩ : ∃ m : Int, m = min n 1073741825 := ⟨_, rfl⟩
  have hm0 : 0 ≤ m ∧ m ≤ 1073741825 := by rw [hm]; omega
  obtain ⟨hm0, hm1⟩ := hm0
  rw [← hm]
  have HM := Lib.hid hm
  clear hm hn1 hfz
  have hch : Chg (fun k => k = S + 1) w2 (w2.setCell ⟨S + 1, 0, none⟩ (.int .i64 m)) := (Chg.refl (fun k => k = S + 1) w2).setCell (.inr rfl) _
  have hcm : (w2.setCell ⟨S + 1, 0, none⟩ (.int .i64 m)).heap[S + 1]? = some (.cells #[.int .i64 m] 3 (0, 0)) := by have := HN_2.out; simp [World.setCell, Array.getElem?_modify, this]
  have HS_3 : Hid (VAt (w2.setCell ⟨S + 1, 0, none⟩ (.int .i64 m)) S a) := Lib.hid ((hch.block S (ltb HS_2.out) (by omega)).trans HS_2.out)
  have HT_3 : Hid (VAt (w2.setCell ⟨S + 1, 0, none⟩ (.int .i64 m)) (S + 2) (fun _ => 0)) := Lib.hid ((hch.block (S + 2) (ltb HT_2.out) (by omega)).trans HT_2.out)
  have HN_3 := Lib.hid hcm
  have HB_3 := Lib.hid (HB_2.out.trans (hch.below HB_2.out.size (fun k hk e => by have := HS.out; omega)))
  clear hch hcm HS_2 HT_2 HN_2 HB_2
  generalize w2.setCell ⟨S + 1, 0, none⟩ (.int .i64 m) = w3 at HS_3 HT_3 HN_3 HB_3 ⊢
  refine (each_times S (S + 1) (fun i => a i * m) w3 (fun wr i hi hb => times1 i wr hi S (S + 1) a m (HS_3.out.below hb (ltb HS_3.out)) ((hb.cell (p := ⟨S + 1, 0, none⟩) (ltb HN_3.out)).trans (cellb (i := 0) HN_3.out rfl)) HA.out hm0 hm1)).mono ?_
  rintro e w4 ⟨rfl, hb⟩
  have HB_4 : Hid (Below w.heap.size w w4) := Lib.hid (HB_3.out.trans (hb.mono HB_3.out.size))
  have HS_4 : Hid (VAt w4 S a) := Lib.hid (HS_3.out.below hb (ltb HS_3.out))
  have HN_4 : Hid (w4.heap[(S + 1)]? = some (.cells #[.int .i64 m] 3 (0, 0))) := Lib.hid ((hb.block (S + 1) (ltb HN_3.out)).trans HN_3.out)
  have HT_4 : Hid (VAt w4 (S + 2) (fun _ => 0)) := Lib.hid (HT_3.out.below hb (ltb HT_3.out))
  clear hb HB_3 HS_3 HN_3 HT_3
  go_wp2_with fail
  refine (told_any (fun i => a i * m) 30 w4).mono ?_
  rintro e w5 ⟨rfl, hb⟩
  have HB_5 : Hid (Below w.heap.size w w5) := Lib.hid (HB_4.out.trans (hb.mono HB_4.out.size))
  have HS_5 : Hid (VAt w5 S a) := Lib.hid (HS_4.out.below hb (ltb HS_4.out))
  have HN_5 : Hid (w5.heap[(S + 1)]? = some (.cells #[.int .i64 m] 3 (0, 0))) := Lib.hid ((hb.block (S + 1) (ltb HN_4.out)).trans HN_4.out)
  have HT_5 : Hid (VAt w5 (S + 2) (fun _ => 0)) := Lib.hid (HT_4.out.below hb (ltb HT_4.out))
  clear hb HB_4 HS_4 HN_4 HT_4
  have HST : Hid (VAt (w5.setRow (S + 2) #[.int .i64 (toldV true (fun i => a i * m) 0), .int .i64 (toldV true (fun i => a i * m) 1), .int .i64 (toldV true (fun i => a i * m) 2), .int .i64 (toldV true (fun i => a i * m) 3)]) (S + 2) (toldV true (fun i => a i * m))) := Lib.hid (setRow_heap w5 (S + 2) _ _ _ _ HT_5.out)
  have HBF : Hid (Below w.heap.size w (w5.setRow (S + 2) #[.int .i64 (toldV true (fun i => a i * m) 0), .int .i64 (toldV true (fun i => a i * m) 1), .int .i64 (toldV true (fun i => a i * m) 2), .int .i64 (toldV true (fun i => a i * m) 3)])) := Lib.hid (HB_5.out.trans (((Chg.refl (fun k => k = S + 2) w5).setRow (.inr rfl) _).below HB_5.out.size (fun k hk e => by have := HS.out; omega)))
  have HOK : Hid ((okv a && decide (0 ≤ n)) = true) := Lib.hid (by rw [HA.out]; simpa using hn2)
  go_wp2_with (refine wpList_store_row rfl 23 (.tmp 4) (.tmp 19) rfl (S + 2) _ rfl rfl 23 _ HT_5.out (by kernel_rfl) rfl (by simp [Value.oneCell']) ?_)
  refine bodyPost_ret (v := .tuple #[.agg #[.int .i64 (toldV true (fun i => a i * m) 0), .int .i64 (toldV true (fun i => a i * m) 1), .int .i64 (toldV true (fun i => a i * m) 2), .int .i64 (toldV true (fun i => a i * m) 3)], .int .i64 (toldE true (fun i => a i * m) 30)]) (results_vece Tryd.results19 _ _ (S + 2) (toldV true (fun i => a i * m)) rfl HST.out) rfl ⟨?_, HBF.out⟩
  rw [HOK.out, HM.out]
def fitB (a b : Nat → Int) : Bool := decide (a 0 ≤ b 0) && decide (a 1 ≤ b 1) && decide (a 2 ≤ b 2) && decide (a 3 ≤ b 3)
theorem fits_any (a b : Nat → Int) (w : World) :
    Calls Tryd.prog 12 #[.agg #[.int .i64 (a 0), .int .i64 (a 1), .int .i64 (a 2), .int .i64 (a 3)], .agg #[.int .i64 (b 0), .int .i64 (b 1), .int .i64 (b 2), .int .i64 (b 3)]] w fun e w' => e = .returned (.bool (fitB a b)) ∧ Below w.heap.size w w' := by
  obtain ⟨S, hS⟩ : ∃ S, S = w.heap.size := ⟨_, rfl⟩
  obtain ⟨w1, hw1⟩ : ∃ x, x = ((w.alloc (.cells #[.int .i64 (a 0), .int .i64 (a 1), .int .i64 (a 2), .int .i64 (a 3)] 23)).alloc (.cells #[.int .i64 (b 0), .int .i64 (b 1), .int .i64 (b 2), .int .i64 (b 3)] 23)) := ⟨_, rfl⟩
  have HB_1 : Hid (Below w.heap.size w w1) := Lib.hid (by rw [hw1]; exact (((Below.refl w.heap.size w).alloc (by simp) _).alloc (by simp) _))
  have HS_1 : Hid (VAt w1 S a) := Lib.hid (by
    rw [hw1, hS]
    have h := heap_alloc_new w (.cells #[.int .i64 (a 0), .int .i64 (a 1), .int .i64 (a 2), .int .i64 (a 3)] 23)
    replace h := (Below.heap_alloc (w.alloc (.cells #[.int .i64 (a 0), .int .i64 (a 1), .int .i64 (a 2), .int .i64 (a 3)] 23)) (.cells #[.int .i64 (b 0), .int .i64 (b 1), .int .i64 (b 2), .int .i64 (b 3)] 23) _ (by simp)).trans h
    exact h)
  have HR_1 : Hid (VAt w1 (S + 1) b) := Lib.hid (by
    rw [hw1, hS]
    have h := heap_alloc_new (w.alloc (.cells #[.int .i64 (a 0), .int .i64 (a 1), .int .i64 (a 2), .int .i64 (a 3)] 23)) (.cells #[.int .i64 (b 0), .int .i64 (b 1), .int .i64 (b 2), .int .i64 (b 3)] 23)
    simp only [World.size_alloc] at h
    exact h)
  go_enter Tryd.func12, Tryd.ntmps12
  go_upto_region 1 with (fail)
  rw [← hw1, ← hS]
  clear hw1 hS
  go_wp2_with fail
  refine (vall_fits S (S + 1) (fun i => decide (a i ≤ b i)) w1 (fun k i hi => fits1 S (S + 1) i a b _ hi (HS_1.out.drewN k) (HR_1.out.drewN k))).mono ?_
  rintro e w' ⟨rfl, n, rfl⟩
  have HB' := Lib.hid (below_drewN HB_1.out n)
  go_wp2_with fail
  go_ret
  exact ⟨rfl, HB'.out⟩
set_option maxRecDepth 100000 in
theorem least_any (a b : Nat → Int) (w : World) :
    Calls Tryd.prog 14 #[.agg #[.int .i64 (a 0), .int .i64 (a 1), .int .i64 (a 2), .int .i64 (a 3)], .agg #[.int .i64 (b 0), .int .i64 (b 1), .int .i64 (b 2), .int .i64 (b 3)]] w fun e w' => e = .returned (.agg #[.int .i64 (min (a 0) (b 0)), .int .i64 (min (a 1) (b 1)), .int .i64 (min (a 2) (b 2)), .int .i64 (min (a 3) (b 3))]) ∧ Below w.heap.size w w' := by
  obtain ⟨S, hS⟩ : ∃ S, S = w.heap.size := ⟨_, rfl⟩
  obtain ⟨w1, hw1⟩ : ∃ x, x = (((w.alloc (.cells #[.int .i64 (a 0), .int .i64 (a 1), .int .i64 (a 2), .int .i64 (a 3)] 23)).alloc (.cells #[.int .i64 (b 0), .int .i64 (b 1), .int .i64 (b 2), .int .i64 (b 3)] 23)).alloc (.cells #[.int .i64 0, .int .i64 0, .int .i64 0, .int .i64 0] 23)) := ⟨_, rfl⟩
  have HB_1 : Hid (Below w.heap.size w w1) := Lib.hid (by rw [hw1]; exact ((((Below.refl w.heap.size w).alloc (by simp) _).alloc (by simp) _).alloc (by simp; omega) _))
  have HS_1 : Hid (VAt w1 S a) := Lib.hid (by
    rw [hw1, hS]
    have h := heap_alloc_new w (.cells #[.int .i64 (a 0), .int .i64 (a 1), .int .i64 (a 2), .int .i64 (a 3)] 23)
    replace h := (Below.heap_alloc (w.alloc (.cells #[.int .i64 (a 0), .int .i64 (a 1), .int .i64 (a 2), .int .i64 (a 3)] 23)) (.cells #[.int .i64 (b 0), .int .i64 (b 1), .int .i64 (b 2), .int .i64 (b 3)] 23) _ (by simp)).trans h
    replace h := (Below.heap_alloc ((w.alloc (.cells #[.int .i64 (a 0), .int .i64 (a 1), .int .i64 (a 2), .int .i64 (a 3)] 23)).alloc (.cells #[.int .i64 (b 0), .int .i64 (b 1), .int .i64 (b 2), .int .i64 (b 3)] 23)) (.cells #[.int .i64 0, .int .i64 0, .int .i64 0, .int .i64 0] 23) _ (by simp; omega)).trans h
    exact h)
  have HR_1 : Hid (VAt w1 (S + 1) b) := Lib.hid (by
    rw [hw1, hS]
    have h := heap_alloc_new (w.alloc (.cells #[.int .i64 (a 0), .int .i64 (a 1), .int .i64 (a 2), .int .i64 (a 3)] 23)) (.cells #[.int .i64 (b 0), .int .i64 (b 1), .int .i64 (b 2), .int .i64 (b 3)] 23)
    simp only [World.size_alloc] at h
    replace h := (Below.heap_alloc ((w.alloc (.cells #[.int .i64 (a 0), .int .i64 (a 1), .int .i64 (a 2), .int .i64 (a 3)] 23)).alloc (.cells #[.int .i64 (b 0), .int .i64 (b 1), .int .i64 (b 2), .int .i64 (b 3)] 23)) (.cells #[.int .i64 0, .int .i64 0, .int .i64 0, .int .i64 0] 23) _ (by simp)).trans h
    exact h)
  have HT_1 : Hid (VAt w1 (S + 2) (fun _ => 0)) := Lib.hid (by
    rw [hw1, hS]
    have h := heap_alloc_new ((w.alloc (.cells #[.int .i64 (a 0), .int .i64 (a 1), .int .i64 (a 2), .int .i64 (a 3)] 23)).alloc (.cells #[.int .i64 (b 0), .int .i64 (b 1), .int .i64 (b 2), .int .i64 (b 3)] 23)) (.cells #[.int .i64 0, .int .i64 0, .int .i64 0, .int .i64 0] 23)
    simp only [World.size_alloc] at h
    exact h)
  have HS := Lib.hid hS
  go_enter Tryd.func14, Tryd.ntmps14
  go_upto_region 1 with (fail)
  rw [← hw1, ← hS]
  clear hw1 hS
  go_wp2_with fail
  refine (each_least S (S + 1) (fun i => min (a i) (b i)) w1 (fun wr i hi hb => least1 i wr hi S (S + 1) a b (HS_1.out.below hb (ltb HS_1.out)) (HR_1.out.below hb (ltb HR_1.out)))).mono ?_
  rintro e w2 ⟨rfl, hb⟩
  have HT_2 := Lib.hid (HT_1.out.below hb (ltb HT_1.out))
  have HB_2 := Lib.hid (HB_1.out.trans (hb.mono HB_1.out.size))
  clear hb HT_1 HB_1
  have HST : Hid (VAt (w2.setRow (S + 2) #[.int .i64 (min (a 0) (b 0)), .int .i64 (min (a 1) (b 1)), .int .i64 (min (a 2) (b 2)), .int .i64 (min (a 3) (b 3))]) (S + 2) (fun i => min (a i) (b i))) := Lib.hid (setRow_heap w2 (S + 2) _ _ _ _ HT_2.out)
  have HBF : Hid (Below w.heap.size w (w2.setRow (S + 2) #[.int .i64 (min (a 0) (b 0)), .int .i64 (min (a 1) (b 1)), .int .i64 (min (a 2) (b 2)), .int .i64 (min (a 3) (b 3))])) := Lib.hid (HB_2.out.trans (((Chg.refl (fun k => k = S + 2) w2).setRow (.inr rfl) _).below HB_2.out.size (fun k hk e => by have := HS.out; omega)))
  go_wp2_with (refine wpList_store_row rfl 23 (.tmp 4) (.tmp 6) rfl (S + 2) _ rfl rfl 23 _ HT_2.out (by kernel_rfl) rfl (by simp [Value.oneCell']) ?_)
  exact bodyPost_ret (v := .agg #[.int .i64 (min (a 0) (b 0)), .int .i64 (min (a 1) (b 1)), .int .i64 (min (a 2) (b 2)), .int .i64 (min (a 3) (b 3))]) (results_vec Tryd.results14 _ _ (S + 2) (fun i => min (a i) (b i)) rfl HST.out) rfl ⟨rfl, HBF.out⟩
set_option maxRecDepth 100000 in
theorem rleast_any (a b : Nat → Int) (w : World) :
    Calls Tryd.prog 15 #[.agg #[.int .i64 (a 0), .int .i64 (a 1), .int .i64 (a 2), .int .i64 (a 3)], .agg #[.int .i64 (b 0), .int .i64 (b 1), .int .i64 (b 2), .int .i64 (b 3)]] w fun e w' => e = .returned (.agg #[.int .i64 (min (a 0) (b 0)), .int .i64 (min (a 1) (b 1)), .int .i64 (min (a 2) (b 2)), .int .i64 (min (a 3) (b 3))]) ∧ Below w.heap.size w w' := by
  obtain ⟨S, hS⟩ : ∃ S, S = w.heap.size := ⟨_, rfl⟩
  obtain ⟨w1, hw1⟩ : ∃ x, x = (((w.alloc (.cells #[.int .i64 (a 0), .int .i64 (a 1), .int .i64 (a 2), .int .i64 (a 3)] 23)).alloc (.cells #[.int .i64 (b 0), .int .i64 (b 1), .int .i64 (b 2), .int .i64 (b 3)] 23)).alloc (.cells #[.int .i64 0, .int .i64 0, .int .i64 0, .int .i64 0] 23)) := ⟨_, rfl⟩
  have HB_1 : Hid (Below w.heap.size w w1) := Lib.hid (by rw [hw1]; exact ((((Below.refl w.heap.size w).alloc (by simp) _).alloc (by simp) _).alloc (by simp; omega) _))
  have HS_1 : Hid (VAt w1 S a) := Lib.hid (by
    rw [hw1, hS]
    have h := heap_alloc_new w (.cells #[.int .i64 (a 0), .int .i64 (a 1), .int .i64 (a 2), .int .i64 (a 3)] 23)
    replace h := (Below.heap_alloc (w.alloc (.cells #[.int .i64 (a 0), .int .i64 (a 1), .int .i64 (a 2), .int .i64 (a 3)] 23)) (.cells #[.int .i64 (b 0), .int .i64 (b 1), .int .i64 (b 2), .int .i64 (b 3)] 23) _ (by simp)).trans h
    replace h := (Below.heap_alloc ((w.alloc (.cells #[.int .i64 (a 0), .int .i64 (a 1), .int .i64 (a 2), .int .i64 (a 3)] 23)).alloc (.cells #[.int .i64 (b 0), .int .i64 (b 1), .int .i64 (b 2), .int .i64 (b 3)] 23)) (.cells #[.int .i64 0, .int .i64 0, .int .i64 0, .int .i64 0] 23) _ (by simp; omega)).trans h
    exact h)
  have HR_1 : Hid (VAt w1 (S + 1) b) := Lib.hid (by
    rw [hw1, hS]
    have h := heap_alloc_new (w.alloc (.cells #[.int .i64 (a 0), .int .i64 (a 1), .int .i64 (a 2), .int .i64 (a 3)] 23)) (.cells #[.int .i64 (b 0), .int .i64 (b 1), .int .i64 (b 2), .int .i64 (b 3)] 23)
    simp only [World.size_alloc] at h
    replace h := (Below.heap_alloc ((w.alloc (.cells #[.int .i64 (a 0), .int .i64 (a 1), .int .i64 (a 2), .int .i64 (a 3)] 23)).alloc (.cells #[.int .i64 (b 0), .int .i64 (b 1), .int .i64 (b 2), .int .i64 (b 3)] 23)) (.cells #[.int .i64 0, .int .i64 0, .int .i64 0, .int .i64 0] 23) _ (by simp)).trans h
    exact h)
  have HT_1 : Hid (VAt w1 (S + 2) (fun _ => 0)) := Lib.hid (by
    rw [hw1, hS]
    have h := heap_alloc_new ((w.alloc (.cells #[.int .i64 (a 0), .int .i64 (a 1), .int .i64 (a 2), .int .i64 (a 3)] 23)).alloc (.cells #[.int .i64 (b 0), .int .i64 (b 1), .int .i64 (b 2), .int .i64 (b 3)] 23)) (.cells #[.int .i64 0, .int .i64 0, .int .i64 0, .int .i64 0] 23)
    simp only [World.size_alloc] at h
    exact h)
  have HS := Lib.hid hS
  go_enter Tryd.func15, Tryd.ntmps15
  go_upto_region 1 with (fail)
  rw [← hw1, ← hS]
  clear hw1 hS
  have x0 : w1.cell? ⟨S, 0, none⟩ = some (.int .i64 (a 0)) := HS_1.out.cell (by decide)
  have y0 : w1.cell? ⟨S + 1, 0, none⟩ = some (.int .i64 (b 0)) := HR_1.out.cell (by decide)
  have x1 : w1.cell? ⟨S, 1, none⟩ = some (.int .i64 (a 1)) := HS_1.out.cell (by decide)
  have y1 : w1.cell? ⟨S + 1, 1, none⟩ = some (.int .i64 (b 1)) := HR_1.out.cell (by decide)
  have x2 : w1.cell? ⟨S, 2, none⟩ = some (.int .i64 (a 2)) := HS_1.out.cell (by decide)
  have y2 : w1.cell? ⟨S + 1, 2, none⟩ = some (.int .i64 (b 2)) := HR_1.out.cell (by decide)
  have x3 : w1.cell? ⟨S, 3, none⟩ = some (.int .i64 (a 3)) := HS_1.out.cell (by decide)
  have y3 : w1.cell? ⟨S + 1, 3, none⟩ = some (.int .i64 (b 3)) := HR_1.out.cell (by decide)
  have HST : Hid (VAt (w1.setRow (S + 2) #[.int .i64 (min (a 0) (b 0)), .int .i64 (min (a 1) (b 1)), .int .i64 (min (a 2) (b 2)), .int .i64 (min (a 3) (b 3))]) (S + 2) (fun i => min (a i) (b i))) := Lib.hid (setRow_heap w1 (S + 2) _ _ _ _ HT_1.out)
  have HBF : Hid (Below w.heap.size w (w1.setRow (S + 2) #[.int .i64 (min (a 0) (b 0)), .int .i64 (min (a 1) (b 1)), .int .i64 (min (a 2) (b 2)), .int .i64 (min (a 3) (b 3))])) := Lib.hid (HB_1.out.trans (((Chg.refl (fun k => k = S + 2) w1).setRow (.inr rfl) _).below HB_1.out.size (fun k hk e => by have := HS.out; omega)))
  go_wp2_with (refine wpList_store_row rfl 23 (.tmp 4) (.tmp 25) rfl (S + 2) _ rfl rfl 23 _ HT_1.out (by kernel_rfl) rfl (by simp [Value.oneCell']) ?_)
  exact bodyPost_ret (v := .agg #[.int .i64 (min (a 0) (b 0)), .int .i64 (min (a 1) (b 1)), .int .i64 (min (a 2) (b 2)), .int .i64 (min (a 3) (b 3))]) (results_vec Tryd.results15 _ _ (S + 2) (fun i => min (a i) (b i)) rfl HST.out) rfl ⟨rfl, HBF.out⟩
set_option maxHeartbeats 1000000 in
theorem rfits_any (a b : Nat → Int) (w : World) :
    Calls Tryd.prog 16 #[.agg #[.int .i64 (a 0), .int .i64 (a 1), .int .i64 (a 2), .int .i64 (a 3)], .agg #[.int .i64 (b 0), .int .i64 (b 1), .int .i64 (b 2), .int .i64 (b 3)]] w fun e w' => e = .returned (.bool (fitB a b)) ∧ Below w.heap.size w w' := by
  obtain ⟨S, hS⟩ : ∃ S, S = w.heap.size := ⟨_, rfl⟩
  obtain ⟨w1, hw1⟩ : ∃ x, x = ((w.alloc (.cells #[.int .i64 (a 0), .int .i64 (a 1), .int .i64 (a 2), .int .i64 (a 3)] 23)).alloc (.cells #[.int .i64 (b 0), .int .i64 (b 1), .int .i64 (b 2), .int .i64 (b 3)] 23)) := ⟨_, rfl⟩
  have HB_1 : Hid (Below w.heap.size w w1) := Lib.hid (by rw [hw1]; exact (((Below.refl w.heap.size w).alloc (by simp) _).alloc (by simp) _))
  have HS_1 : Hid (VAt w1 S a) := Lib.hid (by
    rw [hw1, hS]
    have h := heap_alloc_new w (.cells #[.int .i64 (a 0), .int .i64 (a 1), .int .i64 (a 2), .int .i64 (a 3)] 23)
    replace h := (Below.heap_alloc (w.alloc (.cells #[.int .i64 (a 0), .int .i64 (a 1), .int .i64 (a 2), .int .i64 (a 3)] 23)) (.cells #[.int .i64 (b 0), .int .i64 (b 1), .int .i64 (b 2), .int .i64 (b 3)] 23) _ (by simp)).trans h
    exact h)
  have HR_1 : Hid (VAt w1 (S + 1) b) := Lib.hid (by
    rw [hw1, hS]
    have h := heap_alloc_new (w.alloc (.cells #[.int .i64 (a 0), .int .i64 (a 1), .int .i64 (a 2), .int .i64 (a 3)] 23)) (.cells #[.int .i64 (b 0), .int .i64 (b 1), .int .i64 (b 2), .int .i64 (b 3)] 23)
    simp only [World.size_alloc] at h
    exact h)
  have x0 : w1.cell? ⟨S, 0, none⟩ = some (.int .i64 (a 0)) := HS_1.out.cell (by decide)
  have y0 : w1.cell? ⟨S + 1, 0, none⟩ = some (.int .i64 (b 0)) := HR_1.out.cell (by decide)
  have x1 : w1.cell? ⟨S, 1, none⟩ = some (.int .i64 (a 1)) := HS_1.out.cell (by decide)
  have y1 : w1.cell? ⟨S + 1, 1, none⟩ = some (.int .i64 (b 1)) := HR_1.out.cell (by decide)
  have x2 : w1.cell? ⟨S, 2, none⟩ = some (.int .i64 (a 2)) := HS_1.out.cell (by decide)
  have y2 : w1.cell? ⟨S + 1, 2, none⟩ = some (.int .i64 (b 2)) := HR_1.out.cell (by decide)
  have x3 : w1.cell? ⟨S, 3, none⟩ = some (.int .i64 (a 3)) := HS_1.out.cell (by decide)
  have y3 : w1.cell? ⟨S + 1, 3, none⟩ = some (.int .i64 (b 3)) := HR_1.out.cell (by decide)
  clear HS_1 HR_1
  unfold fitB
  have key : ¬ a 0 ≤ b 0 ∨ (a 0 ≤ b 0 ∧ ¬ a 1 ≤ b 1) ∨ (a 0 ≤ b 0 ∧ a 1 ≤ b 1 ∧ ¬ a 2 ≤ b 2) ∨ (a 0 ≤ b 0 ∧ a 1 ≤ b 1 ∧ a 2 ≤ b 2 ∧ ¬ a 3 ≤ b 3) ∨ (a 0 ≤ b 0 ∧ a 1 ≤ b 1 ∧ a 2 ≤ b 2 ∧ a 3 ≤ b 3) := by omega
  rcases key with h1 | ⟨h1, h2⟩ | ⟨h1, h2, h3⟩ | ⟨h1, h2, h3, h4⟩ | ⟨h1, h2, h3, h4⟩
  all_goals
    go_enter Tryd.func16, Tryd.ntmps16
    go_upto_region 1 with (fail)
    rw [← hw1, ← hS]
    clear hw1 hS
    go_wp2_with fail
    go_ret
    exact ⟨by simp [*] <;> omega, HB_1.out⟩
end Go.Proofs.YtfbmjejkhnopiaaDoor
