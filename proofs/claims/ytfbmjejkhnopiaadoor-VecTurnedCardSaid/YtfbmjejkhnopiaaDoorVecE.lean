/- What fits; sums turned; so many times. -/
import Derived.Test.YtfbmjejkhnopiaaDoorVecD
namespace Go.Proofs.YtfbmjejkhnopiaaDoor
open Go.RowKit

def lst (a b : Nat → Int) : Nat → Int := fun i => min (a i) (b i)
theorem fit_l (a b : Nat → Int) : fitB (lst a b) a = true := by simp [fitB, lst, Int.min_le_left]
theorem fit_r (a b : Nat → Int) : fitB (lst a b) b = true := by simp [fitB, lst, Int.min_le_right]
theorem fit_eq (a b : Nat → Int) : (lst a b 0 == a 0 && lst a b 1 == a 1 && lst a b 2 == a 2 && lst a b 3 == a 3) = fitB a b := by
  rw [Bool.eq_iff_iff]; simp [fitB, lst]; omega

set_option maxRecDepth 100000 in
set_option maxHeartbeats 8000000 in
theorem law_fits (a b : Nat → Int) (w : World) (htab : Lib.TabBelow Tryd.prog w.heap.size w "internal/strconv.uint64pow10" .u64 Lib.pow10Tab)  : Calls Tryd.prog 4 #[.agg #[.int .i64 (a 0), .int .i64 (a 1), .int .i64 (a 2), .int .i64 (a 3)], .agg #[.int .i64 (b 0), .int .i64 (b 1), .int .i64 (b 2), .int .i64 (b 3)]] w fun e w' => e = .returned (.bool true) ∧ Below w.heap.size w w' := by
  obtain ⟨S, hS⟩ : ∃ S, S = w.heap.size := ⟨_, rfl⟩
  obtain ⟨w1, hw1⟩ : ∃ x, x = ((w.alloc (.cells #[.int .i64 (a 0), .int .i64 (a 1), .int .i64 (a 2), .int .i64 (a 3)] 23)).alloc (.cells #[.int .i64 (b 0), .int .i64 (b 1), .int .i64 (b 2), .int .i64 (b 3)] 23)) := ⟨_, rfl⟩
  have HB_1 : Hid (Below w.heap.size w w1) := Lib.hid (by rw [hw1]; exact (((Below.refl w.heap.size w).alloc (by simp) _).alloc (by simp) _))
  have HAX_1 : Hid (VAt w1 S a) := Lib.hid (by
    rw [hw1, hS]
    have h := heap_alloc_new w (.cells #[.int .i64 (a 0), .int .i64 (a 1), .int .i64 (a 2), .int .i64 (a 3)] 23)
    replace h := (Below.heap_alloc (w.alloc (.cells #[.int .i64 (a 0), .int .i64 (a 1), .int .i64 (a 2), .int .i64 (a 3)] 23)) (.cells #[.int .i64 (b 0), .int .i64 (b 1), .int .i64 (b 2), .int .i64 (b 3)] 23) _ (by simp)).trans h
    exact h)
  have HBX_1 : Hid (VAt w1 (S + 1) b) := Lib.hid (by
    rw [hw1, hS]
    have h := heap_alloc_new (w.alloc (.cells #[.int .i64 (a 0), .int .i64 (a 1), .int .i64 (a 2), .int .i64 (a 3)] 23)) (.cells #[.int .i64 (b 0), .int .i64 (b 1), .int .i64 (b 2), .int .i64 (b 3)] 23)
    simp only [World.size_alloc] at h
    exact h)
  have HTB_1 : Hid (Lib.TabBelow Tryd.prog w1.heap.size w1 "internal/strconv.uint64pow10" .u64 Lib.pow10Tab) := Lib.hid (tb_on htab HB_1.out)
  have HS := Lib.hid hS
  clear htab
  go_enter Tryd.func4, Tryd.ntmps4
  go_upto_region 1 with (fail)
  rw [← hw1, ← hS]
  clear hw1 hS
  go_wp2_with fail
  refine (awake_any w1 HTB_1.out).mono ?_
  rintro e w2 ⟨rfl, hb⟩
  have HB_2 : Hid (Below w.heap.size w w2) := Lib.hid (HB_1.out.trans (hb.mono HB_1.out.size))
  have HTB_2 : Hid (Lib.TabBelow Tryd.prog w2.heap.size w2 "internal/strconv.uint64pow10" .u64 Lib.pow10Tab) := Lib.hid (tb_on HTB_1.out hb)
  have HAX_2 : Hid (VAt w2 S a) := Lib.hid (HAX_1.out.below hb (ltb HAX_1.out))
  have HBX_2 : Hid (VAt w2 (S + 1) b) := Lib.hid (HBX_1.out.below hb (ltb HBX_1.out))
  clear hb HB_1 HTB_1 HAX_1 HBX_1
  clear HTB_2
  go_wp2_with (first | (refine wpList_load_row rfl 23 (.tmp 2) rfl (S) rfl 23 _ (0, 0) _ HAX_2.out Tryd.underlying23 rfl (by kernel_rfl) ?_) | (refine wpList_load_row rfl 23 (.tmp 3) rfl ((S + 1)) rfl 23 _ (0, 0) _ HBX_2.out Tryd.underlying23 rfl (by kernel_rfl) ?_))
  refine (least_any a b w2).mono ?_
  rintro e w3 ⟨rfl, hb⟩
  obtain ⟨l, hl⟩ : ∃ l, l = lst a b := ⟨_, rfl⟩
  have Hl := Lib.hid hl
  clear hl
  rw [show min (a 0) (b 0) = l 0 from by rw [Hl.out]; rfl, show min (a 1) (b 1) = l 1 from by rw [Hl.out]; rfl, show min (a 2) (b 2) = l 2 from by rw [Hl.out]; rfl, show min (a 3) (b 3) = l 3 from by rw [Hl.out]; rfl]
  have HB_3 : Hid (Below w.heap.size w w3) := Lib.hid (HB_2.out.trans (hb.mono HB_2.out.size))
  have HAX_3 : Hid (VAt w3 S a) := Lib.hid (HAX_2.out.below hb (ltb HAX_2.out))
  have HBX_3 : Hid (VAt w3 (S + 1) b) := Lib.hid (HBX_2.out.below hb (ltb HBX_2.out))
  clear hb HB_2 HAX_2 HBX_2
  obtain ⟨P6, hP6⟩ : ∃ x, x = w3.heap.size := ⟨_, rfl⟩
  have hal : Below w3.heap.size w3 (w3.alloc (.cells #[.int .i64 (l 0), .int .i64 (l 1), .int .i64 (l 2), .int .i64 (l 3)] 23)) := (Below.refl _ _).alloc (Nat.le_refl _) _
  have hnew : (w3.alloc (.cells #[.int .i64 (l 0), .int .i64 (l 1), .int .i64 (l 2), .int .i64 (l 3)] 23)).heap[P6]? = some (.cells #[.int .i64 (l 0), .int .i64 (l 1), .int .i64 (l 2), .int .i64 (l 3)] 23 (0, 0)) := by rw [hP6]; exact heap_alloc_new _ _
  have HB_4 : Hid (Below w.heap.size w (w3.alloc (.cells #[.int .i64 (l 0), .int .i64 (l 1), .int .i64 (l 2), .int .i64 (l 3)] 23))) := Lib.hid (HB_3.out.trans (hal.mono HB_3.out.size))
  have HAX_4 : Hid (VAt (w3.alloc (.cells #[.int .i64 (l 0), .int .i64 (l 1), .int .i64 (l 2), .int .i64 (l 3)] 23)) S a) := Lib.hid (HAX_3.out.below hal (ltb HAX_3.out))
  have HBX_4 : Hid (VAt (w3.alloc (.cells #[.int .i64 (l 0), .int .i64 (l 1), .int .i64 (l 2), .int .i64 (l 3)] 23)) (S + 1) b) := Lib.hid (HBX_3.out.below hal (ltb HBX_3.out))
  clear hal HB_3 HAX_3 HBX_3
  have HP6_4 : Hid (VAt (w3.alloc (.cells #[.int .i64 (l 0), .int .i64 (l 1), .int .i64 (l 2), .int .i64 (l 3)] 23)) P6 l) := Lib.hid hnew
  clear hnew
  go_upto_region 5 with (refine wpList_store_row rfl 23 (.tmp 6) (.tmp 12) rfl w3.heap.size _ rfl rfl 23 _ (heap_alloc_new w3 _) (by kernel_rfl) rfl (by simp [Value.oneCell']) ?_; rw [World.setRow_alloc_new])
  rw [← hP6]
  clear hP6
  generalize w3.alloc (.cells #[.int .i64 (l 0), .int .i64 (l 1), .int .i64 (l 2), .int .i64 (l 3)] 23) = w4 at HB_4 HAX_4 HBX_4 HP6_4 ⊢
  have q1 : ∀ w, (Go.binOp .eql 23 (.agg #[.int .i64 (l 0), .int .i64 (l 1), .int .i64 (l 2), .int .i64 (l 3)]) (.agg #[.int .i64 (l 0), .int .i64 (l 1), .int .i64 (l 2), .int .i64 (l 3)])).run Tryd.prog w = .ok (.bool true) w := fun w => by rw [eq_vec2]; simp
  have q2 : ∀ w, (Go.binOp .eql 23 (.agg #[.int .i64 (l 0), .int .i64 (l 1), .int .i64 (l 2), .int .i64 (l 3)]) (.agg #[.int .i64 (a 0), .int .i64 (a 1), .int .i64 (a 2), .int .i64 (a 3)])).run Tryd.prog w = .ok (.bool (fitB a b)) w := fun w => by rw [eq_vec2, Hl.out, fit_eq]
  have FAX : VAt w4.drew S a := HAX_4.out
  have FBX : VAt w4.drew (S + 1) b := HBX_4.out
  have FP6 : VAt w4.drew P6 l := HP6_4.out
  have HB_5 : Hid (Below w.heap.size w w4.drew) := Lib.hid (HB_4.out.trans (((Below.refl w4.heap.size w4).drew).mono HB_4.out.size))
  clear HB_4 HAX_4 HBX_4 HP6_4
  refine wp_region_noPanic ?_
  refine wp_region_held_drew (S := fun w' => VAt w' S a ∧ VAt w' (S + 1) b ∧ VAt w' P6 l) (by kernel_rfl) ?_ (fun hHeld => ?_)
  · try dsimp only
    (refine ⟨?_, ?_, ?_⟩ <;> (first | with_reducible assumption))
  generalize w4.drew = w5 at *
  refine wpAnyH_take (i := 0) (v := ?_) (by (simp only [List.getElem?_toArray, List.getElem?_cons_zero]; rfl)) (by kernel_rfl) (by kernel_rfl) (by kernel_rfl) (fun _ _ _ h => h) (Or.inl ⟨by rfl, ?_⟩) (by assumption) ?_
  rotate_left
  · intro w hSw
    try dsimp only at hSw
    refine take_load (x := .tmp 6) (ty := 23) ?_ (P6) ?_ 23 _ (0, 0) _ hSw.2.2 Tryd.underlying23 rfl (by kernel_rfl)
    all_goals rfl
  try simp only [Act.put, List.setIfInBounds_toArray, List.set_cons_zero, List.set_cons_succ]
  refine wpAnyH_take (i := 1) (v := ?_) (by (simp only [List.getElem?_toArray, List.getElem?_cons_succ, List.getElem?_cons_zero]; rfl)) (by kernel_rfl) (by kernel_rfl) (by kernel_rfl) (fun _ _ _ h => h) (Or.inl ⟨by rfl, ?_⟩) (by assumption) ?_
  rotate_left
  · intro w hSw
    try dsimp only at hSw
    refine take_load (x := .tmp 2) (ty := 23) ?_ (S) ?_ 23 _ (0, 0) _ hSw.1 Tryd.underlying23 rfl (by kernel_rfl)
    all_goals rfl
  try simp only [Act.put, List.setIfInBounds_toArray, List.set_cons_zero, List.set_cons_succ]
  refine wpAnyH_take (i := 2) (v := ?_) (by (simp only [List.getElem?_toArray, List.getElem?_cons_succ, List.getElem?_cons_zero]; rfl)) (by kernel_rfl) (by kernel_rfl) (by kernel_rfl) (fun _ _ _ h => h) (Or.inl ⟨by rfl, ?_⟩) (by assumption) ?_
  rotate_left
  · intro w hSw
    try dsimp only at hSw
    refine take_load (x := .tmp 3) (ty := 23) ?_ ((S + 1)) ?_ 23 _ (0, 0) _ hSw.2.1 Tryd.underlying23 rfl (by kernel_rfl)
    all_goals rfl
  try simp only [Act.put, List.setIfInBounds_toArray, List.set_cons_zero, List.set_cons_succ]
  refine wpAnyH_ready (rs := [3]) (by kernel_rfl) (by simp) ?_
  refine AllReadyH.cons (by (simp only [List.getElem?_toArray, List.getElem?_cons_succ, List.getElem?_cons_zero]; rfl)) (fun K hK => ?_) AllReadyH.nil
  go_simp
  refine (rleast_any a b w5).mono ?_
  rintro e w6 ⟨rfl, hb⟩
  rw [show min (a 0) (b 0) = l 0 from by rw [Hl.out]; rfl, show min (a 1) (b 1) = l 1 from by rw [Hl.out]; rfl, show min (a 2) (b 2) = l 2 from by rw [Hl.out]; rfl, show min (a 3) (b 3) = l 3 from by rw [Hl.out]; rfl]
  replace FAX : VAt w6 S a := FAX.below hb (ltb FAX)
  replace FBX : VAt w6 (S + 1) b := FBX.below hb (ltb FBX)
  replace FP6 : VAt w6 P6 l := FP6.below hb (ltb FP6)
  have HB_6 : Hid (Below w.heap.size w w6) := Lib.hid (HB_5.out.trans (hb.mono HB_5.out.size))
  clear hb HB_5
  refine hK.out _ _ ?_ (fun hHeld => ?_)
  · try dsimp only
    (refine ⟨?_, ?_, ?_⟩ <;> (first | with_reducible assumption))
  clear hK K
  try simp only [Act.put, List.setIfInBounds_toArray, List.set_cons_zero, List.set_cons_succ]
  refine wpAnyH_take (i := 4) (v := ?_) (by (simp only [List.getElem?_toArray, List.getElem?_cons_succ, List.getElem?_cons_zero]; rfl)) (by kernel_rfl) (by kernel_rfl) (by kernel_rfl) (fun _ _ _ h => h) (Or.inl ⟨by rfl, ?_⟩) (by assumption) ?_
  rotate_left
  · (intro w hSw; (try dsimp only at hSw); go_simp; try with_reducible rfl)
  try simp only [Act.put, List.setIfInBounds_toArray, List.set_cons_zero, List.set_cons_succ]
  refine wpAnyH_take (i := 5) (v := ?_) (by (simp only [List.getElem?_toArray, List.getElem?_cons_succ, List.getElem?_cons_zero]; rfl)) (by kernel_rfl) (by kernel_rfl) (by kernel_rfl) (fun _ _ _ h => h) (Or.inl ⟨by rfl, ?_⟩) (by assumption) ?_
  rotate_left
  · (intro w hSw; (try dsimp only at hSw); go_simp; try with_reducible rfl)
  try simp only [Act.put, List.setIfInBounds_toArray, List.set_cons_zero, List.set_cons_succ]
  refine wpAnyH_take (i := 6) (v := ?_) (by (simp only [List.getElem?_toArray, List.getElem?_cons_succ, List.getElem?_cons_zero]; rfl)) (by kernel_rfl) (by kernel_rfl) (by kernel_rfl) (fun _ _ _ h => h) (Or.inl ⟨by rfl, ?_⟩) (by assumption) ?_
  rotate_left
  · intro w hSw
    try dsimp only at hSw
    refine take_load (x := .tmp 2) (ty := 23) ?_ (S) ?_ 23 _ (0, 0) _ hSw.1 Tryd.underlying23 rfl (by kernel_rfl)
    all_goals rfl
  try simp only [Act.put, List.setIfInBounds_toArray, List.set_cons_zero, List.set_cons_succ]
  refine wpAnyH_take (i := 7) (v := ?_) (by (simp only [List.getElem?_toArray, List.getElem?_cons_succ, List.getElem?_cons_zero]; rfl)) (by kernel_rfl) (by kernel_rfl) (by kernel_rfl) (fun _ _ _ h => h) (Or.inl ⟨by rfl, ?_⟩) (by assumption) ?_
  rotate_left
  · intro w hSw
    try dsimp only at hSw
    refine take_load (x := .tmp 3) (ty := 23) ?_ ((S + 1)) ?_ 23 _ (0, 0) _ hSw.2.1 Tryd.underlying23 rfl (by kernel_rfl)
    all_goals rfl
  try simp only [Act.put, List.setIfInBounds_toArray, List.set_cons_zero, List.set_cons_succ]
  refine wpAnyH_take (i := 9) (v := ?_) (by (simp only [List.getElem?_toArray, List.getElem?_cons_succ, List.getElem?_cons_zero]; rfl)) (by kernel_rfl) (by kernel_rfl) (by kernel_rfl) (fun _ _ _ h => h) (Or.inl ⟨by rfl, ?_⟩) (by assumption) ?_
  rotate_left
  · intro w hSw
    try dsimp only at hSw
    refine take_load (x := .tmp 2) (ty := 23) ?_ (S) ?_ 23 _ (0, 0) _ hSw.1 Tryd.underlying23 rfl (by kernel_rfl)
    all_goals rfl
  try simp only [Act.put, List.setIfInBounds_toArray, List.set_cons_zero, List.set_cons_succ]
  refine wpAnyH_take (i := 10) (v := ?_) (by (simp only [List.getElem?_toArray, List.getElem?_cons_succ, List.getElem?_cons_zero]; rfl)) (by kernel_rfl) (by kernel_rfl) (by kernel_rfl) (fun _ _ _ h => h) (Or.inl ⟨by rfl, ?_⟩) (by assumption) ?_
  rotate_left
  · intro w hSw
    try dsimp only at hSw
    refine take_load (x := .tmp 3) (ty := 23) ?_ ((S + 1)) ?_ 23 _ (0, 0) _ hSw.2.1 Tryd.underlying23 rfl (by kernel_rfl)
    all_goals rfl
  try simp only [Act.put, List.setIfInBounds_toArray, List.set_cons_zero, List.set_cons_succ]
  refine wpAnyH_ready (rs := [8]) (by kernel_rfl) (by simp) ?_
  refine AllReadyH.cons (by (simp only [List.getElem?_toArray, List.getElem?_cons_succ, List.getElem?_cons_zero]; rfl)) (fun K hK => ?_) AllReadyH.nil
  go_simp
  refine (fits_any a b w6).mono ?_
  rintro e w7 ⟨rfl, hb⟩
  replace FAX : VAt w7 S a := FAX.below hb (ltb FAX)
  replace FBX : VAt w7 (S + 1) b := FBX.below hb (ltb FBX)
  replace FP6 : VAt w7 P6 l := FP6.below hb (ltb FP6)
  have HB_7 : Hid (Below w.heap.size w w7) := Lib.hid (HB_6.out.trans (hb.mono HB_6.out.size))
  clear hb HB_6
  refine hK.out _ _ ?_ (fun hHeld => ?_)
  · try dsimp only
    (refine ⟨?_, ?_, ?_⟩ <;> (first | with_reducible assumption))
  clear hK K
  try simp only [Act.put, List.setIfInBounds_toArray, List.set_cons_zero, List.set_cons_succ]
  refine wpAnyH_ready (rs := [11]) (by kernel_rfl) (by simp) ?_
  refine AllReadyH.cons (by (simp only [List.getElem?_toArray, List.getElem?_cons_succ, List.getElem?_cons_zero]; rfl)) (fun K hK => ?_) AllReadyH.nil
  go_simp
  refine (rfits_any a b w7).mono ?_
  rintro e w8 ⟨rfl, hb⟩
  replace FAX : VAt w8 S a := FAX.below hb (ltb FAX)
  replace FBX : VAt w8 (S + 1) b := FBX.below hb (ltb FBX)
  replace FP6 : VAt w8 P6 l := FP6.below hb (ltb FP6)
  have HB_8 : Hid (Below w.heap.size w w8) := Lib.hid (HB_7.out.trans (hb.mono HB_7.out.size))
  clear hb HB_7
  refine hK.out _ _ ?_ (fun hHeld => ?_)
  · try dsimp only
    (refine ⟨?_, ?_, ?_⟩ <;> (first | with_reducible assumption))
  clear hK K
  try simp only [Act.put, List.setIfInBounds_toArray, List.set_cons_zero, List.set_cons_succ]
  refine wpAnyH_take (i := 12) (v := ?_) (by (simp only [List.getElem?_toArray, List.getElem?_cons_succ, List.getElem?_cons_zero]; rfl)) (by kernel_rfl) (by kernel_rfl) (by kernel_rfl) (fun _ _ _ h => h) (Or.inl ⟨by rfl, ?_⟩) (by assumption) ?_
  rotate_left
  · (intro w hSw; (try dsimp only at hSw); go_simp; try with_reducible rfl)
  try simp only [Act.put, List.setIfInBounds_toArray, List.set_cons_zero, List.set_cons_succ]
  refine wpAnyH_take (i := 13) (v := ?_) (by (simp only [List.getElem?_toArray, List.getElem?_cons_succ, List.getElem?_cons_zero]; rfl)) (by kernel_rfl) (by kernel_rfl) (by kernel_rfl) (fun _ _ _ h => h) (Or.inl ⟨by rfl, ?_⟩) (by assumption) ?_
  rotate_left
  · (intro w hSw; (try dsimp only at hSw); go_simp; try with_reducible rfl)
  try simp only [Act.put, List.setIfInBounds_toArray, List.set_cons_zero, List.set_cons_succ]
  refine wpAnyH_take (i := 14) (v := ?_) (by (simp only [List.getElem?_toArray, List.getElem?_cons_succ, List.getElem?_cons_zero]; rfl)) (by kernel_rfl) (by kernel_rfl) (by kernel_rfl) (fun _ _ _ h => h) (Or.inl ⟨by rfl, ?_⟩) (by assumption) ?_
  rotate_left
  · (intro w hSw; (try dsimp only at hSw); go_simp; try with_reducible rfl)
  try simp only [Act.put, List.setIfInBounds_toArray, List.set_cons_zero, List.set_cons_succ]
  refine wpAnyH_take (i := 15) (v := ?_) (by (simp only [List.getElem?_toArray, List.getElem?_cons_succ, List.getElem?_cons_zero]; rfl)) (by kernel_rfl) (by kernel_rfl) (by kernel_rfl) (fun _ _ _ h => h) (Or.inl ⟨by rfl, ?_⟩) (by assumption) ?_
  rotate_left
  · intro w hSw
    try dsimp only at hSw
    refine take_load (x := .tmp 6) (ty := 23) ?_ (P6) ?_ 23 _ (0, 0) _ hSw.2.2 Tryd.underlying23 rfl (by kernel_rfl)
    all_goals rfl
  try simp only [Act.put, List.setIfInBounds_toArray, List.set_cons_zero, List.set_cons_succ]
  refine wpAnyH_take (i := 16) (v := ?_) (by (simp only [List.getElem?_toArray, List.getElem?_cons_succ, List.getElem?_cons_zero]; rfl)) (by kernel_rfl) (by kernel_rfl) (by kernel_rfl) (fun _ _ _ h => h) (Or.inl ⟨by rfl, ?_⟩) (by assumption) ?_
  rotate_left
  · intro w hSw
    try dsimp only at hSw
    refine take_load (x := .tmp 2) (ty := 23) ?_ (S) ?_ 23 _ (0, 0) _ hSw.1 Tryd.underlying23 rfl (by kernel_rfl)
    all_goals rfl
  try simp only [Act.put, List.setIfInBounds_toArray, List.set_cons_zero, List.set_cons_succ]
  refine wpAnyH_ready (rs := [17]) (by kernel_rfl) (by simp) ?_
  refine AllReadyH.cons (by (simp only [List.getElem?_toArray, List.getElem?_cons_succ, List.getElem?_cons_zero]; rfl)) (fun K hK => ?_) AllReadyH.nil
  go_simp
  refine (fits_any l a w8).mono ?_
  rintro e w9 ⟨rfl, hb⟩
  rw [show fitB l a = true from by rw [Hl.out]; exact fit_l a b]
  replace FAX : VAt w9 S a := FAX.below hb (ltb FAX)
  replace FBX : VAt w9 (S + 1) b := FBX.below hb (ltb FBX)
  replace FP6 : VAt w9 P6 l := FP6.below hb (ltb FP6)
  have HB_9 : Hid (Below w.heap.size w w9) := Lib.hid (HB_8.out.trans (hb.mono HB_8.out.size))
  clear hb HB_8
  refine hK.out _ _ ?_ (fun hHeld => ?_)
  · try dsimp only
    (refine ⟨?_, ?_, ?_⟩ <;> (first | with_reducible assumption))
  clear hK K
  try simp only [Act.put, List.setIfInBounds_toArray, List.set_cons_zero, List.set_cons_succ]
  refine wpAnyH_take (i := 18) (v := ?_) (by (simp only [List.getElem?_toArray, List.getElem?_cons_succ, List.getElem?_cons_zero]; rfl)) (by kernel_rfl) (by kernel_rfl) (by kernel_rfl) (fun _ _ _ h => h) (Or.inl ⟨by rfl, ?_⟩) (by assumption) ?_
  rotate_left
  · (intro w hSw; (try dsimp only at hSw); go_simp; try with_reducible rfl)
  try simp only [Act.put, List.setIfInBounds_toArray, List.set_cons_zero, List.set_cons_succ]
  refine wpAnyH_take (i := 19) (v := ?_) (by (simp only [List.getElem?_toArray, List.getElem?_cons_succ, List.getElem?_cons_zero]; rfl)) (by kernel_rfl) (by kernel_rfl) (by kernel_rfl) (fun _ _ _ h => h) (Or.inl ⟨by rfl, ?_⟩) (by assumption) ?_
  rotate_left
  · (intro w hSw; (try dsimp only at hSw); go_simp; try with_reducible rfl)
  try simp only [Act.put, List.setIfInBounds_toArray, List.set_cons_zero, List.set_cons_succ]
  refine wpAnyH_take (i := 20) (v := ?_) (by (simp only [List.getElem?_toArray, List.getElem?_cons_succ, List.getElem?_cons_zero]; rfl)) (by kernel_rfl) (by kernel_rfl) (by kernel_rfl) (fun _ _ _ h => h) (Or.inl ⟨by rfl, ?_⟩) (by assumption) ?_
  rotate_left
  · intro w hSw
    try dsimp only at hSw
    refine take_load (x := .tmp 6) (ty := 23) ?_ (P6) ?_ 23 _ (0, 0) _ hSw.2.2 Tryd.underlying23 rfl (by kernel_rfl)
    all_goals rfl
  try simp only [Act.put, List.setIfInBounds_toArray, List.set_cons_zero, List.set_cons_succ]
  refine wpAnyH_take (i := 21) (v := ?_) (by (simp only [List.getElem?_toArray, List.getElem?_cons_succ, List.getElem?_cons_zero]; rfl)) (by kernel_rfl) (by kernel_rfl) (by kernel_rfl) (fun _ _ _ h => h) (Or.inl ⟨by rfl, ?_⟩) (by assumption) ?_
  rotate_left
  · intro w hSw
    try dsimp only at hSw
    refine take_load (x := .tmp 3) (ty := 23) ?_ ((S + 1)) ?_ 23 _ (0, 0) _ hSw.2.1 Tryd.underlying23 rfl (by kernel_rfl)
    all_goals rfl
  try simp only [Act.put, List.setIfInBounds_toArray, List.set_cons_zero, List.set_cons_succ]
  refine wpAnyH_ready (rs := [22]) (by kernel_rfl) (by simp) ?_
  refine AllReadyH.cons (by (simp only [List.getElem?_toArray, List.getElem?_cons_succ, List.getElem?_cons_zero]; rfl)) (fun K hK => ?_) AllReadyH.nil
  go_simp
  refine (fits_any l b w9).mono ?_
  rintro e w10 ⟨rfl, hb⟩
  rw [show fitB l b = true from by rw [Hl.out]; exact fit_r a b]
  replace FAX : VAt w10 S a := FAX.below hb (ltb FAX)
  replace FBX : VAt w10 (S + 1) b := FBX.below hb (ltb FBX)
  replace FP6 : VAt w10 P6 l := FP6.below hb (ltb FP6)
  have HB_10 : Hid (Below w.heap.size w w10) := Lib.hid (HB_9.out.trans (hb.mono HB_9.out.size))
  clear hb HB_9
  refine hK.out _ _ ?_ (fun hHeld => ?_)
  · try dsimp only
    (refine ⟨?_, ?_, ?_⟩ <;> (first | with_reducible assumption))
  clear hK K
  try simp only [Act.put, List.setIfInBounds_toArray, List.set_cons_zero, List.set_cons_succ]
  refine wpAnyH_take (i := 23) (v := ?_) (by (simp only [List.getElem?_toArray, List.getElem?_cons_succ, List.getElem?_cons_zero]; rfl)) (by kernel_rfl) (by kernel_rfl) (by kernel_rfl) (fun _ _ _ h => h) (Or.inl ⟨by rfl, ?_⟩) (by assumption) ?_
  rotate_left
  · (intro w hSw; (try dsimp only at hSw); go_simp; try with_reducible rfl)
  try simp only [Act.put, List.setIfInBounds_toArray, List.set_cons_zero, List.set_cons_succ]
  refine wpAnyH_take (i := 24) (v := ?_) (by (simp only [List.getElem?_toArray, List.getElem?_cons_succ, List.getElem?_cons_zero]; rfl)) (by kernel_rfl) (by kernel_rfl) (by kernel_rfl) (fun _ _ _ h => h) (Or.inl ⟨by rfl, ?_⟩) (by assumption) ?_
  rotate_left
  · (intro w hSw; (try dsimp only at hSw); go_simp; try with_reducible rfl)
  try simp only [Act.put, List.setIfInBounds_toArray, List.set_cons_zero, List.set_cons_succ]
  refine wpAnyH_take (i := 25) (v := ?_) (by (simp only [List.getElem?_toArray, List.getElem?_cons_succ, List.getElem?_cons_zero]; rfl)) (by kernel_rfl) (by kernel_rfl) (by kernel_rfl) (fun _ _ _ h => h) (Or.inl ⟨by rfl, ?_⟩) (by assumption) ?_
  rotate_left
  · intro w hSw
    try dsimp only at hSw
    refine take_load (x := .tmp 2) (ty := 23) ?_ (S) ?_ 23 _ (0, 0) _ hSw.1 Tryd.underlying23 rfl (by kernel_rfl)
    all_goals rfl
  try simp only [Act.put, List.setIfInBounds_toArray, List.set_cons_zero, List.set_cons_succ]
  refine wpAnyH_take (i := 26) (v := ?_) (by (simp only [List.getElem?_toArray, List.getElem?_cons_succ, List.getElem?_cons_zero]; rfl)) (by kernel_rfl) (by kernel_rfl) (by kernel_rfl) (fun _ _ _ h => h) (Or.inl ⟨by rfl, ?_⟩) (by assumption) ?_
  rotate_left
  · intro w hSw
    try dsimp only at hSw
    refine take_load (x := .tmp 3) (ty := 23) ?_ ((S + 1)) ?_ 23 _ (0, 0) _ hSw.2.1 Tryd.underlying23 rfl (by kernel_rfl)
    all_goals rfl
  try simp only [Act.put, List.setIfInBounds_toArray, List.set_cons_zero, List.set_cons_succ]
  refine wpAnyH_take (i := 28) (v := ?_) (by (simp only [List.getElem?_toArray, List.getElem?_cons_succ, List.getElem?_cons_zero]; rfl)) (by kernel_rfl) (by kernel_rfl) (by kernel_rfl) (fun _ _ _ h => h) (Or.inl ⟨by rfl, ?_⟩) (by assumption) ?_
  rotate_left
  · intro w hSw
    try dsimp only at hSw
    refine take_load (x := .tmp 6) (ty := 23) ?_ (P6) ?_ 23 _ (0, 0) _ hSw.2.2 Tryd.underlying23 rfl (by kernel_rfl)
    all_goals rfl
  try simp only [Act.put, List.setIfInBounds_toArray, List.set_cons_zero, List.set_cons_succ]
  refine wpAnyH_take (i := 29) (v := ?_) (by (simp only [List.getElem?_toArray, List.getElem?_cons_succ, List.getElem?_cons_zero]; rfl)) (by kernel_rfl) (by kernel_rfl) (by kernel_rfl) (fun _ _ _ h => h) (Or.inl ⟨by rfl, ?_⟩) (by assumption) ?_
  rotate_left
  · intro w hSw
    try dsimp only at hSw
    refine take_load (x := .tmp 2) (ty := 23) ?_ (S) ?_ 23 _ (0, 0) _ hSw.1 Tryd.underlying23 rfl (by kernel_rfl)
    all_goals rfl
  try simp only [Act.put, List.setIfInBounds_toArray, List.set_cons_zero, List.set_cons_succ]
  refine wpAnyH_take (i := 30) (v := ?_) (by (simp only [List.getElem?_toArray, List.getElem?_cons_succ, List.getElem?_cons_zero]; rfl)) (by kernel_rfl) (by kernel_rfl) (by kernel_rfl) (fun _ _ _ h => h) (Or.inl ⟨by rfl, ?_⟩) (by assumption) ?_
  rotate_left
  · (intro w hSw; (try dsimp only at hSw); go_simp; try with_reducible rfl)
  try simp only [Act.put, List.setIfInBounds_toArray, List.set_cons_zero, List.set_cons_succ]
  refine wpAnyH_ready (rs := [27]) (by kernel_rfl) (by simp) ?_
  refine AllReadyH.cons (by (simp only [List.getElem?_toArray, List.getElem?_cons_succ, List.getElem?_cons_zero]; rfl)) (fun K hK => ?_) AllReadyH.nil
  go_simp
  refine (fits_any a b w10).mono ?_
  rintro e w11 ⟨rfl, hb⟩
  replace FAX : VAt w11 S a := FAX.below hb (ltb FAX)
  replace FBX : VAt w11 (S + 1) b := FBX.below hb (ltb FBX)
  replace FP6 : VAt w11 P6 l := FP6.below hb (ltb FP6)
  have HB_11 : Hid (Below w.heap.size w w11) := Lib.hid (HB_10.out.trans (hb.mono HB_10.out.size))
  clear hb HB_10
  refine hK.out _ _ ?_ (fun hHeld => ?_)
  · try dsimp only
    (refine ⟨?_, ?_, ?_⟩ <;> (first | with_reducible assumption))
  clear hK K
  try simp only [Act.put, List.setIfInBounds_toArray, List.set_cons_zero, List.set_cons_succ]
  refine wpAnyH_take (i := 31) (v := ?_) (by (simp only [List.getElem?_toArray, List.getElem?_cons_succ, List.getElem?_cons_zero]; rfl)) (by kernel_rfl) (by kernel_rfl) (by kernel_rfl) (fun _ _ _ h => h) (Or.inl ⟨by rfl, ?_⟩) (by assumption) ?_
  rotate_left
  · (intro w hSw; (try dsimp only at hSw); go_simp; try with_reducible rfl)
  try simp only [Act.put, List.setIfInBounds_toArray, List.set_cons_zero, List.set_cons_succ]
  refine wpAnyH_take (i := 32) (v := ?_) (by (simp only [List.getElem?_toArray, List.getElem?_cons_succ, List.getElem?_cons_zero]; rfl)) (by kernel_rfl) (by kernel_rfl) (by kernel_rfl) (fun _ _ _ h => h) (Or.inl ⟨by rfl, ?_⟩) (by assumption) ?_
  rotate_left
  · (intro w hSw; (try dsimp only at hSw); go_simp; try with_reducible rfl)
  try simp only [Act.put, List.setIfInBounds_toArray, List.set_cons_zero, List.set_cons_succ]
  refine wpAnyH_take (i := 33) (v := ?_) (by (simp only [List.getElem?_toArray, List.getElem?_cons_succ, List.getElem?_cons_zero]; rfl)) (by kernel_rfl) (by kernel_rfl) (by kernel_rfl) (fun _ _ _ h => h) (Or.inl ⟨by rfl, ?_⟩) (by assumption) ?_
  rotate_left
  · (intro w hSw; (try dsimp only at hSw); go_simp; try with_reducible rfl)
  try simp only [Act.put, List.setIfInBounds_toArray, List.set_cons_zero, List.set_cons_succ]
  refine wpAnyH_done (by kernel_rfl) ?_ _
  refine NoPanic.normal ?_
  clear hHeld FAX FBX FP6
  clear q1 q2
  go_wp2_with fail
  go_ret
  exact ⟨by simp, HB_11.out⟩
theorem ne_vec2 (d e : Nat → Int) (w : World) : (Go.binOp .neq 23 (.agg #[.int .i64 (d 0), .int .i64 (d 1), .int .i64 (d 2), .int .i64 (d 3)]) (.agg #[.int .i64 (e 0), .int .i64 (e 1), .int .i64 (e 2), .int .i64 (e 3)])).run Tryd.prog w = .ok (.bool (!(d 0 == e 0 && d 1 == e 1 && d 2 == e 2 && d 3 == e 3))) w := by
  simp only [binOp]
  simp [Op.equal, Op.maxDepth, eq_vecs]
theorem toldV_comm (a b : Nat → Int) : toldV (okv b && okv a) (fun i => b i + a i) = toldV (okv a && okv b) (fun i => a i + b i) := by
  rw [Bool.and_comm, show (fun i => b i + a i) = (fun i => a i + b i) from funext fun i => Int.add_comm _ _]
theorem toldE_comm (a b : Nat → Int) (k : Int) : toldE (okv b && okv a) (fun i => b i + a i) k = toldE (okv a && okv b) (fun i => a i + b i) k := by
  rw [Bool.and_comm, show (fun i => b i + a i) = (fun i => a i + b i) from funext fun i => Int.add_comm _ _]
theorem told_ok {ok : Bool} {d : Nat → Int} (h : toldE ok d 30 = 0) : ok = true ∧ okv d = true ∧ toldV ok d = d := by
  unfold toldE at h
  cases ok
  · simp at h
  · cases hd : okv d
    · simp [hd] at h
    · exact ⟨rfl, rfl, by unfold toldV; simp [hd]⟩
theorem sub_back {a b : Nat → Int} (ha : okv a = true) (hb : okv b = true) (hs : okv (fun i => a i + b i) = true) :
    toldV (okv (fun i => a i + b i) && okv b) (fun i => (fun i => a i + b i) i - b i) = a ∧ toldE (okv (fun i => a i + b i) && okv b) (fun i => (fun i => a i + b i) i - b i) 31 = 0 := by
  have e : (fun i => (fun i => a i + b i) i - b i) = a := funext fun i => by show a i + b i - b i = a i; omega
  rw [e, hs, hb]
  exact ⟨funext fun i => by simp [toldV, ha], by simp [toldE, ha]⟩
theorem fit_sum {a b : Nat → Int} (hb : okv b = true) : fitB a (fun i => a i + b i) = true := by
  have h := fun i (hi : i < 4) => (okv_bd hb hi).1
  have h0 := h 0 (by decide); have h1 := h 1 (by decide); have h2 := h 2 (by decide); have h3 := h 3 (by decide)
  simp [fitB]; omega
theorem fit_same (a b c : Nat → Int) : fitB (fun i => a i + c i) (fun i => b i + c i) = fitB a b := by
  rw [Bool.eq_iff_iff]; simp [fitB]

set_option maxRecDepth 100000 in
set_option maxHeartbeats 8000000 in
theorem law_turned (a b c : Nat → Int) (w : World) (htab : Lib.TabBelow Tryd.prog w.heap.size w "internal/strconv.uint64pow10" .u64 Lib.pow10Tab)  : Calls Tryd.prog 3 #[.agg #[.int .i64 (a 0), .int .i64 (a 1), .int .i64 (a 2), .int .i64 (a 3)], .agg #[.int .i64 (b 0), .int .i64 (b 1), .int .i64 (b 2), .int .i64 (b 3)], .agg #[.int .i64 (c 0), .int .i64 (c 1), .int .i64 (c 2), .int .i64 (c 3)]] w fun e w' => e = .returned (.bool true) ∧ Below w.heap.size w w' := by
  obtain ⟨S, hS⟩ : ∃ S, S = w.heap.size := ⟨_, rfl⟩
  obtain ⟨w1, hw1⟩ : ∃ x, x = (((w.alloc (.cells #[.int .i64 (a 0), .int .i64 (a 1), .int .i64 (a 2), .int .i64 (a 3)] 23)).alloc (.cells #[.int .i64 (b 0), .int .i64 (b 1), .int .i64 (b 2), .int .i64 (b 3)] 23)).alloc (.cells #[.int .i64 (c 0), .int .i64 (c 1), .int .i64 (c 2), .int .i64 (c 3)] 23)) := ⟨_, rfl⟩
  have HB_1 : Hid (Below w.heap.size w w1) := Lib.hid (by rw [hw1]; exact ((((Below.refl w.heap.size w).alloc (by simp) _).alloc (by simp) _).alloc (by simp; omega) _))
  have HAX_1 : Hid (VAt w1 S a) := Lib.hid (by
    rw [hw1, hS]
    have h := heap_alloc_new w (.cells #[.int .i64 (a 0), .int .i64 (a 1), .int .i64 (a 2), .int .i64 (a 3)] 23)
    replace h := (Below.heap_alloc (w.alloc (.cells #[.int .i64 (a 0), .int .i64 (a 1), .int .i64 (a 2), .int .i64 (a 3)] 23)) (.cells #[.int .i64 (b 0), .int .i64 (b 1), .int .i64 (b 2), .int .i64 (b 3)] 23) _ (by simp)).trans h
    replace h := (Below.heap_alloc ((w.alloc (.cells #[.int .i64 (a 0), .int .i64 (a 1), .int .i64 (a 2), .int .i64 (a 3)] 23)).alloc (.cells #[.int .i64 (b 0), .int .i64 (b 1), .int .i64 (b 2), .int .i64 (b 3)] 23)) (.cells #[.int .i64 (c 0), .int .i64 (c 1), .int .i64 (c 2), .int .i64 (c 3)] 23) _ (by simp; omega)).trans h
    exact h)
  have HBX_1 : Hid (VAt w1 (S + 1) b) := Lib.hid (by
    rw [hw1, hS]
    have h := heap_alloc_new (w.alloc (.cells #[.int .i64 (a 0), .int .i64 (a 1), .int .i64 (a 2), .int .i64 (a 3)] 23)) (.cells #[.int .i64 (b 0), .int .i64 (b 1), .int .i64 (b 2), .int .i64 (b 3)] 23)
    simp only [World.size_alloc] at h
    replace h := (Below.heap_alloc ((w.alloc (.cells #[.int .i64 (a 0), .int .i64 (a 1), .int .i64 (a 2), .int .i64 (a 3)] 23)).alloc (.cells #[.int .i64 (b 0), .int .i64 (b 1), .int .i64 (b 2), .int .i64 (b 3)] 23)) (.cells #[.int .i64 (c 0), .int .i64 (c 1), .int .i64 (c 2), .int .i64 (c 3)] 23) _ (by simp)).trans h
    exact h)
  have HCX_1 : Hid (VAt w1 (S + 2) c) := Lib.hid (by
    rw [hw1, hS]
    have h := heap_alloc_new ((w.alloc (.cells #[.int .i64 (a 0), .int .i64 (a 1), .int .i64 (a 2), .int .i64 (a 3)] 23)).alloc (.cells #[.int .i64 (b 0), .int .i64 (b 1), .int .i64 (b 2), .int .i64 (b 3)] 23)) (.cells #[.int .i64 (c 0), .int .i64 (c 1), .int .i64 (c 2), .int .i64 (c 3)] 23)
    simp only [World.size_alloc] at h
    exact h)
  have HTB_1 : Hid (Lib.TabBelow Tryd.prog w1.heap.size w1 "internal/strconv.uint64pow10" .u64 Lib.pow10Tab) := Lib.hid (tb_on htab HB_1.out)
  have HS := Lib.hid hS
  clear htab
  go_enter Tryd.func3, Tryd.ntmps3
  go_upto_region 1 with (fail)
  rw [← hw1, ← hS]
  clear hw1 hS
  go_wp2_with fail
  refine (awake_any w1 HTB_1.out).mono ?_
  rintro e w2 ⟨rfl, hb⟩
  have HB_2 : Hid (Below w.heap.size w w2) := Lib.hid (HB_1.out.trans (hb.mono HB_1.out.size))
  have HTB_2 : Hid (Lib.TabBelow Tryd.prog w2.heap.size w2 "internal/strconv.uint64pow10" .u64 Lib.pow10Tab) := Lib.hid (tb_on HTB_1.out hb)
  have HAX_2 : Hid (VAt w2 S a) := Lib.hid (HAX_1.out.below hb (ltb HAX_1.out))
  have HBX_2 : Hid (VAt w2 (S + 1) b) := Lib.hid (HBX_1.out.below hb (ltb HBX_1.out))
  have HCX_2 : Hid (VAt w2 (S + 2) c) := Lib.hid (HCX_1.out.below hb (ltb HCX_1.out))
  clear hb HB_1 HTB_1 HAX_1 HBX_1 HCX_1
  clear HTB_2
  go_wp2_with (first | (refine wpList_load_row rfl 23 (.tmp 3) rfl (S) rfl 23 _ (0, 0) _ HAX_2.out Tryd.underlying23 rfl (by kernel_rfl) ?_) | (refine wpList_load_row rfl 23 (.tmp 4) rfl ((S + 1)) rfl 23 _ (0, 0) _ HBX_2.out Tryd.underlying23 rfl (by kernel_rfl) ?_))
  refine (add_any a b w2).mono ?_
  rintro e w3 ⟨rfl, hb⟩
  obtain ⟨x, hx⟩ : ∃ x, x = toldV (okv a && okv b) (fun i => a i + b i) := ⟨_, rfl⟩
  rw [← hx]
  have Hx := Lib.hid hx
  clear hx
  obtain ⟨ex, hex⟩ : ∃ x, x = toldE (okv a && okv b) (fun i => a i + b i) 30 := ⟨_, rfl⟩
  rw [← hex]
  have Hex := Lib.hid hex
  clear hex
  have HB_3 : Hid (Below w.heap.size w w3) := Lib.hid (HB_2.out.trans (hb.mono HB_2.out.size))
  have HAX_3 : Hid (VAt w3 S a) := Lib.hid (HAX_2.out.below hb (ltb HAX_2.out))
  have HBX_3 : Hid (VAt w3 (S + 1) b) := Lib.hid (HBX_2.out.below hb (ltb HBX_2.out))
  have HCX_3 : Hid (VAt w3 (S + 2) c) := Lib.hid (HCX_2.out.below hb (ltb HCX_2.out))
  clear hb HB_2 HAX_2 HBX_2 HCX_2
  obtain ⟨P8, hP8⟩ : ∃ x, x = w3.heap.size := ⟨_, rfl⟩
  have hal : Below w3.heap.size w3 (w3.alloc (.cells #[.int .i64 (x 0), .int .i64 (x 1), .int .i64 (x 2), .int .i64 (x 3)] 23)) := (Below.refl _ _).alloc (Nat.le_refl _) _
  have hnew : (w3.alloc (.cells #[.int .i64 (x 0), .int .i64 (x 1), .int .i64 (x 2), .int .i64 (x 3)] 23)).heap[P8]? = some (.cells #[.int .i64 (x 0), .int .i64 (x 1), .int .i64 (x 2), .int .i64 (x 3)] 23 (0, 0)) := by rw [hP8]; exact heap_alloc_new _ _
  have HB_4 : Hid (Below w.heap.size w (w3.alloc (.cells #[.int .i64 (x 0), .int .i64 (x 1), .int .i64 (x 2), .int .i64 (x 3)] 23))) := Lib.hid (HB_3.out.trans (hal.mono HB_3.out.size))
  have HAX_4 : Hid (VAt (w3.alloc (.cells #[.int .i64 (x 0), .int .i64 (x 1), .int .i64 (x 2), .int .i64 (x 3)] 23)) S a) := Lib.hid (HAX_3.out.below hal (ltb HAX_3.out))
  have HBX_4 : Hid (VAt (w3.alloc (.cells #[.int .i64 (x 0), .int .i64 (x 1), .int .i64 (x 2), .int .i64 (x 3)] 23)) (S + 1) b) := Lib.hid (HBX_3.out.below hal (ltb HBX_3.out))
  have HCX_4 : Hid (VAt (w3.alloc (.cells #[.int .i64 (x 0), .int .i64 (x 1), .int .i64 (x 2), .int .i64 (x 3)] 23)) (S + 2) c) := Lib.hid (HCX_3.out.below hal (ltb HCX_3.out))
  clear hal HB_3 HAX_3 HBX_3 HCX_3
  have HP8_4 : Hid (VAt (w3.alloc (.cells #[.int .i64 (x 0), .int .i64 (x 1), .int .i64 (x 2), .int .i64 (x 3)] 23)) P8 x) := Lib.hid hnew
  clear hnew
  go_wp2_with (first | (refine wpList_store_row rfl 23 (.tmp 8) (.tmp 25) rfl w3.heap.size _ rfl rfl 23 _ (heap_alloc_new w3 _) (by kernel_rfl) rfl (by simp [Value.oneCell']) ?_; rw [World.setRow_alloc_new]) | (refine wpList_load_row rfl 23 (.tmp 4) rfl ((S + 1)) rfl 23 _ (0, 0) _ HBX_4.out Tryd.underlying23 rfl (by kernel_rfl) ?_) | (refine wpList_load_row rfl 23 (.tmp 3) rfl (S) rfl 23 _ (0, 0) _ HAX_4.out Tryd.underlying23 rfl (by kernel_rfl) ?_))
  rw [← hP8]
  clear hP8
  generalize w3.alloc (.cells #[.int .i64 (x 0), .int .i64 (x 1), .int .i64 (x 2), .int .i64 (x 3)] 23) = w4 at HB_4 HAX_4 HBX_4 HCX_4 HP8_4 ⊢
  refine (add_any b a w4).mono ?_
  rintro e w5 ⟨rfl, hb⟩
  rw [toldV_comm a b, toldE_comm a b]
  rw [show toldV (okv a && okv b) (fun i => a i + b i) = x from Hx.out.symm]
  rw [show toldE (okv a && okv b) (fun i => a i + b i) 30 = ex from Hex.out.symm]
  have HB_5 : Hid (Below w.heap.size w w5) := Lib.hid (HB_4.out.trans (hb.mono HB_4.out.size))
  have HAX_5 : Hid (VAt w5 S a) := Lib.hid (HAX_4.out.below hb (ltb HAX_4.out))
  have HBX_5 : Hid (VAt w5 (S + 1) b) := Lib.hid (HBX_4.out.below hb (ltb HBX_4.out))
  have HCX_5 : Hid (VAt w5 (S + 2) c) := Lib.hid (HCX_4.out.below hb (ltb HCX_4.out))
  have HP8_5 : Hid (VAt w5 P8 x) := Lib.hid (HP8_4.out.below hb (ltb HP8_4.out))
  clear hb HB_4 HAX_4 HBX_4 HCX_4 HP8_4
  obtain ⟨P10, hP10⟩ : ∃ x, x = w5.heap.size := ⟨_, rfl⟩
  have hal : Below w5.heap.size w5 (w5.alloc (.cells #[.int .i64 (x 0), .int .i64 (x 1), .int .i64 (x 2), .int .i64 (x 3)] 23)) := (Below.refl _ _).alloc (Nat.le_refl _) _
  have hnew : (w5.alloc (.cells #[.int .i64 (x 0), .int .i64 (x 1), .int .i64 (x 2), .int .i64 (x 3)] 23)).heap[P10]? = some (.cells #[.int .i64 (x 0), .int .i64 (x 1), .int .i64 (x 2), .int .i64 (x 3)] 23 (0, 0)) := by rw [hP10]; exact heap_alloc_new _ _
  have HB_6 : Hid (Below w.heap.size w (w5.alloc (.cells #[.int .i64 (x 0), .int .i64 (x 1), .int .i64 (x 2), .int .i64 (x 3)] 23))) := Lib.hid (HB_5.out.trans (hal.mono HB_5.out.size))
  have HAX_6 : Hid (VAt (w5.alloc (.cells #[.int .i64 (x 0), .int .i64 (x 1), .int .i64 (x 2), .int .i64 (x 3)] 23)) S a) := Lib.hid (HAX_5.out.below hal (ltb HAX_5.out))
  have HBX_6 : Hid (VAt (w5.alloc (.cells #[.int .i64 (x 0), .int .i64 (x 1), .int .i64 (x 2), .int .i64 (x 3)] 23)) (S + 1) b) := Lib.hid (HBX_5.out.below hal (ltb HBX_5.out))
  have HCX_6 : Hid (VAt (w5.alloc (.cells #[.int .i64 (x 0), .int .i64 (x 1), .int .i64 (x 2), .int .i64 (x 3)] 23)) (S + 2) c) := Lib.hid (HCX_5.out.below hal (ltb HCX_5.out))
  have HP8_6 : Hid (VAt (w5.alloc (.cells #[.int .i64 (x 0), .int .i64 (x 1), .int .i64 (x 2), .int .i64 (x 3)] 23)) P8 x) := Lib.hid (HP8_5.out.below hal (ltb HP8_5.out))
  clear hal HB_5 HAX_5 HBX_5 HCX_5 HP8_5
  have HP10_6 : Hid (VAt (w5.alloc (.cells #[.int .i64 (x 0), .int .i64 (x 1), .int .i64 (x 2), .int .i64 (x 3)] 23)) P10 x) := Lib.hid hnew
  clear hnew
  go_upto_region 6 with (refine wpList_store_row rfl 23 (.tmp 10) (.tmp 31) rfl w5.heap.size _ rfl rfl 23 _ (heap_alloc_new w5 _) (by kernel_rfl) rfl (by simp [Value.oneCell']) ?_; rw [World.setRow_alloc_new])
  rw [← hP10]
  clear hP10
  generalize w5.alloc (.cells #[.int .i64 (x 0), .int .i64 (x 1), .int .i64 (x 2), .int .i64 (x 3)] 23) = w6 at HB_6 HAX_6 HBX_6 HCX_6 HP8_6 HP10_6 ⊢
  have q1 : ∀ w, (Go.binOp .neq 23 (.agg #[.int .i64 (x 0), .int .i64 (x 1), .int .i64 (x 2), .int .i64 (x 3)]) (.agg #[.int .i64 (x 0), .int .i64 (x 1), .int .i64 (x 2), .int .i64 (x 3)])).run Tryd.prog w = .ok (.bool false) w := fun w => by rw [ne_vec2]; simp
  go_upto_region 8 with (first | (refine wpList_load_row rfl 23 (.tmp 8) rfl (P8) rfl 23 _ (0, 0) _ HP8_6.out Tryd.underlying23 rfl (by kernel_rfl) ?_) | (refine wpList_load_row rfl 23 (.tmp 10) rfl (P10) rfl 23 _ (0, 0) _ HP10_6.out Tryd.underlying23 rfl (by kernel_rfl) ?_))
  clear q1
  clear HP10_6
  by_cases hex0 : ex = 0
  rotate_left
  · skip
    have h := hex0
    clear hex0
    have h1 : (ex == 0) = false := by simpa using h
    have h2 : (ex != 0) = true := by simpa using h
    clear h
    go_wp2_with (first | (refine wpList_load_row rfl 23 (.tmp 3) rfl (S) rfl 23 _ (0, 0) _ HAX_6.out Tryd.underlying23 rfl (by kernel_rfl) ?_) | (refine wpList_load_row rfl 23 (.tmp 5) rfl ((S + 2)) rfl 23 _ (0, 0) _ HCX_6.out Tryd.underlying23 rfl (by kernel_rfl) ?_))
    refine (add_any a c w6).mono ?_
    rintro e w7 ⟨rfl, hb⟩
    obtain ⟨p, hp⟩ : ∃ x, x = toldV (okv a && okv c) (fun i => a i + c i) := ⟨_, rfl⟩
    rw [← hp]
    have Hp := Lib.hid hp
    clear hp
    obtain ⟨ep, hep⟩ : ∃ x, x = toldE (okv a && okv c) (fun i => a i + c i) 30 := ⟨_, rfl⟩
    rw [← hep]
    have Hep := Lib.hid hep
    clear hep
    have HB_7 : Hid (Below w.heap.size w w7) := Lib.hid (HB_6.out.trans (hb.mono HB_6.out.size))
    have HAX_7 : Hid (VAt w7 S a) := Lib.hid (HAX_6.out.below hb (ltb HAX_6.out))
    have HBX_7 : Hid (VAt w7 (S + 1) b) := Lib.hid (HBX_6.out.below hb (ltb HBX_6.out))
    have HCX_7 : Hid (VAt w7 (S + 2) c) := Lib.hid (HCX_6.out.below hb (ltb HCX_6.out))
    have HP8_7 : Hid (VAt w7 P8 x) := Lib.hid (HP8_6.out.below hb (ltb HP8_6.out))
    clear hb HB_6 HAX_6 HBX_6 HCX_6 HP8_6
    obtain ⟨P14, hP14⟩ : ∃ x, x = w7.heap.size := ⟨_, rfl⟩
    have hal : Below w7.heap.size w7 (w7.alloc (.cells #[.int .i64 (p 0), .int .i64 (p 1), .int .i64 (p 2), .int .i64 (p 3)] 23)) := (Below.refl _ _).alloc (Nat.le_refl _) _
    have hnew : (w7.alloc (.cells #[.int .i64 (p 0), .int .i64 (p 1), .int .i64 (p 2), .int .i64 (p 3)] 23)).heap[P14]? = some (.cells #[.int .i64 (p 0), .int .i64 (p 1), .int .i64 (p 2), .int .i64 (p 3)] 23 (0, 0)) := by rw [hP14]; exact heap_alloc_new _ _
    have HB_8 : Hid (Below w.heap.size w (w7.alloc (.cells #[.int .i64 (p 0), .int .i64 (p 1), .int .i64 (p 2), .int .i64 (p 3)] 23))) := Lib.hid (HB_7.out.trans (hal.mono HB_7.out.size))
    have HAX_8 : Hid (VAt (w7.alloc (.cells #[.int .i64 (p 0), .int .i64 (p 1), .int .i64 (p 2), .int .i64 (p 3)] 23)) S a) := Lib.hid (HAX_7.out.below hal (ltb HAX_7.out))
    have HBX_8 : Hid (VAt (w7.alloc (.cells #[.int .i64 (p 0), .int .i64 (p 1), .int .i64 (p 2), .int .i64 (p 3)] 23)) (S + 1) b) := Lib.hid (HBX_7.out.below hal (ltb HBX_7.out))
    have HCX_8 : Hid (VAt (w7.alloc (.cells #[.int .i64 (p 0), .int .i64 (p 1), .int .i64 (p 2), .int .i64 (p 3)] 23)) (S + 2) c) := Lib.hid (HCX_7.out.below hal (ltb HCX_7.out))
    have HP8_8 : Hid (VAt (w7.alloc (.cells #[.int .i64 (p 0), .int .i64 (p 1), .int .i64 (p 2), .int .i64 (p 3)] 23)) P8 x) := Lib.hid (HP8_7.out.below hal (ltb HP8_7.out))
    clear hal HB_7 HAX_7 HBX_7 HCX_7 HP8_7
    have HP14_8 : Hid (VAt (w7.alloc (.cells #[.int .i64 (p 0), .int .i64 (p 1), .int .i64 (p 2), .int .i64 (p 3)] 23)) P14 p) := Lib.hid hnew
    clear hnew
    go_wp2_with (first | (refine wpList_store_row rfl 23 (.tmp 14) (.tmp 71) rfl w7.heap.size _ rfl rfl 23 _ (heap_alloc_new w7 _) (by kernel_rfl) rfl (by simp [Value.oneCell']) ?_; rw [World.setRow_alloc_new]) | (refine wpList_load_row rfl 23 (.tmp 4) rfl ((S + 1)) rfl 23 _ (0, 0) _ HBX_8.out Tryd.underlying23 rfl (by kernel_rfl) ?_) | (refine wpList_load_row rfl 23 (.tmp 5) rfl ((S + 2)) rfl 23 _ (0, 0) _ HCX_8.out Tryd.underlying23 rfl (by kernel_rfl) ?_))
    rw [← hP14]
    clear hP14
    generalize w7.alloc (.cells #[.int .i64 (p 0), .int .i64 (p 1), .int .i64 (p 2), .int .i64 (p 3)] 23) = w8 at HB_8 HAX_8 HBX_8 HCX_8 HP8_8 HP14_8 ⊢
    refine (add_any b c w8).mono ?_
    rintro e w9 ⟨rfl, hb⟩
    obtain ⟨r, hr⟩ : ∃ x, x = toldV (okv b && okv c) (fun i => b i + c i) := ⟨_, rfl⟩
    rw [← hr]
    have Hr := Lib.hid hr
    clear hr
    obtain ⟨er, her⟩ : ∃ x, x = toldE (okv b && okv c) (fun i => b i + c i) 30 := ⟨_, rfl⟩
    rw [← her]
    have Her := Lib.hid her
    clear her
    have HB_9 : Hid (Below w.heap.size w w9) := Lib.hid (HB_8.out.trans (hb.mono HB_8.out.size))
    have HAX_9 : Hid (VAt w9 S a) := Lib.hid (HAX_8.out.below hb (ltb HAX_8.out))
    have HBX_9 : Hid (VAt w9 (S + 1) b) := Lib.hid (HBX_8.out.below hb (ltb HBX_8.out))
    have HCX_9 : Hid (VAt w9 (S + 2) c) := Lib.hid (HCX_8.out.below hb (ltb HCX_8.out))
    have HP8_9 : Hid (VAt w9 P8 x) := Lib.hid (HP8_8.out.below hb (ltb HP8_8.out))
    have HP14_9 : Hid (VAt w9 P14 p) := Lib.hid (HP14_8.out.below hb (ltb HP14_8.out))
    clear hb HB_8 HAX_8 HBX_8 HCX_8 HP8_8 HP14_8
    obtain ⟨P16, hP16⟩ : ∃ x, x = w9.heap.size := ⟨_, rfl⟩
    have hal : Below w9.heap.size w9 (w9.alloc (.cells #[.int .i64 (r 0), .int .i64 (r 1), .int .i64 (r 2), .int .i64 (r 3)] 23)) := (Below.refl _ _).alloc (Nat.le_refl _) _
    have hnew : (w9.alloc (.cells #[.int .i64 (r 0), .int .i64 (r 1), .int .i64 (r 2), .int .i64 (r 3)] 23)).heap[P16]? = some (.cells #[.int .i64 (r 0), .int .i64 (r 1), .int .i64 (r 2), .int .i64 (r 3)] 23 (0, 0)) := by rw [hP16]; exact heap_alloc_new _ _
    have HB_10 : Hid (Below w.heap.size w (w9.alloc (.cells #[.int .i64 (r 0), .int .i64 (r 1), .int .i64 (r 2), .int .i64 (r 3)] 23))) := Lib.hid (HB_9.out.trans (hal.mono HB_9.out.size))
    have HAX_10 : Hid (VAt (w9.alloc (.cells #[.int .i64 (r 0), .int .i64 (r 1), .int .i64 (r 2), .int .i64 (r 3)] 23)) S a) := Lib.hid (HAX_9.out.below hal (ltb HAX_9.out))
    have HBX_10 : Hid (VAt (w9.alloc (.cells #[.int .i64 (r 0), .int .i64 (r 1), .int .i64 (r 2), .int .i64 (r 3)] 23)) (S + 1) b) := Lib.hid (HBX_9.out.below hal (ltb HBX_9.out))
    have HCX_10 : Hid (VAt (w9.alloc (.cells #[.int .i64 (r 0), .int .i64 (r 1), .int .i64 (r 2), .int .i64 (r 3)] 23)) (S + 2) c) := Lib.hid (HCX_9.out.below hal (ltb HCX_9.out))
    have HP8_10 : Hid (VAt (w9.alloc (.cells #[.int .i64 (r 0), .int .i64 (r 1), .int .i64 (r 2), .int .i64 (r 3)] 23)) P8 x) := Lib.hid (HP8_9.out.below hal (ltb HP8_9.out))
    have HP14_10 : Hid (VAt (w9.alloc (.cells #[.int .i64 (r 0), .int .i64 (r 1), .int .i64 (r 2), .int .i64 (r 3)] 23)) P14 p) := Lib.hid (HP14_9.out.below hal (ltb HP14_9.out))
    clear hal HB_9 HAX_9 HBX_9 HCX_9 HP8_9 HP14_9
    have HP16_10 : Hid (VAt (w9.alloc (.cells #[.int .i64 (r 0), .int .i64 (r 1), .int .i64 (r 2), .int .i64 (r 3)] 23)) P16 r) := Lib.hid hnew
    clear hnew
    go_upto_region 14 with (refine wpList_store_row rfl 23 (.tmp 16) (.tmp 77) rfl w9.heap.size _ rfl rfl 23 _ (heap_alloc_new w9 _) (by kernel_rfl) rfl (by simp [Value.oneCell']) ?_; rw [World.setRow_alloc_new])
    rw [← hP16]
    clear hP16
    generalize w9.alloc (.cells #[.int .i64 (r 0), .int .i64 (r 1), .int .i64 (r 2), .int .i64 (r 3)] 23) = w10 at HB_10 HAX_10 HBX_10 HCX_10 HP8_10 HP14_10 HP16_10 ⊢
    have hcase : ep ≠ 0 ∨ (ep = 0 ∧ er ≠ 0) ∨ (ep = 0 ∧ er = 0) := by omega
    rcases hcase with hcase | hcase | hcase
    · skip
      have h := hcase
      clear hcase
      have h1 : (ep == 0) = false := by simpa using h
      have h2 : (ep != 0) = true := by simpa using h
      clear h
      have FAX : VAt w10.drew S a := HAX_10.out
      have FBX : VAt w10.drew (S + 1) b := HBX_10.out
      have FP14 : VAt w10.drew P14 p := HP14_10.out
      have FP16 : VAt w10.drew P16 r := HP16_10.out
      have HB_11 : Hid (Below w.heap.size w w10.drew) := Lib.hid (HB_10.out.trans (((Below.refl w10.heap.size w10).drew).mono HB_10.out.size))
      have HCX_11 : Hid (VAt w10.drew (S + 2) c) := Lib.hid (HCX_10.out.below ((Below.refl w10.heap.size w10).drew) (ltb HCX_10.out))
      have HP8_11 : Hid (VAt w10.drew P8 x) := Lib.hid (HP8_10.out.below ((Below.refl w10.heap.size w10).drew) (ltb HP8_10.out))
      clear HB_10 HAX_10 HBX_10 HCX_10 HP8_10 HP14_10 HP16_10
      refine wp_region_noPanic ?_
      refine wp_region_held_drew (S := fun w' => VAt w' S a ∧ VAt w' (S + 1) b ∧ VAt w' P14 p ∧ VAt w' P16 r) (by kernel_rfl) ?_ (fun hHeld => ?_)
      · try dsimp only
        (refine ⟨?_, ?_, ?_, ?_⟩ <;> (first | with_reducible assumption))
      generalize w10.drew = w11 at *
      refine wpAnyH_take (i := 0) (v := ?_) (by (simp only [List.getElem?_toArray, List.getElem?_cons_zero]; rfl)) (by kernel_rfl) (by kernel_rfl) (by kernel_rfl) (fun _ _ _ h => h) (Or.inl ⟨by rfl, ?_⟩) (by assumption) ?_
      rotate_left
      · (intro w hSw; (try dsimp only at hSw); go_simp; try with_reducible rfl)
      try simp only [Act.put, List.setIfInBounds_toArray, List.set_cons_zero, List.set_cons_succ]
      refine wpAnyH_take (i := 1) (v := ?_) (by (simp only [List.getElem?_toArray, List.getElem?_cons_succ, List.getElem?_cons_zero]; rfl)) (by kernel_rfl) (by kernel_rfl) (by kernel_rfl) (fun _ _ _ h => h) (Or.inl ⟨by rfl, ?_⟩) (by assumption) ?_
      rotate_left
      · (intro w hSw; (try dsimp only at hSw); go_simp; try with_reducible rfl)
      try simp only [Act.put, List.setIfInBounds_toArray, List.set_cons_zero, List.set_cons_succ]
      refine wpAnyH_take (i := 2) (v := ?_) (by (simp only [List.getElem?_toArray, List.getElem?_cons_succ, List.getElem?_cons_zero]; rfl)) (by kernel_rfl) (by kernel_rfl) (by kernel_rfl) (fun _ _ _ h => h) (Or.inl ⟨by rfl, ?_⟩) (by assumption) ?_
      rotate_left
      · (intro w hSw; (try dsimp only at hSw); go_simp; try with_reducible rfl)
      try simp only [Act.put, List.setIfInBounds_toArray, List.set_cons_zero, List.set_cons_succ]
      refine wpAnyH_take (i := 3) (v := undef) (by (simp only [List.getElem?_toArray, List.getElem?_cons_succ, List.getElem?_cons_zero]; rfl)) (by kernel_rfl) (by kernel_rfl) (by kernel_rfl) (fun _ _ _ h => h) (Or.inr ⟨by rfl, rfl⟩) (by assumption) ?_
      try simp only [Act.put, List.setIfInBounds_toArray, List.set_cons_zero, List.set_cons_succ]
      refine wpAnyH_take (i := 4) (v := undef) (by (simp only [List.getElem?_toArray, List.getElem?_cons_succ, List.getElem?_cons_zero]; rfl)) (by kernel_rfl) (by kernel_rfl) (by kernel_rfl) (fun _ _ _ h => h) (Or.inr ⟨by rfl, rfl⟩) (by assumption) ?_
      try simp only [Act.put, List.setIfInBounds_toArray, List.set_cons_zero, List.set_cons_succ]
      refine wpAnyH_take (i := 5) (v := ?_) (by (simp only [List.getElem?_toArray, List.getElem?_cons_succ, List.getElem?_cons_zero]; rfl)) (by kernel_rfl) (by kernel_rfl) (by kernel_rfl) (fun _ _ _ h => h) (Or.inl ⟨by rfl, ?_⟩) (by assumption) ?_
      rotate_left
      · (intro w hSw; (try dsimp only at hSw); go_simp; try with_reducible rfl)
      try simp only [Act.put, List.setIfInBounds_toArray, List.set_cons_zero, List.set_cons_succ]
      refine wpAnyH_take (i := 6) (v := ?_) (by (simp only [List.getElem?_toArray, List.getElem?_cons_succ, List.getElem?_cons_zero]; rfl)) (by kernel_rfl) (by kernel_rfl) (by kernel_rfl) (fun _ _ _ h => h) (Or.inl ⟨by rfl, ?_⟩) (by assumption) ?_
      rotate_left
      · (intro w hSw; (try dsimp only at hSw); go_simp; try with_reducible rfl)
      try simp only [Act.put, List.setIfInBounds_toArray, List.set_cons_zero, List.set_cons_succ]
      refine wpAnyH_take (i := 7) (v := undef) (by (simp only [List.getElem?_toArray, List.getElem?_cons_succ, List.getElem?_cons_zero]; rfl)) (by kernel_rfl) (by kernel_rfl) (by kernel_rfl) (fun _ _ _ h => h) (Or.inr ⟨by rfl, rfl⟩) (by assumption) ?_
      try simp only [Act.put, List.setIfInBounds_toArray, List.set_cons_zero, List.set_cons_succ]
      refine wpAnyH_take (i := 8) (v := undef) (by (simp only [List.getElem?_toArray, List.getElem?_cons_succ, List.getElem?_cons_zero]; rfl)) (by kernel_rfl) (by kernel_rfl) (by kernel_rfl) (fun _ _ _ h => h) (Or.inr ⟨by rfl, rfl⟩) (by assumption) ?_
      try simp only [Act.put, List.setIfInBounds_toArray, List.set_cons_zero, List.set_cons_succ]
      refine wpAnyH_take (i := 10) (v := undef) (by (simp only [List.getElem?_toArray, List.getElem?_cons_succ, List.getElem?_cons_zero]; rfl)) (by kernel_rfl) (by kernel_rfl) (by kernel_rfl) (fun _ _ _ h => h) (Or.inr ⟨by rfl, rfl⟩) (by assumption) ?_
      try simp only [Act.put, List.setIfInBounds_toArray, List.set_cons_zero, List.set_cons_succ]
      refine wpAnyH_take (i := 11) (v := undef) (by (simp only [List.getElem?_toArray, List.getElem?_cons_succ, List.getElem?_cons_zero]; rfl)) (by kernel_rfl) (by kernel_rfl) (by kernel_rfl) (fun _ _ _ h => h) (Or.inr ⟨by rfl, rfl⟩) (by assumption) ?_
      try simp only [Act.put, List.setIfInBounds_toArray, List.set_cons_zero, List.set_cons_succ]
      refine wpAnyH_take (i := 9) (v := undef) (by (simp only [List.getElem?_toArray, List.getElem?_cons_succ, List.getElem?_cons_zero]; rfl)) (by kernel_rfl) (by kernel_rfl) (by kernel_rfl) (fun _ _ _ h => h) (Or.inr ⟨by rfl, rfl⟩) (by assumption) ?_
      try simp only [Act.put, List.setIfInBounds_toArray, List.set_cons_zero, List.set_cons_succ]
      refine wpAnyH_take (i := 12) (v := undef) (by (simp only [List.getElem?_toArray, List.getElem?_cons_succ, List.getElem?_cons_zero]; rfl)) (by kernel_rfl) (by kernel_rfl) (by kernel_rfl) (fun _ _ _ h => h) (Or.inr ⟨by rfl, rfl⟩) (by assumption) ?_
      try simp only [Act.put, List.setIfInBounds_toArray, List.set_cons_zero, List.set_cons_succ]
      refine wpAnyH_take (i := 13) (v := undef) (by (simp only [List.getElem?_toArray, List.getElem?_cons_succ, List.getElem?_cons_zero]; rfl)) (by kernel_rfl) (by kernel_rfl) (by kernel_rfl) (fun _ _ _ h => h) (Or.inr ⟨by rfl, rfl⟩) (by assumption) ?_
      try simp only [Act.put, List.setIfInBounds_toArray, List.set_cons_zero, List.set_cons_succ]
      refine wpAnyH_take (i := 14) (v := ?_) (by (simp only [List.getElem?_toArray, List.getElem?_cons_succ, List.getElem?_cons_zero]; rfl)) (by kernel_rfl) (by kernel_rfl) (by kernel_rfl) (fun _ _ _ h => h) (Or.inl ⟨by rfl, ?_⟩) (by assumption) ?_
      rotate_left
      · (intro w hSw; (try dsimp only at hSw); go_simp; try with_reducible rfl)
      try simp only [Act.put, List.setIfInBounds_toArray, List.set_cons_zero, List.set_cons_succ]
      refine wpAnyH_take (i := 15) (v := ?_) (by (simp only [List.getElem?_toArray, List.getElem?_cons_succ, List.getElem?_cons_zero]; rfl)) (by kernel_rfl) (by kernel_rfl) (by kernel_rfl) (fun _ _ _ h => h) (Or.inl ⟨by rfl, ?_⟩) (by assumption) ?_
      rotate_left
      · (intro w hSw; (try dsimp only at hSw); go_simp; try with_reducible rfl)
      try simp only [Act.put, List.setIfInBounds_toArray, List.set_cons_zero, List.set_cons_succ]
      refine wpAnyH_done (by kernel_rfl) ?_ _
      refine NoPanic.normal ?_
      clear hHeld FAX FBX FP14 FP16
      go_wp2_with fail
      go_ret
      exact ⟨by simp, HB_11.out⟩
    · skip
      obtain ⟨h0, h⟩ := hcase
      have h1 : (er == 0) = false := by simpa using h
      have h2 : (er != 0) = true := by simpa using h
      clear h
      subst h0
      have FAX : VAt w10.drew S a := HAX_10.out
      have FBX : VAt w10.drew (S + 1) b := HBX_10.out
      have FP14 : VAt w10.drew P14 p := HP14_10.out
      have FP16 : VAt w10.drew P16 r := HP16_10.out
      have HB_11 : Hid (Below w.heap.size w w10.drew) := Lib.hid (HB_10.out.trans (((Below.refl w10.heap.size w10).drew).mono HB_10.out.size))
      have HCX_11 : Hid (VAt w10.drew (S + 2) c) := Lib.hid (HCX_10.out.below ((Below.refl w10.heap.size w10).drew) (ltb HCX_10.out))
      have HP8_11 : Hid (VAt w10.drew P8 x) := Lib.hid (HP8_10.out.below ((Below.refl w10.heap.size w10).drew) (ltb HP8_10.out))
      clear HB_10 HAX_10 HBX_10 HCX_10 HP8_10 HP14_10 HP16_10
      refine wp_region_noPanic ?_
      refine wp_region_held_drew (S := fun w' => VAt w' S a ∧ VAt w' (S + 1) b ∧ VAt w' P14 p ∧ VAt w' P16 r) (by kernel_rfl) ?_ (fun hHeld => ?_)
      · try dsimp only
        (refine ⟨?_, ?_, ?_, ?_⟩ <;> (first | with_reducible assumption))
      generalize w10.drew = w11 at *
      refine wpAnyH_take (i := 0) (v := ?_) (by (simp only [List.getElem?_toArray, List.getElem?_cons_zero]; rfl)) (by kernel_rfl) (by kernel_rfl) (by kernel_rfl) (fun _ _ _ h => h) (Or.inl ⟨by rfl, ?_⟩) (by assumption) ?_
      rotate_left
      · (intro w hSw; (try dsimp only at hSw); go_simp; try with_reducible rfl)
      try simp only [Act.put, List.setIfInBounds_toArray, List.set_cons_zero, List.set_cons_succ]
      refine wpAnyH_take (i := 1) (v := ?_) (by (simp only [List.getElem?_toArray, List.getElem?_cons_succ, List.getElem?_cons_zero]; rfl)) (by kernel_rfl) (by kernel_rfl) (by kernel_rfl) (fun _ _ _ h => h) (Or.inl ⟨by rfl, ?_⟩) (by assumption) ?_
      rotate_left
      · (intro w hSw; (try dsimp only at hSw); go_simp; try with_reducible rfl)
      try simp only [Act.put, List.setIfInBounds_toArray, List.set_cons_zero, List.set_cons_succ]
      refine wpAnyH_take (i := 2) (v := ?_) (by (simp only [List.getElem?_toArray, List.getElem?_cons_succ, List.getElem?_cons_zero]; rfl)) (by kernel_rfl) (by kernel_rfl) (by kernel_rfl) (fun _ _ _ h => h) (Or.inl ⟨by rfl, ?_⟩) (by assumption) ?_
      rotate_left
      · (intro w hSw; (try dsimp only at hSw); go_simp; try with_reducible rfl)
      try simp only [Act.put, List.setIfInBounds_toArray, List.set_cons_zero, List.set_cons_succ]
      refine wpAnyH_take (i := 3) (v := ?_) (by (simp only [List.getElem?_toArray, List.getElem?_cons_succ, List.getElem?_cons_zero]; rfl)) (by kernel_rfl) (by kernel_rfl) (by kernel_rfl) (fun _ _ _ h => h) (Or.inl ⟨by rfl, ?_⟩) (by assumption) ?_
      rotate_left
      · (intro w hSw; (try dsimp only at hSw); go_simp; try with_reducible rfl)
      try simp only [Act.put, List.setIfInBounds_toArray, List.set_cons_zero, List.set_cons_succ]
      refine wpAnyH_take (i := 4) (v := ?_) (by (simp only [List.getElem?_toArray, List.getElem?_cons_succ, List.getElem?_cons_zero]; rfl)) (by kernel_rfl) (by kernel_rfl) (by kernel_rfl) (fun _ _ _ h => h) (Or.inl ⟨by rfl, ?_⟩) (by assumption) ?_
      rotate_left
      · (intro w hSw; (try dsimp only at hSw); go_simp; try with_reducible rfl)
      try simp only [Act.put, List.setIfInBounds_toArray, List.set_cons_zero, List.set_cons_succ]
      refine wpAnyH_take (i := 5) (v := ?_) (by (simp only [List.getElem?_toArray, List.getElem?_cons_succ, List.getElem?_cons_zero]; rfl)) (by kernel_rfl) (by kernel_rfl) (by kernel_rfl) (fun _ _ _ h => h) (Or.inl ⟨by rfl, ?_⟩) (by assumption) ?_
      rotate_left
      · (intro w hSw; (try dsimp only at hSw); go_simp; try with_reducible rfl)
      try simp only [Act.put, List.setIfInBounds_toArray, List.set_cons_zero, List.set_cons_succ]
      refine wpAnyH_take (i := 6) (v := ?_) (by (simp only [List.getElem?_toArray, List.getElem?_cons_succ, List.getElem?_cons_zero]; rfl)) (by kernel_rfl) (by kernel_rfl) (by kernel_rfl) (fun _ _ _ h => h) (Or.inl ⟨by rfl, ?_⟩) (by assumption) ?_
      rotate_left
      · (intro w hSw; (try dsimp only at hSw); go_simp; try with_reducible rfl)
      try simp only [Act.put, List.setIfInBounds_toArray, List.set_cons_zero, List.set_cons_succ]
      refine wpAnyH_take (i := 7) (v := undef) (by (simp only [List.getElem?_toArray, List.getElem?_cons_succ, List.getElem?_cons_zero]; rfl)) (by kernel_rfl) (by kernel_rfl) (by kernel_rfl) (fun _ _ _ h => h) (Or.inr ⟨by rfl, rfl⟩) (by assumption) ?_
      try simp only [Act.put, List.setIfInBounds_toArray, List.set_cons_zero, List.set_cons_succ]
      refine wpAnyH_take (i := 8) (v := undef) (by (simp only [List.getElem?_toArray, List.getElem?_cons_succ, List.getElem?_cons_zero]; rfl)) (by kernel_rfl) (by kernel_rfl) (by kernel_rfl) (fun _ _ _ h => h) (Or.inr ⟨by rfl, rfl⟩) (by assumption) ?_
      try simp only [Act.put, List.setIfInBounds_toArray, List.set_cons_zero, List.set_cons_succ]
      refine wpAnyH_take (i := 10) (v := undef) (by (simp only [List.getElem?_toArray, List.getElem?_cons_succ, List.getElem?_cons_zero]; rfl)) (by kernel_rfl) (by kernel_rfl) (by kernel_rfl) (fun _ _ _ h => h) (Or.inr ⟨by rfl, rfl⟩) (by assumption) ?_
      try simp only [Act.put, List.setIfInBounds_toArray, List.set_cons_zero, List.set_cons_succ]
      refine wpAnyH_take (i := 11) (v := undef) (by (simp only [List.getElem?_toArray, List.getElem?_cons_succ, List.getElem?_cons_zero]; rfl)) (by kernel_rfl) (by kernel_rfl) (by kernel_rfl) (fun _ _ _ h => h) (Or.inr ⟨by rfl, rfl⟩) (by assumption) ?_
      try simp only [Act.put, List.setIfInBounds_toArray, List.set_cons_zero, List.set_cons_succ]
      refine wpAnyH_take (i := 9) (v := undef) (by (simp only [List.getElem?_toArray, List.getElem?_cons_succ, List.getElem?_cons_zero]; rfl)) (by kernel_rfl) (by kernel_rfl) (by kernel_rfl) (fun _ _ _ h => h) (Or.inr ⟨by rfl, rfl⟩) (by assumption) ?_
      try simp only [Act.put, List.setIfInBounds_toArray, List.set_cons_zero, List.set_cons_succ]
      refine wpAnyH_take (i := 12) (v := undef) (by (simp only [List.getElem?_toArray, List.getElem?_cons_succ, List.getElem?_cons_zero]; rfl)) (by kernel_rfl) (by kernel_rfl) (by kernel_rfl) (fun _ _ _ h => h) (Or.inr ⟨by rfl, rfl⟩) (by assumption) ?_
      try simp only [Act.put, List.setIfInBounds_toArray, List.set_cons_zero, List.set_cons_succ]
      refine wpAnyH_take (i := 13) (v := undef) (by (simp only [List.getElem?_toArray, List.getElem?_cons_succ, List.getElem?_cons_zero]; rfl)) (by kernel_rfl) (by kernel_rfl) (by kernel_rfl) (fun _ _ _ h => h) (Or.inr ⟨by rfl, rfl⟩) (by assumption) ?_
      try simp only [Act.put, List.setIfInBounds_toArray, List.set_cons_zero, List.set_cons_succ]
      refine wpAnyH_take (i := 14) (v := ?_) (by (simp only [List.getElem?_toArray, List.getElem?_cons_succ, List.getElem?_cons_zero]; rfl)) (by kernel_rfl) (by kernel_rfl) (by kernel_rfl) (fun _ _ _ h => h) (Or.inl ⟨by rfl, ?_⟩) (by assumption) ?_
      rotate_left
      · (intro w hSw; (try dsimp only at hSw); go_simp; try with_reducible rfl)
      try simp only [Act.put, List.setIfInBounds_toArray, List.set_cons_zero, List.set_cons_succ]
      refine wpAnyH_take (i := 15) (v := ?_) (by (simp only [List.getElem?_toArray, List.getElem?_cons_succ, List.getElem?_cons_zero]; rfl)) (by kernel_rfl) (by kernel_rfl) (by kernel_rfl) (fun _ _ _ h => h) (Or.inl ⟨by rfl, ?_⟩) (by assumption) ?_
      rotate_left
      · (intro w hSw; (try dsimp only at hSw); go_simp; try with_reducible rfl)
      try simp only [Act.put, List.setIfInBounds_toArray, List.set_cons_zero, List.set_cons_succ]
      refine wpAnyH_done (by kernel_rfl) ?_ _
      refine NoPanic.normal ?_
      clear hHeld FAX FBX FP14 FP16
      go_wp2_with fail
      go_ret
      exact ⟨by simp, HB_11.out⟩
    · skip
      obtain ⟨h0, h⟩ := hcase
      have hp1 := told_ok (Hep.out.symm.trans h0)
      have hr1 := told_ok (Her.out.symm.trans h)
      have HFP : Hid (fitB p r = fitB a b) := Lib.hid (by rw [Hp.out, Hr.out, hp1.2.2, hr1.2.2]; exact fit_same a b c)
      clear hp1 hr1
      subst h0 h
      have FAX : VAt w10.drew S a := HAX_10.out
      have FBX : VAt w10.drew (S + 1) b := HBX_10.out
      have FP14 : VAt w10.drew P14 p := HP14_10.out
      have FP16 : VAt w10.drew P16 r := HP16_10.out
      have HB_11 : Hid (Below w.heap.size w w10.drew) := Lib.hid (HB_10.out.trans (((Below.refl w10.heap.size w10).drew).mono HB_10.out.size))
      have HCX_11 : Hid (VAt w10.drew (S + 2) c) := Lib.hid (HCX_10.out.below ((Below.refl w10.heap.size w10).drew) (ltb HCX_10.out))
      have HP8_11 : Hid (VAt w10.drew P8 x) := Lib.hid (HP8_10.out.below ((Below.refl w10.heap.size w10).drew) (ltb HP8_10.out))
      clear HB_10 HAX_10 HBX_10 HCX_10 HP8_10 HP14_10 HP16_10
      refine wp_region_noPanic ?_
      refine wp_region_held_drew (S := fun w' => VAt w' S a ∧ VAt w' (S + 1) b ∧ VAt w' P14 p ∧ VAt w' P16 r) (by kernel_rfl) ?_ (fun hHeld => ?_)
      · try dsimp only
        (refine ⟨?_, ?_, ?_, ?_⟩ <;> (first | with_reducible assumption))
      generalize w10.drew = w11 at *
      refine wpAnyH_take (i := 0) (v := ?_) (by (simp only [List.getElem?_toArray, List.getElem?_cons_zero]; rfl)) (by kernel_rfl) (by kernel_rfl) (by kernel_rfl) (fun _ _ _ h => h) (Or.inl ⟨by rfl, ?_⟩) (by assumption) ?_
      rotate_left
      · (intro w hSw; (try dsimp only at hSw); go_simp; try with_reducible rfl)
      try simp only [Act.put, List.setIfInBounds_toArray, List.set_cons_zero, List.set_cons_succ]
      refine wpAnyH_take (i := 1) (v := ?_) (by (simp only [List.getElem?_toArray, List.getElem?_cons_succ, List.getElem?_cons_zero]; rfl)) (by kernel_rfl) (by kernel_rfl) (by kernel_rfl) (fun _ _ _ h => h) (Or.inl ⟨by rfl, ?_⟩) (by assumption) ?_
      rotate_left
      · (intro w hSw; (try dsimp only at hSw); go_simp; try with_reducible rfl)
      try simp only [Act.put, List.setIfInBounds_toArray, List.set_cons_zero, List.set_cons_succ]
      refine wpAnyH_take (i := 2) (v := ?_) (by (simp only [List.getElem?_toArray, List.getElem?_cons_succ, List.getElem?_cons_zero]; rfl)) (by kernel_rfl) (by kernel_rfl) (by kernel_rfl) (fun _ _ _ h => h) (Or.inl ⟨by rfl, ?_⟩) (by assumption) ?_
      rotate_left
      · (intro w hSw; (try dsimp only at hSw); go_simp; try with_reducible rfl)
      try simp only [Act.put, List.setIfInBounds_toArray, List.set_cons_zero, List.set_cons_succ]
      refine wpAnyH_take (i := 3) (v := ?_) (by (simp only [List.getElem?_toArray, List.getElem?_cons_succ, List.getElem?_cons_zero]; rfl)) (by kernel_rfl) (by kernel_rfl) (by kernel_rfl) (fun _ _ _ h => h) (Or.inl ⟨by rfl, ?_⟩) (by assumption) ?_
      rotate_left
      · (intro w hSw; (try dsimp only at hSw); go_simp; try with_reducible rfl)
      try simp only [Act.put, List.setIfInBounds_toArray, List.set_cons_zero, List.set_cons_succ]
      refine wpAnyH_take (i := 4) (v := ?_) (by (simp only [List.getElem?_toArray, List.getElem?_cons_succ, List.getElem?_cons_zero]; rfl)) (by kernel_rfl) (by kernel_rfl) (by kernel_rfl) (fun _ _ _ h => h) (Or.inl ⟨by rfl, ?_⟩) (by assumption) ?_
      rotate_left
      · (intro w hSw; (try dsimp only at hSw); go_simp; try with_reducible rfl)
      try simp only [Act.put, List.setIfInBounds_toArray, List.set_cons_zero, List.set_cons_succ]
      refine wpAnyH_take (i := 5) (v := ?_) (by (simp only [List.getElem?_toArray, List.getElem?_cons_succ, List.getElem?_cons_zero]; rfl)) (by kernel_rfl) (by kernel_rfl) (by kernel_rfl) (fun _ _ _ h => h) (Or.inl ⟨by rfl, ?_⟩) (by assumption) ?_
      rotate_left
      · (intro w hSw; (try dsimp only at hSw); go_simp; try with_reducible rfl)
      try simp only [Act.put, List.setIfInBounds_toArray, List.set_cons_zero, List.set_cons_succ]
      refine wpAnyH_take (i := 6) (v := ?_) (by (simp only [List.getElem?_toArray, List.getElem?_cons_succ, List.getElem?_cons_zero]; rfl)) (by kernel_rfl) (by kernel_rfl) (by kernel_rfl) (fun _ _ _ h => h) (Or.inl ⟨by rfl, ?_⟩) (by assumption) ?_
      rotate_left
      · (intro w hSw; (try dsimp only at hSw); go_simp; try with_reducible rfl)
      try simp only [Act.put, List.setIfInBounds_toArray, List.set_cons_zero, List.set_cons_succ]
      refine wpAnyH_take (i := 7) (v := ?_) (by (simp only [List.getElem?_toArray, List.getElem?_cons_succ, List.getElem?_cons_zero]; rfl)) (by kernel_rfl) (by kernel_rfl) (by kernel_rfl) (fun _ _ _ h => h) (Or.inl ⟨by rfl, ?_⟩) (by assumption) ?_
      rotate_left
      · intro w hSw
        try dsimp only at hSw
        refine take_load (x := .tmp 14) (ty := 23) ?_ (P14) ?_ 23 _ (0, 0) _ hSw.2.2.1 Tryd.underlying23 rfl (by kernel_rfl)
        all_goals rfl
      try simp only [Act.put, List.setIfInBounds_toArray, List.set_cons_zero, List.set_cons_succ]
      refine wpAnyH_take (i := 8) (v := ?_) (by (simp only [List.getElem?_toArray, List.getElem?_cons_succ, List.getElem?_cons_zero]; rfl)) (by kernel_rfl) (by kernel_rfl) (by kernel_rfl) (fun _ _ _ h => h) (Or.inl ⟨by rfl, ?_⟩) (by assumption) ?_
      rotate_left
      · intro w hSw
        try dsimp only at hSw
        refine take_load (x := .tmp 16) (ty := 23) ?_ (P16) ?_ 23 _ (0, 0) _ hSw.2.2.2 Tryd.underlying23 rfl (by kernel_rfl)
        all_goals rfl
      try simp only [Act.put, List.setIfInBounds_toArray, List.set_cons_zero, List.set_cons_succ]
      refine wpAnyH_take (i := 10) (v := ?_) (by (simp only [List.getElem?_toArray, List.getElem?_cons_succ, List.getElem?_cons_zero]; rfl)) (by kernel_rfl) (by kernel_rfl) (by kernel_rfl) (fun _ _ _ h => h) (Or.inl ⟨by rfl, ?_⟩) (by assumption) ?_
      rotate_left
      · intro w hSw
        try dsimp only at hSw
        refine take_load (x := .tmp 3) (ty := 23) ?_ (S) ?_ 23 _ (0, 0) _ hSw.1 Tryd.underlying23 rfl (by kernel_rfl)
        all_goals rfl
      try simp only [Act.put, List.setIfInBounds_toArray, List.set_cons_zero, List.set_cons_succ]
      refine wpAnyH_take (i := 11) (v := ?_) (by (simp only [List.getElem?_toArray, List.getElem?_cons_succ, List.getElem?_cons_zero]; rfl)) (by kernel_rfl) (by kernel_rfl) (by kernel_rfl) (fun _ _ _ h => h) (Or.inl ⟨by rfl, ?_⟩) (by assumption) ?_
      rotate_left
      · intro w hSw
        try dsimp only at hSw
        refine take_load (x := .tmp 4) (ty := 23) ?_ ((S + 1)) ?_ 23 _ (0, 0) _ hSw.2.1 Tryd.underlying23 rfl (by kernel_rfl)
        all_goals rfl
      try simp only [Act.put, List.setIfInBounds_toArray, List.set_cons_zero, List.set_cons_succ]
      refine wpAnyH_ready (rs := [9]) (by kernel_rfl) (by simp) ?_
      refine AllReadyH.cons (by (simp only [List.getElem?_toArray, List.getElem?_cons_succ, List.getElem?_cons_zero]; rfl)) (fun K hK => ?_) AllReadyH.nil
      go_simp
      refine (fits_any p r w11).mono ?_
      rintro e w12 ⟨rfl, hb⟩
      rw [HFP.out]
      replace FAX : VAt w12 S a := FAX.below hb (ltb FAX)
      replace FBX : VAt w12 (S + 1) b := FBX.below hb (ltb FBX)
      replace FP14 : VAt w12 P14 p := FP14.below hb (ltb FP14)
      replace FP16 : VAt w12 P16 r := FP16.below hb (ltb FP16)
      have HB_12 : Hid (Below w.heap.size w w12) := Lib.hid (HB_11.out.trans (hb.mono HB_11.out.size))
      have HCX_12 : Hid (VAt w12 (S + 2) c) := Lib.hid (HCX_11.out.below hb (ltb HCX_11.out))
      have HP8_12 : Hid (VAt w12 P8 x) := Lib.hid (HP8_11.out.below hb (ltb HP8_11.out))
      clear hb HB_11 HCX_11 HP8_11
      refine hK.out _ _ ?_ (fun hHeld => ?_)
      · try dsimp only
        (refine ⟨?_, ?_, ?_, ?_⟩ <;> (first | with_reducible assumption))
      clear hK K
      try simp only [Act.put, List.setIfInBounds_toArray, List.set_cons_zero, List.set_cons_succ]
      refine wpAnyH_ready (rs := [12]) (by kernel_rfl) (by simp) ?_
      refine AllReadyH.cons (by (simp only [List.getElem?_toArray, List.getElem?_cons_succ, List.getElem?_cons_zero]; rfl)) (fun K hK => ?_) AllReadyH.nil
      go_simp
      refine (fits_any a b w12).mono ?_
      rintro e w13 ⟨rfl, hb⟩
      replace FAX : VAt w13 S a := FAX.below hb (ltb FAX)
      replace FBX : VAt w13 (S + 1) b := FBX.below hb (ltb FBX)
      replace FP14 : VAt w13 P14 p := FP14.below hb (ltb FP14)
      replace FP16 : VAt w13 P16 r := FP16.below hb (ltb FP16)
      have HB_13 : Hid (Below w.heap.size w w13) := Lib.hid (HB_12.out.trans (hb.mono HB_12.out.size))
      have HCX_13 : Hid (VAt w13 (S + 2) c) := Lib.hid (HCX_12.out.below hb (ltb HCX_12.out))
      have HP8_13 : Hid (VAt w13 P8 x) := Lib.hid (HP8_12.out.below hb (ltb HP8_12.out))
      clear hb HB_12 HCX_12 HP8_12
      refine hK.out _ _ ?_ (fun hHeld => ?_)
      · try dsimp only
        (refine ⟨?_, ?_, ?_, ?_⟩ <;> (first | with_reducible assumption))
      clear hK K
      try simp only [Act.put, List.setIfInBounds_toArray, List.set_cons_zero, List.set_cons_succ]
      refine wpAnyH_take (i := 13) (v := ?_) (by (simp only [List.getElem?_toArray, List.getElem?_cons_succ, List.getElem?_cons_zero]; rfl)) (by kernel_rfl) (by kernel_rfl) (by kernel_rfl) (fun _ _ _ h => h) (Or.inl ⟨by rfl, ?_⟩) (by assumption) ?_
      rotate_left
      · (intro w hSw; (try dsimp only at hSw); go_simp; try with_reducible rfl)
      try simp only [Act.put, List.setIfInBounds_toArray, List.set_cons_zero, List.set_cons_succ]
      refine wpAnyH_take (i := 14) (v := ?_) (by (simp only [List.getElem?_toArray, List.getElem?_cons_succ, List.getElem?_cons_zero]; rfl)) (by kernel_rfl) (by kernel_rfl) (by kernel_rfl) (fun _ _ _ h => h) (Or.inl ⟨by rfl, ?_⟩) (by assumption) ?_
      rotate_left
      · (intro w hSw; (try dsimp only at hSw); go_simp; try with_reducible rfl)
      try simp only [Act.put, List.setIfInBounds_toArray, List.set_cons_zero, List.set_cons_succ]
      refine wpAnyH_take (i := 15) (v := ?_) (by (simp only [List.getElem?_toArray, List.getElem?_cons_succ, List.getElem?_cons_zero]; rfl)) (by kernel_rfl) (by kernel_rfl) (by kernel_rfl) (fun _ _ _ h => h) (Or.inl ⟨by rfl, ?_⟩) (by assumption) ?_
      rotate_left
      · (intro w hSw; (try dsimp only at hSw); go_simp; try with_reducible rfl)
      try simp only [Act.put, List.setIfInBounds_toArray, List.set_cons_zero, List.set_cons_succ]
      refine wpAnyH_done (by kernel_rfl) ?_ _
      refine NoPanic.normal ?_
      clear hHeld FAX FBX FP14 FP16
      go_wp2_with fail
      go_ret
      exact ⟨by simp, HB_13.out⟩
  · skip
    have hx1 := told_ok (Hex.out.symm.trans hex0)
    obtain ⟨hab, hs, hxs⟩ := hx1
    have ha : okv a = true := by cases h : okv a <;> simp_all
    have hb : okv b = true := by cases h : okv b <;> simp_all
    have hxe : x = fun i => a i + b i := Hx.out.trans hxs
    have HXE := Lib.hid hxe
    have HSB := Lib.hid (sub_back ha hb hs)
    have HFS : Hid (fitB a x = true) := Lib.hid (by rw [hxe]; exact fit_sum hb)
    have HOX : Hid (okv x = true) := Lib.hid (by rw [hxe]; exact hs)
    clear hab hs hxs ha hb hxe
    subst hex0
    go_wp2_with (first | (refine wpList_load_row rfl 23 (.tmp 8) rfl (P8) rfl 23 _ (0, 0) _ HP8_6.out Tryd.underlying23 rfl (by kernel_rfl) ?_) | (refine wpList_load_row rfl 23 (.tmp 4) rfl ((S + 1)) rfl 23 _ (0, 0) _ HBX_6.out Tryd.underlying23 rfl (by kernel_rfl) ?_))
    refine (sub_any x b w6).mono ?_
    rintro e w7 ⟨rfl, hb⟩
    rw [show toldV (okv x && okv b) (fun i => x i - b i) = a from by rw [HXE.out]; exact HSB.out.1, show toldE (okv x && okv b) (fun i => x i - b i) 31 = 0 from by rw [HXE.out]; exact HSB.out.2]
    have HB_7 : Hid (Below w.heap.size w w7) := Lib.hid (HB_6.out.trans (hb.mono HB_6.out.size))
    have HAX_7 : Hid (VAt w7 S a) := Lib.hid (HAX_6.out.below hb (ltb HAX_6.out))
    have HBX_7 : Hid (VAt w7 (S + 1) b) := Lib.hid (HBX_6.out.below hb (ltb HBX_6.out))
    have HCX_7 : Hid (VAt w7 (S + 2) c) := Lib.hid (HCX_6.out.below hb (ltb HCX_6.out))
    have HP8_7 : Hid (VAt w7 P8 x) := Lib.hid (HP8_6.out.below hb (ltb HP8_6.out))
    clear hb HB_6 HAX_6 HBX_6 HCX_6 HP8_6
    obtain ⟨P12, hP12⟩ : ∃ x, x = w7.heap.size := ⟨_, rfl⟩
    have hal : Below w7.heap.size w7 (w7.alloc (.cells #[.int .i64 (a 0), .int .i64 (a 1), .int .i64 (a 2), .int .i64 (a 3)] 23)) := (Below.refl _ _).alloc (Nat.le_refl _) _
    have hnew : (w7.alloc (.cells #[.int .i64 (a 0), .int .i64 (a 1), .int .i64 (a 2), .int .i64 (a 3)] 23)).heap[P12]? = some (.cells #[.int .i64 (a 0), .int .i64 (a 1), .int .i64 (a 2), .int .i64 (a 3)] 23 (0, 0)) := by rw [hP12]; exact heap_alloc_new _ _
    have HB_8 : Hid (Below w.heap.size w (w7.alloc (.cells #[.int .i64 (a 0), .int .i64 (a 1), .int .i64 (a 2), .int .i64 (a 3)] 23))) := Lib.hid (HB_7.out.trans (hal.mono HB_7.out.size))
    have HAX_8 : Hid (VAt (w7.alloc (.cells #[.int .i64 (a 0), .int .i64 (a 1), .int .i64 (a 2), .int .i64 (a 3)] 23)) S a) := Lib.hid (HAX_7.out.below hal (ltb HAX_7.out))
    have HBX_8 : Hid (VAt (w7.alloc (.cells #[.int .i64 (a 0), .int .i64 (a 1), .int .i64 (a 2), .int .i64 (a 3)] 23)) (S + 1) b) := Lib.hid (HBX_7.out.below hal (ltb HBX_7.out))
    have HCX_8 : Hid (VAt (w7.alloc (.cells #[.int .i64 (a 0), .int .i64 (a 1), .int .i64 (a 2), .int .i64 (a 3)] 23)) (S + 2) c) := Lib.hid (HCX_7.out.below hal (ltb HCX_7.out))
    have HP8_8 : Hid (VAt (w7.alloc (.cells #[.int .i64 (a 0), .int .i64 (a 1), .int .i64 (a 2), .int .i64 (a 3)] 23)) P8 x) := Lib.hid (HP8_7.out.below hal (ltb HP8_7.out))
    clear hal HB_7 HAX_7 HBX_7 HCX_7 HP8_7
    have HP12_8 : Hid (VAt (w7.alloc (.cells #[.int .i64 (a 0), .int .i64 (a 1), .int .i64 (a 2), .int .i64 (a 3)] 23)) P12 a) := Lib.hid hnew
    clear hnew
    go_upto_region 10 with (refine wpList_store_row rfl 23 (.tmp 12) (.tmp 47) rfl w7.heap.size _ rfl rfl 23 _ (heap_alloc_new w7 _) (by kernel_rfl) rfl (by simp [Value.oneCell']) ?_; rw [World.setRow_alloc_new])
    rw [← hP12]
    clear hP12
    generalize w7.alloc (.cells #[.int .i64 (a 0), .int .i64 (a 1), .int .i64 (a 2), .int .i64 (a 3)] 23) = w8 at HB_8 HAX_8 HBX_8 HCX_8 HP8_8 HP12_8 ⊢
    have q1 : ∀ w, (Go.binOp .neq 23 (.agg #[.int .i64 (a 0), .int .i64 (a 1), .int .i64 (a 2), .int .i64 (a 3)]) (.agg #[.int .i64 (a 0), .int .i64 (a 1), .int .i64 (a 2), .int .i64 (a 3)])).run Tryd.prog w = .ok (.bool false) w := fun w => by rw [ne_vec2]; simp
    go_wp2_with (first | (refine wpList_load_g rfl 23 (.tmp 12) rfl (P12) rfl 23 _ (0, 0) _ HP12_8.out Tryd.underlying23 rfl (by kernel_rfl) ?_) | (refine wpList_load_g rfl 23 (.tmp 3) rfl (S) rfl 23 _ (0, 0) _ HAX_8.out Tryd.underlying23 rfl (by kernel_rfl) ?_) | (refine wpList_load_g rfl 23 (.tmp 8) rfl (P8) rfl 23 _ (0, 0) _ HP8_8.out Tryd.underlying23 rfl (by kernel_rfl) ?_))
    refine (fits_any a x w8).mono ?_
    rintro e w9 ⟨rfl, hb⟩
    rw [HFS.out]
    have HB_9 : Hid (Below w.heap.size w w9) := Lib.hid (HB_8.out.trans (hb.mono HB_8.out.size))
    have HAX_9 : Hid (VAt w9 S a) := Lib.hid (HAX_8.out.below hb (ltb HAX_8.out))
    have HBX_9 : Hid (VAt w9 (S + 1) b) := Lib.hid (HBX_8.out.below hb (ltb HBX_8.out))
    have HCX_9 : Hid (VAt w9 (S + 2) c) := Lib.hid (HCX_8.out.below hb (ltb HCX_8.out))
    have HP8_9 : Hid (VAt w9 P8 x) := Lib.hid (HP8_8.out.below hb (ltb HP8_8.out))
    have HP12_9 : Hid (VAt w9 P12 a) := Lib.hid (HP12_8.out.below hb (ltb HP12_8.out))
    clear hb HB_8 HAX_8 HBX_8 HCX_8 HP8_8 HP12_8
    clear q1
    go_wp2_with (refine wpList_load_g rfl 23 (.tmp 8) rfl (P8) rfl 23 _ (0, 0) _ HP8_9.out Tryd.underlying23 rfl (by kernel_rfl) ?_)
    refine (right_any x w9).mono ?_
    rintro e w10 ⟨rfl, hb⟩
    rw [HOX.out]
    have HB_10 : Hid (Below w.heap.size w w10) := Lib.hid (HB_9.out.trans (hb.mono HB_9.out.size))
    have HAX_10 : Hid (VAt w10 S a) := Lib.hid (HAX_9.out.below hb (ltb HAX_9.out))
    have HBX_10 : Hid (VAt w10 (S + 1) b) := Lib.hid (HBX_9.out.below hb (ltb HBX_9.out))
    have HCX_10 : Hid (VAt w10 (S + 2) c) := Lib.hid (HCX_9.out.below hb (ltb HCX_9.out))
    have HP8_10 : Hid (VAt w10 P8 x) := Lib.hid (HP8_9.out.below hb (ltb HP8_9.out))
    have HP12_10 : Hid (VAt w10 P12 a) := Lib.hid (HP12_9.out.below hb (ltb HP12_9.out))
    clear hb HB_9 HAX_9 HBX_9 HCX_9 HP8_9 HP12_9
    clear HP8_10 HP12_10
    go_wp2_with (first | (refine wpList_load_row rfl 23 (.tmp 3) rfl (S) rfl 23 _ (0, 0) _ HAX_10.out Tryd.underlying23 rfl (by kernel_rfl) ?_) | (refine wpList_load_row rfl 23 (.tmp 5) rfl ((S + 2)) rfl 23 _ (0, 0) _ HCX_10.out Tryd.underlying23 rfl (by kernel_rfl) ?_))
    refine (add_any a c w10).mono ?_
    rintro e w11 ⟨rfl, hb⟩
    obtain ⟨p, hp⟩ : ∃ x, x = toldV (okv a && okv c) (fun i => a i + c i) := ⟨_, rfl⟩
    rw [← hp]
    have Hp := Lib.hid hp
    clear hp
    obtain ⟨ep, hep⟩ : ∃ x, x = toldE (okv a && okv c) (fun i => a i + c i) 30 := ⟨_, rfl⟩
    rw [← hep]
    have Hep := Lib.hid hep
    clear hep
    have HB_11 : Hid (Below w.heap.size w w11) := Lib.hid (HB_10.out.trans (hb.mono HB_10.out.size))
    have HAX_11 : Hid (VAt w11 S a) := Lib.hid (HAX_10.out.below hb (ltb HAX_10.out))
    have HBX_11 : Hid (VAt w11 (S + 1) b) := Lib.hid (HBX_10.out.below hb (ltb HBX_10.out))
    have HCX_11 : Hid (VAt w11 (S + 2) c) := Lib.hid (HCX_10.out.below hb (ltb HCX_10.out))
    clear hb HB_10 HAX_10 HBX_10 HCX_10
    obtain ⟨P14, hP14⟩ : ∃ x, x = w11.heap.size := ⟨_, rfl⟩
    have hal : Below w11.heap.size w11 (w11.alloc (.cells #[.int .i64 (p 0), .int .i64 (p 1), .int .i64 (p 2), .int .i64 (p 3)] 23)) := (Below.refl _ _).alloc (Nat.le_refl _) _
    have hnew : (w11.alloc (.cells #[.int .i64 (p 0), .int .i64 (p 1), .int .i64 (p 2), .int .i64 (p 3)] 23)).heap[P14]? = some (.cells #[.int .i64 (p 0), .int .i64 (p 1), .int .i64 (p 2), .int .i64 (p 3)] 23 (0, 0)) := by rw [hP14]; exact heap_alloc_new _ _
    have HB_12 : Hid (Below w.heap.size w (w11.alloc (.cells #[.int .i64 (p 0), .int .i64 (p 1), .int .i64 (p 2), .int .i64 (p 3)] 23))) := Lib.hid (HB_11.out.trans (hal.mono HB_11.out.size))
    have HAX_12 : Hid (VAt (w11.alloc (.cells #[.int .i64 (p 0), .int .i64 (p 1), .int .i64 (p 2), .int .i64 (p 3)] 23)) S a) := Lib.hid (HAX_11.out.below hal (ltb HAX_11.out))
    have HBX_12 : Hid (VAt (w11.alloc (.cells #[.int .i64 (p 0), .int .i64 (p 1), .int .i64 (p 2), .int .i64 (p 3)] 23)) (S + 1) b) := Lib.hid (HBX_11.out.below hal (ltb HBX_11.out))
    have HCX_12 : Hid (VAt (w11.alloc (.cells #[.int .i64 (p 0), .int .i64 (p 1), .int .i64 (p 2), .int .i64 (p 3)] 23)) (S + 2) c) := Lib.hid (HCX_11.out.below hal (ltb HCX_11.out))
    clear hal HB_11 HAX_11 HBX_11 HCX_11
    have HP14_12 : Hid (VAt (w11.alloc (.cells #[.int .i64 (p 0), .int .i64 (p 1), .int .i64 (p 2), .int .i64 (p 3)] 23)) P14 p) := Lib.hid hnew
    clear hnew
    go_wp2_with (first | (refine wpList_store_row rfl 23 (.tmp 14) (.tmp 71) rfl w11.heap.size _ rfl rfl 23 _ (heap_alloc_new w11 _) (by kernel_rfl) rfl (by simp [Value.oneCell']) ?_; rw [World.setRow_alloc_new]) | (refine wpList_load_row rfl 23 (.tmp 4) rfl ((S + 1)) rfl 23 _ (0, 0) _ HBX_12.out Tryd.underlying23 rfl (by kernel_rfl) ?_) | (refine wpList_load_row rfl 23 (.tmp 5) rfl ((S + 2)) rfl 23 _ (0, 0) _ HCX_12.out Tryd.underlying23 rfl (by kernel_rfl) ?_))
    rw [← hP14]
    clear hP14
    generalize w11.alloc (.cells #[.int .i64 (p 0), .int .i64 (p 1), .int .i64 (p 2), .int .i64 (p 3)] 23) = w12 at HB_12 HAX_12 HBX_12 HCX_12 HP14_12 ⊢
    refine (add_any b c w12).mono ?_
    rintro e w13 ⟨rfl, hb⟩
    obtain ⟨r, hr⟩ : ∃ x, x = toldV (okv b && okv c) (fun i => b i + c i) := ⟨_, rfl⟩
    rw [← hr]
    have Hr := Lib.hid hr
    clear hr
    obtain ⟨er, her⟩ : ∃ x, x = toldE (okv b && okv c) (fun i => b i + c i) 30 := ⟨_, rfl⟩
    rw [← her]
    have Her := Lib.hid her
    clear her
    have HB_13 : Hid (Below w.heap.size w w13) := Lib.hid (HB_12.out.trans (hb.mono HB_12.out.size))
    have HAX_13 : Hid (VAt w13 S a) := Lib.hid (HAX_12.out.below hb (ltb HAX_12.out))
    have HBX_13 : Hid (VAt w13 (S + 1) b) := Lib.hid (HBX_12.out.below hb (ltb HBX_12.out))
    have HCX_13 : Hid (VAt w13 (S + 2) c) := Lib.hid (HCX_12.out.below hb (ltb HCX_12.out))
    have HP14_13 : Hid (VAt w13 P14 p) := Lib.hid (HP14_12.out.below hb (ltb HP14_12.out))
    clear hb HB_12 HAX_12 HBX_12 HCX_12 HP14_12
    obtain ⟨P16, hP16⟩ : ∃ x, x = w13.heap.size := ⟨_, rfl⟩
    have hal : Below w13.heap.size w13 (w13.alloc (.cells #[.int .i64 (r 0), .int .i64 (r 1), .int .i64 (r 2), .int .i64 (r 3)] 23)) := (Below.refl _ _).alloc (Nat.le_refl _) _
    have hnew : (w13.alloc (.cells #[.int .i64 (r 0), .int .i64 (r 1), .int .i64 (r 2), .int .i64 (r 3)] 23)).heap[P16]? = some (.cells #[.int .i64 (r 0), .int .i64 (r 1), .int .i64 (r 2), .int .i64 (r 3)] 23 (0, 0)) := by rw [hP16]; exact heap_alloc_new _ _
    have HB_14 : Hid (Below w.heap.size w (w13.alloc (.cells #[.int .i64 (r 0), .int .i64 (r 1), .int .i64 (r 2), .int .i64 (r 3)] 23))) := Lib.hid (HB_13.out.trans (hal.mono HB_13.out.size))
    have HAX_14 : Hid (VAt (w13.alloc (.cells #[.int .i64 (r 0), .int .i64 (r 1), .int .i64 (r 2), .int .i64 (r 3)] 23)) S a) := Lib.hid (HAX_13.out.below hal (ltb HAX_13.out))
    have HBX_14 : Hid (VAt (w13.alloc (.cells #[.int .i64 (r 0), .int .i64 (r 1), .int .i64 (r 2), .int .i64 (r 3)] 23)) (S + 1) b) := Lib.hid (HBX_13.out.below hal (ltb HBX_13.out))
    have HCX_14 : Hid (VAt (w13.alloc (.cells #[.int .i64 (r 0), .int .i64 (r 1), .int .i64 (r 2), .int .i64 (r 3)] 23)) (S + 2) c) := Lib.hid (HCX_13.out.below hal (ltb HCX_13.out))
    have HP14_14 : Hid (VAt (w13.alloc (.cells #[.int .i64 (r 0), .int .i64 (r 1), .int .i64 (r 2), .int .i64 (r 3)] 23)) P14 p) := Lib.hid (HP14_13.out.below hal (ltb HP14_13.out))
    clear hal HB_13 HAX_13 HBX_13 HCX_13 HP14_13
    have HP16_14 : Hid (VAt (w13.alloc (.cells #[.int .i64 (r 0), .int .i64 (r 1), .int .i64 (r 2), .int .i64 (r 3)] 23)) P16 r) := Lib.hid hnew
    clear hnew
    go_upto_region 14 with (refine wpList_store_row rfl 23 (.tmp 16) (.tmp 77) rfl w13.heap.size _ rfl rfl 23 _ (heap_alloc_new w13 _) (by kernel_rfl) rfl (by simp [Value.oneCell']) ?_; rw [World.setRow_alloc_new])
    rw [← hP16]
    clear hP16
    generalize w13.alloc (.cells #[.int .i64 (r 0), .int .i64 (r 1), .int .i64 (r 2), .int .i64 (r 3)] 23) = w14 at HB_14 HAX_14 HBX_14 HCX_14 HP14_14 HP16_14 ⊢
    have hcase : ep ≠ 0 ∨ (ep = 0 ∧ er ≠ 0) ∨ (ep = 0 ∧ er = 0) := by omega
    rcases hcase with hcase | hcase | hcase
    · skip
      have h := hcase
      clear hcase
      have h1 : (ep == 0) = false := by simpa using h
      have h2 : (ep != 0) = true := by simpa using h
      clear h
      have FAX : VAt w14.drew S a := HAX_14.out
      have FBX : VAt w14.drew (S + 1) b := HBX_14.out
      have FP14 : VAt w14.drew P14 p := HP14_14.out
      have FP16 : VAt w14.drew P16 r := HP16_14.out
      have HB_15 : Hid (Below w.heap.size w w14.drew) := Lib.hid (HB_14.out.trans (((Below.refl w14.heap.size w14).drew).mono HB_14.out.size))
      have HCX_15 : Hid (VAt w14.drew (S + 2) c) := Lib.hid (HCX_14.out.below ((Below.refl w14.heap.size w14).drew) (ltb HCX_14.out))
      clear HB_14 HAX_14 HBX_14 HCX_14 HP14_14 HP16_14
      refine wp_region_noPanic ?_
      refine wp_region_held_drew (S := fun w' => VAt w' S a ∧ VAt w' (S + 1) b ∧ VAt w' P14 p ∧ VAt w' P16 r) (by kernel_rfl) ?_ (fun hHeld => ?_)
      · try dsimp only
        (refine ⟨?_, ?_, ?_, ?_⟩ <;> (first | with_reducible assumption))
      generalize w14.drew = w15 at *
      refine wpAnyH_take (i := 0) (v := ?_) (by (simp only [List.getElem?_toArray, List.getElem?_cons_zero]; rfl)) (by kernel_rfl) (by kernel_rfl) (by kernel_rfl) (fun _ _ _ h => h) (Or.inl ⟨by rfl, ?_⟩) (by assumption) ?_
      rotate_left
      · (intro w hSw; (try dsimp only at hSw); go_simp; try with_reducible rfl)
      try simp only [Act.put, List.setIfInBounds_toArray, List.set_cons_zero, List.set_cons_succ]
      refine wpAnyH_take (i := 1) (v := ?_) (by (simp only [List.getElem?_toArray, List.getElem?_cons_succ, List.getElem?_cons_zero]; rfl)) (by kernel_rfl) (by kernel_rfl) (by kernel_rfl) (fun _ _ _ h => h) (Or.inl ⟨by rfl, ?_⟩) (by assumption) ?_
      rotate_left
      · (intro w hSw; (try dsimp only at hSw); go_simp; try with_reducible rfl)
      try simp only [Act.put, List.setIfInBounds_toArray, List.set_cons_zero, List.set_cons_succ]
      refine wpAnyH_take (i := 2) (v := ?_) (by (simp only [List.getElem?_toArray, List.getElem?_cons_succ, List.getElem?_cons_zero]; rfl)) (by kernel_rfl) (by kernel_rfl) (by kernel_rfl) (fun _ _ _ h => h) (Or.inl ⟨by rfl, ?_⟩) (by assumption) ?_
      rotate_left
      · (intro w hSw; (try dsimp only at hSw); go_simp; try with_reducible rfl)
      try simp only [Act.put, List.setIfInBounds_toArray, List.set_cons_zero, List.set_cons_succ]
      refine wpAnyH_take (i := 3) (v := undef) (by (simp only [List.getElem?_toArray, List.getElem?_cons_succ, List.getElem?_cons_zero]; rfl)) (by kernel_rfl) (by kernel_rfl) (by kernel_rfl) (fun _ _ _ h => h) (Or.inr ⟨by rfl, rfl⟩) (by assumption) ?_
      try simp only [Act.put, List.setIfInBounds_toArray, List.set_cons_zero, List.set_cons_succ]
      refine wpAnyH_take (i := 4) (v := undef) (by (simp only [List.getElem?_toArray, List.getElem?_cons_succ, List.getElem?_cons_zero]; rfl)) (by kernel_rfl) (by kernel_rfl) (by kernel_rfl) (fun _ _ _ h => h) (Or.inr ⟨by rfl, rfl⟩) (by assumption) ?_
      try simp only [Act.put, List.setIfInBounds_toArray, List.set_cons_zero, List.set_cons_succ]
      refine wpAnyH_take (i := 5) (v := ?_) (by (simp only [List.getElem?_toArray, List.getElem?_cons_succ, List.getElem?_cons_zero]; rfl)) (by kernel_rfl) (by kernel_rfl) (by kernel_rfl) (fun _ _ _ h => h) (Or.inl ⟨by rfl, ?_⟩) (by assumption) ?_
      rotate_left
      · (intro w hSw; (try dsimp only at hSw); go_simp; try with_reducible rfl)
      try simp only [Act.put, List.setIfInBounds_toArray, List.set_cons_zero, List.set_cons_succ]
      refine wpAnyH_take (i := 6) (v := ?_) (by (simp only [List.getElem?_toArray, List.getElem?_cons_succ, List.getElem?_cons_zero]; rfl)) (by kernel_rfl) (by kernel_rfl) (by kernel_rfl) (fun _ _ _ h => h) (Or.inl ⟨by rfl, ?_⟩) (by assumption) ?_
      rotate_left
      · (intro w hSw; (try dsimp only at hSw); go_simp; try with_reducible rfl)
      try simp only [Act.put, List.setIfInBounds_toArray, List.set_cons_zero, List.set_cons_succ]
      refine wpAnyH_take (i := 7) (v := undef) (by (simp only [List.getElem?_toArray, List.getElem?_cons_succ, List.getElem?_cons_zero]; rfl)) (by kernel_rfl) (by kernel_rfl) (by kernel_rfl) (fun _ _ _ h => h) (Or.inr ⟨by rfl, rfl⟩) (by assumption) ?_
      try simp only [Act.put, List.setIfInBounds_toArray, List.set_cons_zero, List.set_cons_succ]
      refine wpAnyH_take (i := 8) (v := undef) (by (simp only [List.getElem?_toArray, List.getElem?_cons_succ, List.getElem?_cons_zero]; rfl)) (by kernel_rfl) (by kernel_rfl) (by kernel_rfl) (fun _ _ _ h => h) (Or.inr ⟨by rfl, rfl⟩) (by assumption) ?_
      try simp only [Act.put, List.setIfInBounds_toArray, List.set_cons_zero, List.set_cons_succ]
      refine wpAnyH_take (i := 10) (v := undef) (by (simp only [List.getElem?_toArray, List.getElem?_cons_succ, List.getElem?_cons_zero]; rfl)) (by kernel_rfl) (by kernel_rfl) (by kernel_rfl) (fun _ _ _ h => h) (Or.inr ⟨by rfl, rfl⟩) (by assumption) ?_
      try simp only [Act.put, List.setIfInBounds_toArray, List.set_cons_zero, List.set_cons_succ]
      refine wpAnyH_take (i := 11) (v := undef) (by (simp only [List.getElem?_toArray, List.getElem?_cons_succ, List.getElem?_cons_zero]; rfl)) (by kernel_rfl) (by kernel_rfl) (by kernel_rfl) (fun _ _ _ h => h) (Or.inr ⟨by rfl, rfl⟩) (by assumption) ?_
      try simp only [Act.put, List.setIfInBounds_toArray, List.set_cons_zero, List.set_cons_succ]
      refine wpAnyH_take (i := 9) (v := undef) (by (simp only [List.getElem?_toArray, List.getElem?_cons_succ, List.getElem?_cons_zero]; rfl)) (by kernel_rfl) (by kernel_rfl) (by kernel_rfl) (fun _ _ _ h => h) (Or.inr ⟨by rfl, rfl⟩) (by assumption) ?_
      try simp only [Act.put, List.setIfInBounds_toArray, List.set_cons_zero, List.set_cons_succ]
      refine wpAnyH_take (i := 12) (v := undef) (by (simp only [List.getElem?_toArray, List.getElem?_cons_succ, List.getElem?_cons_zero]; rfl)) (by kernel_rfl) (by kernel_rfl) (by kernel_rfl) (fun _ _ _ h => h) (Or.inr ⟨by rfl, rfl⟩) (by assumption) ?_
      try simp only [Act.put, List.setIfInBounds_toArray, List.set_cons_zero, List.set_cons_succ]
      refine wpAnyH_take (i := 13) (v := undef) (by (simp only [List.getElem?_toArray, List.getElem?_cons_succ, List.getElem?_cons_zero]; rfl)) (by kernel_rfl) (by kernel_rfl) (by kernel_rfl) (fun _ _ _ h => h) (Or.inr ⟨by rfl, rfl⟩) (by assumption) ?_
      try simp only [Act.put, List.setIfInBounds_toArray, List.set_cons_zero, List.set_cons_succ]
      refine wpAnyH_take (i := 14) (v := ?_) (by (simp only [List.getElem?_toArray, List.getElem?_cons_succ, List.getElem?_cons_zero]; rfl)) (by kernel_rfl) (by kernel_rfl) (by kernel_rfl) (fun _ _ _ h => h) (Or.inl ⟨by rfl, ?_⟩) (by assumption) ?_
      rotate_left
      · (intro w hSw; (try dsimp only at hSw); go_simp; try with_reducible rfl)
      try simp only [Act.put, List.setIfInBounds_toArray, List.set_cons_zero, List.set_cons_succ]
      refine wpAnyH_take (i := 15) (v := ?_) (by (simp only [List.getElem?_toArray, List.getElem?_cons_succ, List.getElem?_cons_zero]; rfl)) (by kernel_rfl) (by kernel_rfl) (by kernel_rfl) (fun _ _ _ h => h) (Or.inl ⟨by rfl, ?_⟩) (by assumption) ?_
      rotate_left
      · (intro w hSw; (try dsimp only at hSw); go_simp; try with_reducible rfl)
      try simp only [Act.put, List.setIfInBounds_toArray, List.set_cons_zero, List.set_cons_succ]
      refine wpAnyH_done (by kernel_rfl) ?_ _
      refine NoPanic.normal ?_
      clear hHeld FAX FBX FP14 FP16
      go_wp2_with fail
      go_ret
      exact ⟨by simp, HB_15.out⟩
    · skip
      obtain ⟨h0, h⟩ := hcase
      have h1 : (er == 0) = false := by simpa using h
      have h2 : (er != 0) = true := by simpa using h
      clear h
      subst h0
      have FAX : VAt w14.drew S a := HAX_14.out
      have FBX : VAt w14.drew (S + 1) b := HBX_14.out
      have FP14 : VAt w14.drew P14 p := HP14_14.out
      have FP16 : VAt w14.drew P16 r := HP16_14.out
      have HB_15 : Hid (Below w.heap.size w w14.drew) := Lib.hid (HB_14.out.trans (((Below.refl w14.heap.size w14).drew).mono HB_14.out.size))
      have HCX_15 : Hid (VAt w14.drew (S + 2) c) := Lib.hid (HCX_14.out.below ((Below.refl w14.heap.size w14).drew) (ltb HCX_14.out))
      clear HB_14 HAX_14 HBX_14 HCX_14 HP14_14 HP16_14
      refine wp_region_noPanic ?_
      refine wp_region_held_drew (S := fun w' => VAt w' S a ∧ VAt w' (S + 1) b ∧ VAt w' P14 p ∧ VAt w' P16 r) (by kernel_rfl) ?_ (fun hHeld => ?_)
      · try dsimp only
        (refine ⟨?_, ?_, ?_, ?_⟩ <;> (first | with_reducible assumption))
      generalize w14.drew = w15 at *
      refine wpAnyH_take (i := 0) (v := ?_) (by (simp only [List.getElem?_toArray, List.getElem?_cons_zero]; rfl)) (by kernel_rfl) (by kernel_rfl) (by kernel_rfl) (fun _ _ _ h => h) (Or.inl ⟨by rfl, ?_⟩) (by assumption) ?_
      rotate_left
      · (intro w hSw; (try dsimp only at hSw); go_simp; try with_reducible rfl)
      try simp only [Act.put, List.setIfInBounds_toArray, List.set_cons_zero, List.set_cons_succ]
      refine wpAnyH_take (i := 1) (v := ?_) (by (simp only [List.getElem?_toArray, List.getElem?_cons_succ, List.getElem?_cons_zero]; rfl)) (by kernel_rfl) (by kernel_rfl) (by kernel_rfl) (fun _ _ _ h => h) (Or.inl ⟨by rfl, ?_⟩) (by assumption) ?_
      rotate_left
      · (intro w hSw; (try dsimp only at hSw); go_simp; try with_reducible rfl)
      try simp only [Act.put, List.setIfInBounds_toArray, List.set_cons_zero, List.set_cons_succ]
      refine wpAnyH_take (i := 2) (v := ?_) (by (simp only [List.getElem?_toArray, List.getElem?_cons_succ, List.getElem?_cons_zero]; rfl)) (by kernel_rfl) (by kernel_rfl) (by kernel_rfl) (fun _ _ _ h => h) (Or.inl ⟨by rfl, ?_⟩) (by assumption) ?_
      rotate_left
      · (intro w hSw; (try dsimp only at hSw); go_simp; try with_reducible rfl)
      try simp only [Act.put, List.setIfInBounds_toArray, List.set_cons_zero, List.set_cons_succ]
      refine wpAnyH_take (i := 3) (v := ?_) (by (simp only [List.getElem?_toArray, List.getElem?_cons_succ, List.getElem?_cons_zero]; rfl)) (by kernel_rfl) (by kernel_rfl) (by kernel_rfl) (fun _ _ _ h => h) (Or.inl ⟨by rfl, ?_⟩) (by assumption) ?_
      rotate_left
      · (intro w hSw; (try dsimp only at hSw); go_simp; try with_reducible rfl)
      try simp only [Act.put, List.setIfInBounds_toArray, List.set_cons_zero, List.set_cons_succ]
      refine wpAnyH_take (i := 4) (v := ?_) (by (simp only [List.getElem?_toArray, List.getElem?_cons_succ, List.getElem?_cons_zero]; rfl)) (by kernel_rfl) (by kernel_rfl) (by kernel_rfl) (fun _ _ _ h => h) (Or.inl ⟨by rfl, ?_⟩) (by assumption) ?_
      rotate_left
      · (intro w hSw; (try dsimp only at hSw); go_simp; try with_reducible rfl)
      try simp only [Act.put, List.setIfInBounds_toArray, List.set_cons_zero, List.set_cons_succ]
      refine wpAnyH_take (i := 5) (v := ?_) (by (simp only [List.getElem?_toArray, List.getElem?_cons_succ, List.getElem?_cons_zero]; rfl)) (by kernel_rfl) (by kernel_rfl) (by kernel_rfl) (fun _ _ _ h => h) (Or.inl ⟨by rfl, ?_⟩) (by assumption) ?_
      rotate_left
      · (intro w hSw; (try dsimp only at hSw); go_simp; try with_reducible rfl)
      try simp only [Act.put, List.setIfInBounds_toArray, List.set_cons_zero, List.set_cons_succ]
      refine wpAnyH_take (i := 6) (v := ?_) (by (simp only [List.getElem?_toArray, List.getElem?_cons_succ, List.getElem?_cons_zero]; rfl)) (by kernel_rfl) (by kernel_rfl) (by kernel_rfl) (fun _ _ _ h => h) (Or.inl ⟨by rfl, ?_⟩) (by assumption) ?_
      rotate_left
      · (intro w hSw; (try dsimp only at hSw); go_simp; try with_reducible rfl)
      try simp only [Act.put, List.setIfInBounds_toArray, List.set_cons_zero, List.set_cons_succ]
      refine wpAnyH_take (i := 7) (v := undef) (by (simp only [List.getElem?_toArray, List.getElem?_cons_succ, List.getElem?_cons_zero]; rfl)) (by kernel_rfl) (by kernel_rfl) (by kernel_rfl) (fun _ _ _ h => h) (Or.inr ⟨by rfl, rfl⟩) (by assumption) ?_
      try simp only [Act.put, List.setIfInBounds_toArray, List.set_cons_zero, List.set_cons_succ]
      refine wpAnyH_take (i := 8) (v := undef) (by (simp only [List.getElem?_toArray, List.getElem?_cons_succ, List.getElem?_cons_zero]; rfl)) (by kernel_rfl) (by kernel_rfl) (by kernel_rfl) (fun _ _ _ h => h) (Or.inr ⟨by rfl, rfl⟩) (by assumption) ?_
      try simp only [Act.put, List.setIfInBounds_toArray, List.set_cons_zero, List.set_cons_succ]
      refine wpAnyH_take (i := 10) (v := undef) (by (simp only [List.getElem?_toArray, List.getElem?_cons_succ, List.getElem?_cons_zero]; rfl)) (by kernel_rfl) (by kernel_rfl) (by kernel_rfl) (fun _ _ _ h => h) (Or.inr ⟨by rfl, rfl⟩) (by assumption) ?_
      try simp only [Act.put, List.setIfInBounds_toArray, List.set_cons_zero, List.set_cons_succ]
      refine wpAnyH_take (i := 11) (v := undef) (by (simp only [List.getElem?_toArray, List.getElem?_cons_succ, List.getElem?_cons_zero]; rfl)) (by kernel_rfl) (by kernel_rfl) (by kernel_rfl) (fun _ _ _ h => h) (Or.inr ⟨by rfl, rfl⟩) (by assumption) ?_
      try simp only [Act.put, List.setIfInBounds_toArray, List.set_cons_zero, List.set_cons_succ]
      refine wpAnyH_take (i := 9) (v := undef) (by (simp only [List.getElem?_toArray, List.getElem?_cons_succ, List.getElem?_cons_zero]; rfl)) (by kernel_rfl) (by kernel_rfl) (by kernel_rfl) (fun _ _ _ h => h) (Or.inr ⟨by rfl, rfl⟩) (by assumption) ?_
      try simp only [Act.put, List.setIfInBounds_toArray, List.set_cons_zero, List.set_cons_succ]
      refine wpAnyH_take (i := 12) (v := undef) (by (simp only [List.getElem?_toArray, List.getElem?_cons_succ, List.getElem?_cons_zero]; rfl)) (by kernel_rfl) (by kernel_rfl) (by kernel_rfl) (fun _ _ _ h => h) (Or.inr ⟨by rfl, rfl⟩) (by assumption) ?_
      try simp only [Act.put, List.setIfInBounds_toArray, List.set_cons_zero, List.set_cons_succ]
      refine wpAnyH_take (i := 13) (v := undef) (by (simp only [List.getElem?_toArray, List.getElem?_cons_succ, List.getElem?_cons_zero]; rfl)) (by kernel_rfl) (by kernel_rfl) (by kernel_rfl) (fun _ _ _ h => h) (Or.inr ⟨by rfl, rfl⟩) (by assumption) ?_
      try simp only [Act.put, List.setIfInBounds_toArray, List.set_cons_zero, List.set_cons_succ]
      refine wpAnyH_take (i := 14) (v := ?_) (by (simp only [List.getElem?_toArray, List.getElem?_cons_succ, List.getElem?_cons_zero]; rfl)) (by kernel_rfl) (by kernel_rfl) (by kernel_rfl) (fun _ _ _ h => h) (Or.inl ⟨by rfl, ?_⟩) (by assumption) ?_
      rotate_left
      · (intro w hSw; (try dsimp only at hSw); go_simp; try with_reducible rfl)
      try simp only [Act.put, List.setIfInBounds_toArray, List.set_cons_zero, List.set_cons_succ]
      refine wpAnyH_take (i := 15) (v := ?_) (by (simp only [List.getElem?_toArray, List.getElem?_cons_succ, List.getElem?_cons_zero]; rfl)) (by kernel_rfl) (by kernel_rfl) (by kernel_rfl) (fun _ _ _ h => h) (Or.inl ⟨by rfl, ?_⟩) (by assumption) ?_
      rotate_left
      · (intro w hSw; (try dsimp only at hSw); go_simp; try with_reducible rfl)
      try simp only [Act.put, List.setIfInBounds_toArray, List.set_cons_zero, List.set_cons_succ]
      refine wpAnyH_done (by kernel_rfl) ?_ _
      refine NoPanic.normal ?_
      clear hHeld FAX FBX FP14 FP16
      go_wp2_with fail
      go_ret
      exact ⟨by simp, HB_15.out⟩
    · skip
      obtain ⟨h0, h⟩ := hcase
      have hp1 := told_ok (Hep.out.symm.trans h0)
      have hr1 := told_ok (Her.out.symm.trans h)
      have HFP : Hid (fitB p r = fitB a b) := Lib.hid (by rw [Hp.out, Hr.out, hp1.2.2, hr1.2.2]; exact fit_same a b c)
      clear hp1 hr1
      subst h0 h
      have FAX : VAt w14.drew S a := HAX_14.out
      have FBX : VAt w14.drew (S + 1) b := HBX_14.out
      have FP14 : VAt w14.drew P14 p := HP14_14.out
      have FP16 : VAt w14.drew P16 r := HP16_14.out
      have HB_15 : Hid (Below w.heap.size w w14.drew) := Lib.hid (HB_14.out.trans (((Below.refl w14.heap.size w14).drew).mono HB_14.out.size))
      have HCX_15 : Hid (VAt w14.drew (S + 2) c) := Lib.hid (HCX_14.out.below ((Below.refl w14.heap.size w14).drew) (ltb HCX_14.out))
      clear HB_14 HAX_14 HBX_14 HCX_14 HP14_14 HP16_14
      refine wp_region_noPanic ?_
      refine wp_region_held_drew (S := fun w' => VAt w' S a ∧ VAt w' (S + 1) b ∧ VAt w' P14 p ∧ VAt w' P16 r) (by kernel_rfl) ?_ (fun hHeld => ?_)
      · try dsimp only
        (refine ⟨?_, ?_, ?_, ?_⟩ <;> (first | with_reducible assumption))
      generalize w14.drew = w15 at *
      refine wpAnyH_take (i := 0) (v := ?_) (by (simp only [List.getElem?_toArray, List.getElem?_cons_zero]; rfl)) (by kernel_rfl) (by kernel_rfl) (by kernel_rfl) (fun _ _ _ h => h) (Or.inl ⟨by rfl, ?_⟩) (by assumption) ?_
      rotate_left
      · (intro w hSw; (try dsimp only at hSw); go_simp; try with_reducible rfl)
      try simp only [Act.put, List.setIfInBounds_toArray, List.set_cons_zero, List.set_cons_succ]
      refine wpAnyH_take (i := 1) (v := ?_) (by (simp only [List.getElem?_toArray, List.getElem?_cons_succ, List.getElem?_cons_zero]; rfl)) (by kernel_rfl) (by kernel_rfl) (by kernel_rfl) (fun _ _ _ h => h) (Or.inl ⟨by rfl, ?_⟩) (by assumption) ?_
      rotate_left
      · (intro w hSw; (try dsimp only at hSw); go_simp; try with_reducible rfl)
      try simp only [Act.put, List.setIfInBounds_toArray, List.set_cons_zero, List.set_cons_succ]
      refine wpAnyH_take (i := 2) (v := ?_) (by (simp only [List.getElem?_toArray, List.getElem?_cons_succ, List.getElem?_cons_zero]; rfl)) (by kernel_rfl) (by kernel_rfl) (by kernel_rfl) (fun _ _ _ h => h) (Or.inl ⟨by rfl, ?_⟩) (by assumption) ?_
      rotate_left
      · (intro w hSw; (try dsimp only at hSw); go_simp; try with_reducible rfl)
      try simp only [Act.put, List.setIfInBounds_toArray, List.set_cons_zero, List.set_cons_succ]
      refine wpAnyH_take (i := 3) (v := ?_) (by (simp only [List.getElem?_toArray, List.getElem?_cons_succ, List.getElem?_cons_zero]; rfl)) (by kernel_rfl) (by kernel_rfl) (by kernel_rfl) (fun _ _ _ h => h) (Or.inl ⟨by rfl, ?_⟩) (by assumption) ?_
      rotate_left
      · (intro w hSw; (try dsimp only at hSw); go_simp; try with_reducible rfl)
      try simp only [Act.put, List.setIfInBounds_toArray, List.set_cons_zero, List.set_cons_succ]
      refine wpAnyH_take (i := 4) (v := ?_) (by (simp only [List.getElem?_toArray, List.getElem?_cons_succ, List.getElem?_cons_zero]; rfl)) (by kernel_rfl) (by kernel_rfl) (by kernel_rfl) (fun _ _ _ h => h) (Or.inl ⟨by rfl, ?_⟩) (by assumption) ?_
      rotate_left
      · (intro w hSw; (try dsimp only at hSw); go_simp; try with_reducible rfl)
      try simp only [Act.put, List.setIfInBounds_toArray, List.set_cons_zero, List.set_cons_succ]
      refine wpAnyH_take (i := 5) (v := ?_) (by (simp only [List.getElem?_toArray, List.getElem?_cons_succ, List.getElem?_cons_zero]; rfl)) (by kernel_rfl) (by kernel_rfl) (by kernel_rfl) (fun _ _ _ h => h) (Or.inl ⟨by rfl, ?_⟩) (by assumption) ?_
      rotate_left
      · (intro w hSw; (try dsimp only at hSw); go_simp; try with_reducible rfl)
      try simp only [Act.put, List.setIfInBounds_toArray, List.set_cons_zero, List.set_cons_succ]
      refine wpAnyH_take (i := 6) (v := ?_) (by (simp only [List.getElem?_toArray, List.getElem?_cons_succ, List.getElem?_cons_zero]; rfl)) (by kernel_rfl) (by kernel_rfl) (by kernel_rfl) (fun _ _ _ h => h) (Or.inl ⟨by rfl, ?_⟩) (by assumption) ?_
      rotate_left
      · (intro w hSw; (try dsimp only at hSw); go_simp; try with_reducible rfl)
      try simp only [Act.put, List.setIfInBounds_toArray, List.set_cons_zero, List.set_cons_succ]
      refine wpAnyH_take (i := 7) (v := ?_) (by (simp only [List.getElem?_toArray, List.getElem?_cons_succ, List.getElem?_cons_zero]; rfl)) (by kernel_rfl) (by kernel_rfl) (by kernel_rfl) (fun _ _ _ h => h) (Or.inl ⟨by rfl, ?_⟩) (by assumption) ?_
      rotate_left
      · intro w hSw
        try dsimp only at hSw
        refine take_load (x := .tmp 14) (ty := 23) ?_ (P14) ?_ 23 _ (0, 0) _ hSw.2.2.1 Tryd.underlying23 rfl (by kernel_rfl)
        all_goals rfl
      try simp only [Act.put, List.setIfInBounds_toArray, List.set_cons_zero, List.set_cons_succ]
      refine wpAnyH_take (i := 8) (v := ?_) (by (simp only [List.getElem?_toArray, List.getElem?_cons_succ, List.getElem?_cons_zero]; rfl)) (by kernel_rfl) (by kernel_rfl) (by kernel_rfl) (fun _ _ _ h => h) (Or.inl ⟨by rfl, ?_⟩) (by assumption) ?_
      rotate_left
      · intro w hSw
        try dsimp only at hSw
        refine take_load (x := .tmp 16) (ty := 23) ?_ (P16) ?_ 23 _ (0, 0) _ hSw.2.2.2 Tryd.underlying23 rfl (by kernel_rfl)
        all_goals rfl
      try simp only [Act.put, List.setIfInBounds_toArray, List.set_cons_zero, List.set_cons_succ]
      refine wpAnyH_take (i := 10) (v := ?_) (by (simp only [List.getElem?_toArray, List.getElem?_cons_succ, List.getElem?_cons_zero]; rfl)) (by kernel_rfl) (by kernel_rfl) (by kernel_rfl) (fun _ _ _ h => h) (Or.inl ⟨by rfl, ?_⟩) (by assumption) ?_
      rotate_left
      · intro w hSw
        try dsimp only at hSw
        refine take_load (x := .tmp 3) (ty := 23) ?_ (S) ?_ 23 _ (0, 0) _ hSw.1 Tryd.underlying23 rfl (by kernel_rfl)
        all_goals rfl
      try simp only [Act.put, List.setIfInBounds_toArray, List.set_cons_zero, List.set_cons_succ]
      refine wpAnyH_take (i := 11) (v := ?_) (by (simp only [List.getElem?_toArray, List.getElem?_cons_succ, List.getElem?_cons_zero]; rfl)) (by kernel_rfl) (by kernel_rfl) (by kernel_rfl) (fun _ _ _ h => h) (Or.inl ⟨by rfl, ?_⟩) (by assumption) ?_
      rotate_left
      · intro w hSw
        try dsimp only at hSw
        refine take_load (x := .tmp 4) (ty := 23) ?_ ((S + 1)) ?_ 23 _ (0, 0) _ hSw.2.1 Tryd.underlying23 rfl (by kernel_rfl)
        all_goals rfl
      try simp only [Act.put, List.setIfInBounds_toArray, List.set_cons_zero, List.set_cons_succ]
      refine wpAnyH_ready (rs := [9]) (by kernel_rfl) (by simp) ?_
      refine AllReadyH.cons (by (simp only [List.getElem?_toArray, List.getElem?_cons_succ, List.getElem?_cons_zero]; rfl)) (fun K hK => ?_) AllReadyH.nil
      go_simp
      refine (fits_any p r w15).mono ?_
      rintro e w16 ⟨rfl, hb⟩
      rw [HFP.out]
      replace FAX : VAt w16 S a := FAX.below hb (ltb FAX)
      replace FBX : VAt w16 (S + 1) b := FBX.below hb (ltb FBX)
      replace FP14 : VAt w16 P14 p := FP14.below hb (ltb FP14)
      replace FP16 : VAt w16 P16 r := FP16.below hb (ltb FP16)
      have HB_16 : Hid (Below w.heap.size w w16) := Lib.hid (HB_15.out.trans (hb.mono HB_15.out.size))
      have HCX_16 : Hid (VAt w16 (S + 2) c) := Lib.hid (HCX_15.out.below hb (ltb HCX_15.out))
      clear hb HB_15 HCX_15
      refine hK.out _ _ ?_ (fun hHeld => ?_)
      · try dsimp only
        (refine ⟨?_, ?_, ?_, ?_⟩ <;> (first | with_reducible assumption))
      clear hK K
      try simp only [Act.put, List.setIfInBounds_toArray, List.set_cons_zero, List.set_cons_succ]
      refine wpAnyH_ready (rs := [12]) (by kernel_rfl) (by simp) ?_
      refine AllReadyH.cons (by (simp only [List.getElem?_toArray, List.getElem?_cons_succ, List.getElem?_cons_zero]; rfl)) (fun K hK => ?_) AllReadyH.nil
      go_simp
      refine (fits_any a b w16).mono ?_
      rintro e w17 ⟨rfl, hb⟩
      replace FAX : VAt w17 S a := FAX.below hb (ltb FAX)
      replace FBX : VAt w17 (S + 1) b := FBX.below hb (ltb FBX)
      replace FP14 : VAt w17 P14 p := FP14.below hb (ltb FP14)
      replace FP16 : VAt w17 P16 r := FP16.below hb (ltb FP16)
      have HB_17 : Hid (Below w.heap.size w w17) := Lib.hid (HB_16.out.trans (hb.mono HB_16.out.size))
      have HCX_17 : Hid (VAt w17 (S + 2) c) := Lib.hid (HCX_16.out.below hb (ltb HCX_16.out))
      clear hb HB_16 HCX_16
      refine hK.out _ _ ?_ (fun hHeld => ?_)
      · try dsimp only
        (refine ⟨?_, ?_, ?_, ?_⟩ <;> (first | with_reducible assumption))
      clear hK K
      try simp only [Act.put, List.setIfInBounds_toArray, List.set_cons_zero, List.set_cons_succ]
      refine wpAnyH_take (i := 13) (v := ?_) (by (simp only [List.getElem?_toArray, List.getElem?_cons_succ, List.getElem?_cons_zero]; rfl)) (by kernel_rfl) (by kernel_rfl) (by kernel_rfl) (fun _ _ _ h => h) (Or.inl ⟨by rfl, ?_⟩) (by assumption) ?_
      rotate_left
      · (intro w hSw; (try dsimp only at hSw); go_simp; try with_reducible rfl)
      try simp only [Act.put, List.setIfInBounds_toArray, List.set_cons_zero, List.set_cons_succ]
      refine wpAnyH_take (i := 14) (v := ?_) (by (simp only [List.getElem?_toArray, List.getElem?_cons_succ, List.getElem?_cons_zero]; rfl)) (by kernel_rfl) (by kernel_rfl) (by kernel_rfl) (fun _ _ _ h => h) (Or.inl ⟨by rfl, ?_⟩) (by assumption) ?_
      rotate_left
      · (intro w hSw; (try dsimp only at hSw); go_simp; try with_reducible rfl)
      try simp only [Act.put, List.setIfInBounds_toArray, List.set_cons_zero, List.set_cons_succ]
      refine wpAnyH_take (i := 15) (v := ?_) (by (simp only [List.getElem?_toArray, List.getElem?_cons_succ, List.getElem?_cons_zero]; rfl)) (by kernel_rfl) (by kernel_rfl) (by kernel_rfl) (fun _ _ _ h => h) (Or.inl ⟨by rfl, ?_⟩) (by assumption) ?_
      rotate_left
      · (intro w hSw; (try dsimp only at hSw); go_simp; try with_reducible rfl)
      try simp only [Act.put, List.setIfInBounds_toArray, List.set_cons_zero, List.set_cons_succ]
      refine wpAnyH_done (by kernel_rfl) ?_ _
      refine NoPanic.normal ?_
      clear hHeld FAX FBX FP14 FP16
      go_wp2_with fail
      go_ret
      exact ⟨by simp, HB_17.out⟩
end Go.Proofs.YtfbmjejkhnopiaaDoor
