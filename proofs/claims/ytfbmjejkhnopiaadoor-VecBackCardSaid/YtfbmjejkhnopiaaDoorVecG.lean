/- Texts of amounts. -/
import Derived.Test.YtfbmjejkhnopiaaDoorVecD
import Derived.Test.YtfbmjejkhnopiaaDoorVecU
namespace Go.Proofs.YtfbmjejkhnopiaaDoor
open Go.RowKit

theorem parts_join (a b c d : List UInt8) (ha : ∀ x ∈ a, x ≠ 44) (hb : ∀ x ∈ b, x ≠ 44) (hc : ∀ x ∈ c, x ≠ 44) (hd : ∀ x ∈ d, x ≠ 44) : parts (a ++ [44] ++ b ++ [44] ++ c ++ [44] ++ d) = [a, b, c, d] := by
  have e : a ++ [44] ++ b ++ [44] ++ c ++ [44] ++ d = a ++ 44 :: (b ++ 44 :: (c ++ 44 :: d)) := by simp
  rw [e, parts_some ha, parts_some hb, parts_some hc, parts_none hd]
theorem parts_pt (d : Nat → Int) : parts (pt d 4) = [Lib.itoa (d 0), Lib.itoa (d 1), Lib.itoa (d 2), Lib.itoa (d 3)] := by
  rw [pt4]; exact parts_join _ _ _ _ (itoa_comma _) (itoa_comma _) (itoa_comma _) (itoa_comma _)
def cut10 (n : Int) : Int := if 0 ≤ n ∧ n < 10000000000 then n else -1
theorem pv_pt (d : Nat → Int) {i : Nat} (hi : i < 4) : pv (pt d 4) i = cut10 (d i) := by
  unfold pv
  rw [parts_pt]
  have hi : i = 0 ∨ i = 1 ∨ i = 2 ∨ i = 3 := by omega
  rcases hi with rfl | rfl | rfl | rfl <;> exact num_itoa _
theorem okb_cut (n : Int) : okb (cut10 n) = okb n := by
  rw [Bool.eq_iff_iff]; unfold cut10; simp [okb]; split <;> omega
theorem okv_pt (d : Nat → Int) : okv (pv (pt d 4)) = okv d := by
  unfold okv
  rw [pv_pt d (by decide : 0 < 4), pv_pt d (by decide : 1 < 4), pv_pt d (by decide : 2 < 4), pv_pt d (by decide : 3 < 4), okb_cut, okb_cut, okb_cut, okb_cut]
theorem back_yes {d : Nat → Int} (h : okv d = true) : readE (pt d 4) = 0 ∧ ∀ i, i < 4 → readV (pt d 4) i = d i := by
  have hl : (parts (pt d 4)).length = 4 := by rw [parts_pt]; rfl
  have hok := okv_pt d
  rw [h] at hok
  refine ⟨by unfold readE; rw [if_pos hl]; simp [toldE, hok], fun i hi => ?_⟩
  unfold readV
  rw [if_pos hl]
  have hb := okv_bd h hi
  simp only [toldV, hok, Bool.and_self, if_true]
  rw [pv_pt d hi]; unfold cut10; rw [if_pos (by omega)]
theorem back_no {d : Nat → Int} (h : okv d = false) : readE (pt d 4) = 11 ∧ ∀ i, readV (pt d 4) i = 0 := by
  have hl : (parts (pt d 4)).length = 4 := by rw [parts_pt]; rfl
  have hok := okv_pt d
  rw [h] at hok
  refine ⟨by unfold readE; rw [if_pos hl]; simp [toldE, hok], fun i => ?_⟩
  unfold readV
  rw [if_pos hl]
  simp [toldV, hok]

set_option maxRecDepth 100000 in
set_option maxHeartbeats 8000000 in
theorem texts_in (a : Nat → Int) (s : ByteArray) (w : World) (htab : Lib.TabBelow Tryd.prog w.heap.size w "internal/strconv.uint64pow10" .u64 Lib.pow10Tab) (hf : Fits64 a) (m : Int) (h0w : 0 < w.heap.size) (hm : w.cell? ⟨0, 0, none⟩ = some (.int .i64 m)) (hs : s.size ≤ 1000) : Calls Tryd.prog 7 #[.agg #[.int .i64 (a 0), .int .i64 (a 1), .int .i64 (a 2), .int .i64 (a 3)], .string s] w fun e w' => e = .returned (.bool true) ∧ Below w.heap.size w w' := by
  obtain ⟨S, hS⟩ : ∃ S, S = w.heap.size := ⟨_, rfl⟩
  obtain ⟨w1, hw1⟩ : ∃ x, x = (w.alloc (.cells #[.int .i64 (a 0), .int .i64 (a 1), .int .i64 (a 2), .int .i64 (a 3)] 23)) := ⟨_, rfl⟩
  have HB_1 : Hid (Below w.heap.size w w1) := Lib.hid (by rw [hw1]; exact ((Below.refl w.heap.size w).alloc (by simp) _))
  have HAX_1 : Hid (VAt w1 S a) := Lib.hid (by
    rw [hw1, hS]
    have h := heap_alloc_new w (.cells #[.int .i64 (a 0), .int .i64 (a 1), .int .i64 (a 2), .int .i64 (a 3)] 23)
    exact h)
  have HTB_1 : Hid (Lib.TabBelow Tryd.prog w1.heap.size w1 "internal/strconv.uint64pow10" .u64 Lib.pow10Tab) := Lib.hid (tb_on htab HB_1.out)
  have HS := Lib.hid hS
  clear htab
  go_enter Tryd.func7, Tryd.ntmps7
  go_upto_region 1 with (fail)
  rw [← hw1, ← hS]
  clear hw1 hS
  have HF := Lib.hid hf
  have HM := Lib.hid hm
  have H0 := Lib.hid h0w
  have HSZ := Lib.hid hs
  have hs' : ¬ (1000 : Int) < (s.size : Int) := by omega
  clear hf hm h0w hs
  go_wp2_with fail
  refine (awake_any w1 HTB_1.out).mono ?_
  rintro e w2 ⟨rfl, hb⟩
  have HB_2 : Hid (Below w.heap.size w w2) := Lib.hid (HB_1.out.trans (hb.mono HB_1.out.size))
  have HTB_2 : Hid (Lib.TabBelow Tryd.prog w2.heap.size w2 "internal/strconv.uint64pow10" .u64 Lib.pow10Tab) := Lib.hid (tb_on HTB_1.out hb)
  have HAX_2 : Hid (VAt w2 S a) := Lib.hid (HAX_1.out.below hb (ltb HAX_1.out))
  clear hb HB_1 HTB_1 HAX_1
  go_wp2_with fail
  refine (read_any s m w2 HSZ.out (by have := HB_2.out.size; have := H0.out; omega) ((HB_2.out.cell (p := ⟨0, 0, none⟩) H0.out).trans HM.out)).mono ?_
  rintro e w3 ⟨rfl, hb⟩
  obtain ⟨x, hx⟩ : ∃ x, x = readV s.data.toList := ⟨_, rfl⟩
  rw [← hx]
  have Hx := Lib.hid hx
  clear hx
  obtain ⟨ex, hex⟩ : ∃ x, x = readE s.data.toList := ⟨_, rfl⟩
  rw [← hex]
  have Hex := Lib.hid hex
  clear hex
  have HB_3 : Hid (Below w.heap.size w w3) := Lib.hid (HB_2.out.trans (hb.mono HB_2.out.size))
  have HTB_3 : Hid (Lib.TabBelow Tryd.prog w3.heap.size w3 "internal/strconv.uint64pow10" .u64 Lib.pow10Tab) := Lib.hid (tb_on HTB_2.out hb)
  have HAX_3 : Hid (VAt w3 S a) := Lib.hid (HAX_2.out.below hb (ltb HAX_2.out))
  clear hb HB_2 HTB_2 HAX_2
  obtain ⟨P6, hP6⟩ : ∃ x, x = w3.heap.size := ⟨_, rfl⟩
  have hal : Below w3.heap.size w3 (w3.alloc (.cells #[.int .i64 (x 0), .int .i64 (x 1), .int .i64 (x 2), .int .i64 (x 3)] 23)) := (Below.refl _ _).alloc (Nat.le_refl _) _
  have hnew : (w3.alloc (.cells #[.int .i64 (x 0), .int .i64 (x 1), .int .i64 (x 2), .int .i64 (x 3)] 23)).heap[P6]? = some (.cells #[.int .i64 (x 0), .int .i64 (x 1), .int .i64 (x 2), .int .i64 (x 3)] 23 (0, 0)) := by rw [hP6]; exact heap_alloc_new _ _
  have HB_4 : Hid (Below w.heap.size w (w3.alloc (.cells #[.int .i64 (x 0), .int .i64 (x 1), .int .i64 (x 2), .int .i64 (x 3)] 23))) := Lib.hid (HB_3.out.trans (hal.mono HB_3.out.size))
  have HTB_4 : Hid (Lib.TabBelow Tryd.prog (w3.alloc (.cells #[.int .i64 (x 0), .int .i64 (x 1), .int .i64 (x 2), .int .i64 (x 3)] 23)).heap.size (w3.alloc (.cells #[.int .i64 (x 0), .int .i64 (x 1), .int .i64 (x 2), .int .i64 (x 3)] 23)) "internal/strconv.uint64pow10" .u64 Lib.pow10Tab) := Lib.hid (tb_on HTB_3.out hal)
  have HAX_4 : Hid (VAt (w3.alloc (.cells #[.int .i64 (x 0), .int .i64 (x 1), .int .i64 (x 2), .int .i64 (x 3)] 23)) S a) := Lib.hid (HAX_3.out.below hal (ltb HAX_3.out))
  clear hal HB_3 HTB_3 HAX_3
  have HP6_4 : Hid (VAt (w3.alloc (.cells #[.int .i64 (x 0), .int .i64 (x 1), .int .i64 (x 2), .int .i64 (x 3)] 23)) P6 x) := Lib.hid hnew
  clear hnew
  go_wp2_with (refine wpList_store_row rfl 23 (.tmp 6) (.tmp 19) rfl w3.heap.size _ rfl rfl 23 _ (heap_alloc_new w3 _) (by kernel_rfl) rfl (by simp [Value.oneCell']) ?_; rw [World.setRow_alloc_new])
  rw [← hP6]
  clear hP6
  generalize w3.alloc (.cells #[.int .i64 (x 0), .int .i64 (x 1), .int .i64 (x 2), .int .i64 (x 3)] 23) = w4 at HB_4 HTB_4 HAX_4 HP6_4 ⊢
  refine (rread_any s w4 HSZ.out).mono ?_
  rintro e w5 ⟨rfl, hb⟩
  rw [show readV s.data.toList = x from Hx.out.symm]
  rw [show readE s.data.toList = ex from Hex.out.symm]
  have HB_5 : Hid (Below w.heap.size w w5) := Lib.hid (HB_4.out.trans (hb.mono HB_4.out.size))
  have HTB_5 : Hid (Lib.TabBelow Tryd.prog w5.heap.size w5 "internal/strconv.uint64pow10" .u64 Lib.pow10Tab) := Lib.hid (tb_on HTB_4.out hb)
  have HAX_5 : Hid (VAt w5 S a) := Lib.hid (HAX_4.out.below hb (ltb HAX_4.out))
  have HP6_5 : Hid (VAt w5 P6 x) := Lib.hid (HP6_4.out.below hb (ltb HP6_4.out))
  clear hb HB_4 HTB_4 HAX_4 HP6_4
  obtain ⟨P8, hP8⟩ : ∃ x, x = w5.heap.size := ⟨_, rfl⟩
  have hal : Below w5.heap.size w5 (w5.alloc (.cells #[.int .i64 (x 0), .int .i64 (x 1), .int .i64 (x 2), .int .i64 (x 3)] 23)) := (Below.refl _ _).alloc (Nat.le_refl _) _
  have hnew : (w5.alloc (.cells #[.int .i64 (x 0), .int .i64 (x 1), .int .i64 (x 2), .int .i64 (x 3)] 23)).heap[P8]? = some (.cells #[.int .i64 (x 0), .int .i64 (x 1), .int .i64 (x 2), .int .i64 (x 3)] 23 (0, 0)) := by rw [hP8]; exact heap_alloc_new _ _
  have HB_6 : Hid (Below w.heap.size w (w5.alloc (.cells #[.int .i64 (x 0), .int .i64 (x 1), .int .i64 (x 2), .int .i64 (x 3)] 23))) := Lib.hid (HB_5.out.trans (hal.mono HB_5.out.size))
  have HTB_6 : Hid (Lib.TabBelow Tryd.prog (w5.alloc (.cells #[.int .i64 (x 0), .int .i64 (x 1), .int .i64 (x 2), .int .i64 (x 3)] 23)).heap.size (w5.alloc (.cells #[.int .i64 (x 0), .int .i64 (x 1), .int .i64 (x 2), .int .i64 (x 3)] 23)) "internal/strconv.uint64pow10" .u64 Lib.pow10Tab) := Lib.hid (tb_on HTB_5.out hal)
  have HAX_6 : Hid (VAt (w5.alloc (.cells #[.int .i64 (x 0), .int .i64 (x 1), .int .i64 (x 2), .int .i64 (x 3)] 23)) S a) := Lib.hid (HAX_5.out.below hal (ltb HAX_5.out))
  have HP6_6 : Hid (VAt (w5.alloc (.cells #[.int .i64 (x 0), .int .i64 (x 1), .int .i64 (x 2), .int .i64 (x 3)] 23)) P6 x) := Lib.hid (HP6_5.out.below hal (ltb HP6_5.out))
  clear hal HB_5 HTB_5 HAX_5 HP6_5
  have HP8_6 : Hid (VAt (w5.alloc (.cells #[.int .i64 (x 0), .int .i64 (x 1), .int .i64 (x 2), .int .i64 (x 3)] 23)) P8 x) := Lib.hid hnew
  clear hnew
  go_upto_region 8 with (refine wpList_store_row rfl 23 (.tmp 8) (.tmp 24) rfl w5.heap.size _ rfl rfl 23 _ (heap_alloc_new w5 _) (by kernel_rfl) rfl (by simp [Value.oneCell']) ?_; rw [World.setRow_alloc_new])
  rw [← hP8]
  clear hP8
  generalize w5.alloc (.cells #[.int .i64 (x 0), .int .i64 (x 1), .int .i64 (x 2), .int .i64 (x 3)] 23) = w6 at HB_6 HTB_6 HAX_6 HP6_6 HP8_6 ⊢
  have q1 : ∀ w, (Go.binOp .eql 23 (.agg #[.int .i64 (x 0), .int .i64 (x 1), .int .i64 (x 2), .int .i64 (x 3)]) (.agg #[.int .i64 (x 0), .int .i64 (x 1), .int .i64 (x 2), .int .i64 (x 3)])).run Tryd.prog w = .ok (.bool true) w := fun w => by rw [eq_vec2]; simp
  have FAX : VAt w6.drew S a := HAX_6.out
  have FP6 : VAt w6.drew P6 x := HP6_6.out
  have FP8 : VAt w6.drew P8 x := HP8_6.out
  have HB_7 : Hid (Below w.heap.size w w6.drew) := Lib.hid (HB_6.out.trans (((Below.refl w6.heap.size w6).drew).mono HB_6.out.size))
  have HTB_7 : Hid (Lib.TabBelow Tryd.prog w6.drew.heap.size w6.drew "internal/strconv.uint64pow10" .u64 Lib.pow10Tab) := Lib.hid (tb_on HTB_6.out ((Below.refl w6.heap.size w6).drew))
  clear HB_6 HTB_6 HAX_6 HP6_6 HP8_6
  refine wp_region_noPanic ?_
  refine wp_region_held_drew (S := fun w' => VAt w' S a ∧ VAt w' P6 x ∧ VAt w' P8 x) (by kernel_rfl) ?_ (fun hHeld => ?_)
  · try dsimp only
    (refine ⟨?_, ?_, ?_⟩ <;> (first | with_reducible assumption))
  generalize w6.drew = w7 at *
  refine wpAnyH_take (i := 0) (v := ?_) (by (simp only [List.getElem?_toArray, List.getElem?_cons_zero]; rfl)) (by kernel_rfl) (by kernel_rfl) (by kernel_rfl) (fun _ _ _ h => h) (Or.inl ⟨by rfl, ?_⟩) (by assumption) ?_
  rotate_left
  · intro w hSw
    try dsimp only at hSw
    refine take_load (x := .tmp 2) (ty := 23) ?_ (S) ?_ 23 _ (0, 0) _ hSw.1 Tryd.underlying23 rfl (by kernel_rfl)
    all_goals rfl
  try simp only [Act.put, List.setIfInBounds_toArray, List.set_cons_zero, List.set_cons_succ]
  refine wpAnyH_take (i := 2) (v := ?_) (by (simp only [List.getElem?_toArray, List.getElem?_cons_succ, List.getElem?_cons_zero]; rfl)) (by kernel_rfl) (by kernel_rfl) (by kernel_rfl) (fun _ _ _ h => h) (Or.inl ⟨by rfl, ?_⟩) (by assumption) ?_
  rotate_left
  · intro w hSw
    try dsimp only at hSw
    refine take_load (x := .tmp 2) (ty := 23) ?_ (S) ?_ 23 _ (0, 0) _ hSw.1 Tryd.underlying23 rfl (by kernel_rfl)
    all_goals rfl
  try simp only [Act.put, List.setIfInBounds_toArray, List.set_cons_zero, List.set_cons_succ]
  refine wpAnyH_ready (rs := [1]) (by kernel_rfl) (by simp) ?_
  refine AllReadyH.cons (by (simp only [List.getElem?_toArray, List.getElem?_cons_succ, List.getElem?_cons_zero]; rfl)) (fun K hK => ?_) AllReadyH.nil
  go_simp
  refine (text_any a w7 HF.out HTB_7.out).mono ?_
  rintro e w8 ⟨rfl, hb⟩
  replace FAX : VAt w8 S a := FAX.below hb (ltb FAX)
  replace FP6 : VAt w8 P6 x := FP6.below hb (ltb FP6)
  replace FP8 : VAt w8 P8 x := FP8.below hb (ltb FP8)
  have HB_8 : Hid (Below w.heap.size w w8) := Lib.hid (HB_7.out.trans (hb.mono HB_7.out.size))
  have HTB_8 : Hid (Lib.TabBelow Tryd.prog w8.heap.size w8 "internal/strconv.uint64pow10" .u64 Lib.pow10Tab) := Lib.hid (tb_on HTB_7.out hb)
  clear hb HB_7 HTB_7
  refine hK.out _ _ ?_ (fun hHeld => ?_)
  · try dsimp only
    (refine ⟨?_, ?_, ?_⟩ <;> (first | with_reducible assumption))
  clear hK K
  try simp only [Act.put, List.setIfInBounds_toArray, List.set_cons_zero, List.set_cons_succ]
  refine wpAnyH_ready (rs := [3]) (by kernel_rfl) (by simp) ?_
  refine AllReadyH.cons (by (simp only [List.getElem?_toArray, List.getElem?_cons_succ, List.getElem?_cons_zero]; rfl)) (fun K hK => ?_) AllReadyH.nil
  go_simp
  refine (rtext_any a w8 HF.out).mono ?_
  rintro e w9 ⟨rfl, hb⟩
  replace FAX : VAt w9 S a := FAX.below hb (ltb FAX)
  replace FP6 : VAt w9 P6 x := FP6.below hb (ltb FP6)
  replace FP8 : VAt w9 P8 x := FP8.below hb (ltb FP8)
  have HB_9 : Hid (Below w.heap.size w w9) := Lib.hid (HB_8.out.trans (hb.mono HB_8.out.size))
  have HTB_9 : Hid (Lib.TabBelow Tryd.prog w9.heap.size w9 "internal/strconv.uint64pow10" .u64 Lib.pow10Tab) := Lib.hid (tb_on HTB_8.out hb)
  clear hb HB_8 HTB_8
  refine hK.out _ _ ?_ (fun hHeld => ?_)
  · try dsimp only
    (refine ⟨?_, ?_, ?_⟩ <;> (first | with_reducible assumption))
  clear hK K
  try simp only [Act.put, List.setIfInBounds_toArray, List.set_cons_zero, List.set_cons_succ]
  refine wpAnyH_take (i := 4) (v := ?_) (by (simp only [List.getElem?_toArray, List.getElem?_cons_succ, List.getElem?_cons_zero]; rfl)) (by kernel_rfl) (by kernel_rfl) (by kernel_rfl) (fun _ _ _ h => h) (Or.inl ⟨by rfl, ?_⟩) (by assumption) ?_
  rotate_left
  · (intro w hSw; (try dsimp only at hSw); go_simp; try with_reducible rfl)
  try simp only [Act.put, List.setIfInBounds_toArray, List.set_cons_zero, List.set_cons_succ]
  refine wpAnyH_take (i := 5) (v := ?_) (by (simp only [List.getElem?_toArray, List.getElem?_cons_succ, List.getElem?_cons_zero]; rfl)) (by kernel_rfl) (by kernel_rfl) (by kernel_rfl) (fun _ _ _ h => h) (Or.inl ⟨by rfl, ?_⟩) (by assumption) ?_
  rotate_left
  · (intro w hSw; (try dsimp only at hSw); go_simp; try with_reducible rfl)
  try simp only [Act.put, List.setIfInBounds_toArray, List.set_cons_zero, List.set_cons_succ]
  refine wpAnyH_take (i := 6) (v := ?_) (by (simp only [List.getElem?_toArray, List.getElem?_cons_succ, List.getElem?_cons_zero]; rfl)) (by kernel_rfl) (by kernel_rfl) (by kernel_rfl) (fun _ _ _ h => h) (Or.inl ⟨by rfl, ?_⟩) (by assumption) ?_
  rotate_left
  · intro w hSw
    try dsimp only at hSw
    refine take_load (x := .tmp 6) (ty := 23) ?_ (P6) ?_ 23 _ (0, 0) _ hSw.2.1 Tryd.underlying23 rfl (by kernel_rfl)
    all_goals rfl
  try simp only [Act.put, List.setIfInBounds_toArray, List.set_cons_zero, List.set_cons_succ]
  refine wpAnyH_take (i := 7) (v := ?_) (by (simp only [List.getElem?_toArray, List.getElem?_cons_succ, List.getElem?_cons_zero]; rfl)) (by kernel_rfl) (by kernel_rfl) (by kernel_rfl) (fun _ _ _ h => h) (Or.inl ⟨by rfl, ?_⟩) (by assumption) ?_
  rotate_left
  · intro w hSw
    try dsimp only at hSw
    refine take_load (x := .tmp 8) (ty := 23) ?_ (P8) ?_ 23 _ (0, 0) _ hSw.2.2 Tryd.underlying23 rfl (by kernel_rfl)
    all_goals rfl
  try simp only [Act.put, List.setIfInBounds_toArray, List.set_cons_zero, List.set_cons_succ]
  refine wpAnyH_take (i := 8) (v := ?_) (by (simp only [List.getElem?_toArray, List.getElem?_cons_succ, List.getElem?_cons_zero]; rfl)) (by kernel_rfl) (by kernel_rfl) (by kernel_rfl) (fun _ _ _ h => h) (Or.inl ⟨by rfl, ?_⟩) (by assumption) ?_
  rotate_left
  · (intro w hSw; (try dsimp only at hSw); go_simp; try with_reducible rfl)
  try simp only [Act.put, List.setIfInBounds_toArray, List.set_cons_zero, List.set_cons_succ]
  refine wpAnyH_take (i := 9) (v := ?_) (by (simp only [List.getElem?_toArray, List.getElem?_cons_succ, List.getElem?_cons_zero]; rfl)) (by kernel_rfl) (by kernel_rfl) (by kernel_rfl) (fun _ _ _ h => h) (Or.inl ⟨by rfl, ?_⟩) (by assumption) ?_
  rotate_left
  · (intro w hSw; (try dsimp only at hSw); go_simp; try with_reducible rfl)
  try simp only [Act.put, List.setIfInBounds_toArray, List.set_cons_zero, List.set_cons_succ]
  refine wpAnyH_take (i := 10) (v := ?_) (by (simp only [List.getElem?_toArray, List.getElem?_cons_succ, List.getElem?_cons_zero]; rfl)) (by kernel_rfl) (by kernel_rfl) (by kernel_rfl) (fun _ _ _ h => h) (Or.inl ⟨by rfl, ?_⟩) (by assumption) ?_
  rotate_left
  · (intro w hSw; (try dsimp only at hSw); go_simp; try with_reducible rfl)
  try simp only [Act.put, List.setIfInBounds_toArray, List.set_cons_zero, List.set_cons_succ]
  refine wpAnyH_take (i := 11) (v := ?_) (by (simp only [List.getElem?_toArray, List.getElem?_cons_succ, List.getElem?_cons_zero]; rfl)) (by kernel_rfl) (by kernel_rfl) (by kernel_rfl) (fun _ _ _ h => h) (Or.inl ⟨by rfl, ?_⟩) (by assumption) ?_
  rotate_left
  · (intro w hSw; (try dsimp only at hSw); go_simp; try with_reducible rfl)
  try simp only [Act.put, List.setIfInBounds_toArray, List.set_cons_zero, List.set_cons_succ]
  refine wpAnyH_take (i := 12) (v := ?_) (by (simp only [List.getElem?_toArray, List.getElem?_cons_succ, List.getElem?_cons_zero]; rfl)) (by kernel_rfl) (by kernel_rfl) (by kernel_rfl) (fun _ _ _ h => h) (Or.inl ⟨by rfl, ?_⟩) (by assumption) ?_
  rotate_left
  · (intro w hSw; (try dsimp only at hSw); go_simp; try with_reducible rfl)
  try simp only [Act.put, List.setIfInBounds_toArray, List.set_cons_zero, List.set_cons_succ]
  refine wpAnyH_take (i := 13) (v := ?_) (by (simp only [List.getElem?_toArray, List.getElem?_cons_succ, List.getElem?_cons_zero]; rfl)) (by kernel_rfl) (by kernel_rfl) (by kernel_rfl) (fun _ _ _ h => h) (Or.inl ⟨by rfl, ?_⟩) (by assumption) ?_
  rotate_left
  · (intro w hSw; (try dsimp only at hSw); go_simp; try with_reducible rfl)
  try simp only [Act.put, List.setIfInBounds_toArray, List.set_cons_zero, List.set_cons_succ]
  refine wpAnyH_take (i := 14) (v := ?_) (by (simp only [List.getElem?_toArray, List.getElem?_cons_succ, List.getElem?_cons_zero]; rfl)) (by kernel_rfl) (by kernel_rfl) (by kernel_rfl) (fun _ _ _ h => h) (Or.inl ⟨by rfl, ?_⟩) (by assumption) ?_
  rotate_left
  · (intro w hSw; (try dsimp only at hSw); go_simp; try with_reducible rfl)
  try simp only [Act.put, List.setIfInBounds_toArray, List.set_cons_zero, List.set_cons_succ]
  refine wpAnyH_take (i := 15) (v := ?_) (by (simp only [List.getElem?_toArray, List.getElem?_cons_succ, List.getElem?_cons_zero]; rfl)) (by kernel_rfl) (by kernel_rfl) (by kernel_rfl) (fun _ _ _ h => h) (Or.inl ⟨by rfl, ?_⟩) (by assumption) ?_
  rotate_left
  · (intro w hSw; (try dsimp only at hSw); go_simp; try with_reducible rfl)
  try simp only [Act.put, List.setIfInBounds_toArray, List.set_cons_zero, List.set_cons_succ]
  refine wpAnyH_done (by kernel_rfl) ?_ _
  refine NoPanic.normal ?_
  clear hHeld FAX FP6 FP8
  clear q1
  go_wp2_with fail
  go_ret
  exact ⟨by simp, HB_9.out⟩
set_option maxRecDepth 100000 in
set_option maxHeartbeats 8000000 in
theorem texts_out (a : Nat → Int) (s : ByteArray) (w : World) (htab : Lib.TabBelow Tryd.prog w.heap.size w "internal/strconv.uint64pow10" .u64 Lib.pow10Tab) (hs : (1000 : Int) < (s.size : Int)) : Calls Tryd.prog 7 #[.agg #[.int .i64 (a 0), .int .i64 (a 1), .int .i64 (a 2), .int .i64 (a 3)], .string s] w fun e w' => e = .returned (.bool true) ∧ Below w.heap.size w w' := by
  obtain ⟨S, hS⟩ : ∃ S, S = w.heap.size := ⟨_, rfl⟩
  obtain ⟨w1, hw1⟩ : ∃ x, x = (w.alloc (.cells #[.int .i64 (a 0), .int .i64 (a 1), .int .i64 (a 2), .int .i64 (a 3)] 23)) := ⟨_, rfl⟩
  have HB_1 : Hid (Below w.heap.size w w1) := Lib.hid (by rw [hw1]; exact ((Below.refl w.heap.size w).alloc (by simp) _))
  have HAX_1 : Hid (VAt w1 S a) := Lib.hid (by
    rw [hw1, hS]
    have h := heap_alloc_new w (.cells #[.int .i64 (a 0), .int .i64 (a 1), .int .i64 (a 2), .int .i64 (a 3)] 23)
    exact h)
  have HTB_1 : Hid (Lib.TabBelow Tryd.prog w1.heap.size w1 "internal/strconv.uint64pow10" .u64 Lib.pow10Tab) := Lib.hid (tb_on htab HB_1.out)
  have HS := Lib.hid hS
  clear htab
  go_enter Tryd.func7, Tryd.ntmps7
  go_upto_region 1 with (fail)
  rw [← hw1, ← hS]
  clear hw1 hS
  go_wp2_with fail
  refine (awake_any w1 HTB_1.out).mono ?_
  rintro e w2 ⟨rfl, hb⟩
  have HB_2 : Hid (Below w.heap.size w w2) := Lib.hid (HB_1.out.trans (hb.mono HB_1.out.size))
  have HTB_2 : Hid (Lib.TabBelow Tryd.prog w2.heap.size w2 "internal/strconv.uint64pow10" .u64 Lib.pow10Tab) := Lib.hid (tb_on HTB_1.out hb)
  have HAX_2 : Hid (VAt w2 S a) := Lib.hid (HAX_1.out.below hb (ltb HAX_1.out))
  clear hb HB_1 HTB_1 HAX_1
  go_wp2_with fail
  go_ret
  exact ⟨rfl, HB_2.out⟩
theorem law_texts (a : Nat → Int) (s : ByteArray) (w : World) (htab : Lib.TabBelow Tryd.prog w.heap.size w "internal/strconv.uint64pow10" .u64 Lib.pow10Tab) (hf : Fits64 a) (m : Int) (h0w : 0 < w.heap.size) (hm : w.cell? ⟨0, 0, none⟩ = some (.int .i64 m)) :
    Calls Tryd.prog 7 #[.agg #[.int .i64 (a 0), .int .i64 (a 1), .int .i64 (a 2), .int .i64 (a 3)], .string s] w fun e w' => e = .returned (.bool true) ∧ Below w.heap.size w w' := by
  by_cases hs : s.size ≤ 1000
  · exact texts_in a s w htab hf m h0w hm hs
  · exact texts_out a s w htab (by omega)
set_option maxRecDepth 100000 in
set_option maxHeartbeats 8000000 in
theorem law_back (a : Nat → Int) (w : World) (htab : Lib.TabBelow Tryd.prog w.heap.size w "internal/strconv.uint64pow10" .u64 Lib.pow10Tab) (hf : Fits64 a) (m : Int) (h0w : 0 < w.heap.size) (hm : w.cell? ⟨0, 0, none⟩ = some (.int .i64 m)) : Calls Tryd.prog 8 #[.agg #[.int .i64 (a 0), .int .i64 (a 1), .int .i64 (a 2), .int .i64 (a 3)]] w fun e w' => e = .returned (.bool true) ∧ Below w.heap.size w w' := by
  obtain ⟨S, hS⟩ : ∃ S, S = w.heap.size := ⟨_, rfl⟩
  obtain ⟨w1, hw1⟩ : ∃ x, x = (w.alloc (.cells #[.int .i64 (a 0), .int .i64 (a 1), .int .i64 (a 2), .int .i64 (a 3)] 23)) := ⟨_, rfl⟩
  have HB_1 : Hid (Below w.heap.size w w1) := Lib.hid (by rw [hw1]; exact ((Below.refl w.heap.size w).alloc (by simp) _))
  have HAX_1 : Hid (VAt w1 S a) := Lib.hid (by
    rw [hw1, hS]
    have h := heap_alloc_new w (.cells #[.int .i64 (a 0), .int .i64 (a 1), .int .i64 (a 2), .int .i64 (a 3)] 23)
    exact h)
  have HTB_1 : Hid (Lib.TabBelow Tryd.prog w1.heap.size w1 "internal/strconv.uint64pow10" .u64 Lib.pow10Tab) := Lib.hid (tb_on htab HB_1.out)
  have HS := Lib.hid hS
  clear htab
  go_enter Tryd.func8, Tryd.ntmps8
  go_upto_region 1 with (fail)
  rw [← hw1, ← hS]
  clear hw1 hS
  have HF := Lib.hid hf
  have HM := Lib.hid hm
  have H0 := Lib.hid h0w
  clear hf hm h0w
  go_wp2_with fail
  refine (awake_any w1 HTB_1.out).mono ?_
  rintro e w2 ⟨rfl, hb⟩
  have HB_2 : Hid (Below w.heap.size w w2) := Lib.hid (HB_1.out.trans (hb.mono HB_1.out.size))
  have HTB_2 : Hid (Lib.TabBelow Tryd.prog w2.heap.size w2 "internal/strconv.uint64pow10" .u64 Lib.pow10Tab) := Lib.hid (tb_on HTB_1.out hb)
  have HAX_2 : Hid (VAt w2 S a) := Lib.hid (HAX_1.out.below hb (ltb HAX_1.out))
  clear hb HB_1 HTB_1 HAX_1
  go_wp2_with (refine wpList_load_row rfl 23 (.tmp 1) rfl (S) rfl 23 _ (0, 0) _ HAX_2.out Tryd.underlying23 rfl (by kernel_rfl) ?_)
  refine (text_any a w2 HF.out HTB_2.out).mono ?_
  rintro e w3 ⟨rfl, hb⟩
  obtain ⟨sz, hsz⟩ : ∃ sz : ByteArray, sz = str (pt a 4) := ⟨_, rfl⟩
  rw [← hsz]
  have HSZ : Hid (sz.size ≤ 1000) := Lib.hid (by rw [hsz, str_size]; have := pt_len a HF.out 4 (Nat.le_refl _); omega)
  have HSE : Hid (sz.data.toList = pt a 4) := Lib.hid (by rw [hsz]; rfl)
  clear hsz
  have HB_3 : Hid (Below w.heap.size w w3) := Lib.hid (HB_2.out.trans (hb.mono HB_2.out.size))
  have HTB_3 : Hid (Lib.TabBelow Tryd.prog w3.heap.size w3 "internal/strconv.uint64pow10" .u64 Lib.pow10Tab) := Lib.hid (tb_on HTB_2.out hb)
  have HAX_3 : Hid (VAt w3 S a) := Lib.hid (HAX_2.out.below hb (ltb HAX_2.out))
  clear hb HB_2 HTB_2 HAX_2
  go_wp2_with fail
  refine (read_any sz m w3 HSZ.out (by have := HB_3.out.size; have := H0.out; omega) ((HB_3.out.cell (p := ⟨0, 0, none⟩) H0.out).trans HM.out)).mono ?_
  rintro e w4 ⟨rfl, hb⟩
  rw [HSE.out]
  have HB_4 : Hid (Below w.heap.size w w4) := Lib.hid (HB_3.out.trans (hb.mono HB_3.out.size))
  have HTB_4 : Hid (Lib.TabBelow Tryd.prog w4.heap.size w4 "internal/strconv.uint64pow10" .u64 Lib.pow10Tab) := Lib.hid (tb_on HTB_3.out hb)
  have HAX_4 : Hid (VAt w4 S a) := Lib.hid (HAX_3.out.below hb (ltb HAX_3.out))
  clear hb HB_3 HTB_3 HAX_3
  rcases hoa : okv a with _ | _
  · skip
    have hbk := back_no hoa
    rw [hbk.1, hbk.2 0, hbk.2 1, hbk.2 2, hbk.2 3]
    clear hbk
    obtain ⟨P4, hP4⟩ : ∃ x, x = w4.heap.size := ⟨_, rfl⟩
    have hal : Below w4.heap.size w4 (w4.alloc (.cells #[.int .i64 0, .int .i64 0, .int .i64 0, .int .i64 0] 23)) := (Below.refl _ _).alloc (Nat.le_refl _) _
    have hnew : (w4.alloc (.cells #[.int .i64 0, .int .i64 0, .int .i64 0, .int .i64 0] 23)).heap[P4]? = some (.cells #[.int .i64 0, .int .i64 0, .int .i64 0, .int .i64 0] 23 (0, 0)) := by rw [hP4]; exact heap_alloc_new _ _
    have HB_5 : Hid (Below w.heap.size w (w4.alloc (.cells #[.int .i64 0, .int .i64 0, .int .i64 0, .int .i64 0] 23))) := Lib.hid (HB_4.out.trans (hal.mono HB_4.out.size))
    have HTB_5 : Hid (Lib.TabBelow Tryd.prog (w4.alloc (.cells #[.int .i64 0, .int .i64 0, .int .i64 0, .int .i64 0] 23)).heap.size (w4.alloc (.cells #[.int .i64 0, .int .i64 0, .int .i64 0, .int .i64 0] 23)) "internal/strconv.uint64pow10" .u64 Lib.pow10Tab) := Lib.hid (tb_on HTB_4.out hal)
    have HAX_5 : Hid (VAt (w4.alloc (.cells #[.int .i64 0, .int .i64 0, .int .i64 0, .int .i64 0] 23)) S a) := Lib.hid (HAX_4.out.below hal (ltb HAX_4.out))
    clear hal HB_4 HTB_4 HAX_4
    have HP4_5 : Hid (VAt (w4.alloc (.cells #[.int .i64 0, .int .i64 0, .int .i64 0, .int .i64 0] 23)) P4 (fun _ => 0)) := Lib.hid hnew
    clear hnew
    go_wp2_with (first | (refine wpList_store_row rfl 23 (.tmp 4) (.tmp 13) rfl w4.heap.size _ rfl rfl 23 _ (heap_alloc_new w4 _) (by kernel_rfl) rfl (by simp [Value.oneCell']) ?_; rw [World.setRow_alloc_new]) | (refine wpList_load_row rfl 23 (.tmp 1) rfl (S) rfl 23 _ (0, 0) _ HAX_5.out Tryd.underlying23 rfl (by kernel_rfl) ?_))
    rw [← hP4]
    clear hP4
    generalize w4.alloc (.cells #[.int .i64 0, .int .i64 0, .int .i64 0, .int .i64 0] 23) = w5 at HB_5 HTB_5 HAX_5 HP4_5 ⊢
    refine (right_any a w5).mono ?_
    rintro e w6 ⟨rfl, hb⟩
    rw [hoa]
    have HB_6 : Hid (Below w.heap.size w w6) := Lib.hid (HB_5.out.trans (hb.mono HB_5.out.size))
    have HTB_6 : Hid (Lib.TabBelow Tryd.prog w6.heap.size w6 "internal/strconv.uint64pow10" .u64 Lib.pow10Tab) := Lib.hid (tb_on HTB_5.out hb)
    have HAX_6 : Hid (VAt w6 S a) := Lib.hid (HAX_5.out.below hb (ltb HAX_5.out))
    have HP4_6 : Hid (VAt w6 P4 (fun _ => 0)) := Lib.hid (HP4_5.out.below hb (ltb HP4_5.out))
    clear hb HB_5 HTB_5 HAX_5 HP4_5
    have q1 : ∀ w, (Go.binOp .eql 23 (.agg #[.int .i64 0, .int .i64 0, .int .i64 0, .int .i64 0]) (.agg #[.int .i64 0, .int .i64 0, .int .i64 0, .int .i64 0])).run Tryd.prog w = .ok (.bool true) w := fun w => eq_vec2 (fun _ => 0) (fun _ => 0) w
    go_wp2_with (refine wpList_load_g rfl 23 (.tmp 4) rfl (P4) rfl 23 _ (0, 0) _ HP4_6.out Tryd.underlying23 rfl (by kernel_rfl) ?_)
    clear q1
    go_ret
    exact ⟨rfl, HB_6.out⟩
  · skip
    have hbk := back_yes hoa
    rw [hbk.1, hbk.2 0 (by decide), hbk.2 1 (by decide), hbk.2 2 (by decide), hbk.2 3 (by decide)]
    clear hbk
    obtain ⟨P4, hP4⟩ : ∃ x, x = w4.heap.size := ⟨_, rfl⟩
    have hal : Below w4.heap.size w4 (w4.alloc (.cells #[.int .i64 (a 0), .int .i64 (a 1), .int .i64 (a 2), .int .i64 (a 3)] 23)) := (Below.refl _ _).alloc (Nat.le_refl _) _
    have hnew : (w4.alloc (.cells #[.int .i64 (a 0), .int .i64 (a 1), .int .i64 (a 2), .int .i64 (a 3)] 23)).heap[P4]? = some (.cells #[.int .i64 (a 0), .int .i64 (a 1), .int .i64 (a 2), .int .i64 (a 3)] 23 (0, 0)) := by rw [hP4]; exact heap_alloc_new _ _
    have HB_5 : Hid (Below w.heap.size w (w4.alloc (.cells #[.int .i64 (a 0), .int .i64 (a 1), .int .i64 (a 2), .int .i64 (a 3)] 23))) := Lib.hid (HB_4.out.trans (hal.mono HB_4.out.size))
    have HTB_5 : Hid (Lib.TabBelow Tryd.prog (w4.alloc (.cells #[.int .i64 (a 0), .int .i64 (a 1), .int .i64 (a 2), .int .i64 (a 3)] 23)).heap.size (w4.alloc (.cells #[.int .i64 (a 0), .int .i64 (a 1), .int .i64 (a 2), .int .i64 (a 3)] 23)) "internal/strconv.uint64pow10" .u64 Lib.pow10Tab) := Lib.hid (tb_on HTB_4.out hal)
    have HAX_5 : Hid (VAt (w4.alloc (.cells #[.int .i64 (a 0), .int .i64 (a 1), .int .i64 (a 2), .int .i64 (a 3)] 23)) S a) := Lib.hid (HAX_4.out.below hal (ltb HAX_4.out))
    clear hal HB_4 HTB_4 HAX_4
    have HP4_5 : Hid (VAt (w4.alloc (.cells #[.int .i64 (a 0), .int .i64 (a 1), .int .i64 (a 2), .int .i64 (a 3)] 23)) P4 a) := Lib.hid hnew
    clear hnew
    go_wp2_with (first | (refine wpList_store_row rfl 23 (.tmp 4) (.tmp 13) rfl w4.heap.size _ rfl rfl 23 _ (heap_alloc_new w4 _) (by kernel_rfl) rfl (by simp [Value.oneCell']) ?_; rw [World.setRow_alloc_new]) | (refine wpList_load_row rfl 23 (.tmp 1) rfl (S) rfl 23 _ (0, 0) _ HAX_5.out Tryd.underlying23 rfl (by kernel_rfl) ?_))
    rw [← hP4]
    clear hP4
    generalize w4.alloc (.cells #[.int .i64 (a 0), .int .i64 (a 1), .int .i64 (a 2), .int .i64 (a 3)] 23) = w5 at HB_5 HTB_5 HAX_5 HP4_5 ⊢
    refine (right_any a w5).mono ?_
    rintro e w6 ⟨rfl, hb⟩
    rw [hoa]
    have HB_6 : Hid (Below w.heap.size w w6) := Lib.hid (HB_5.out.trans (hb.mono HB_5.out.size))
    have HTB_6 : Hid (Lib.TabBelow Tryd.prog w6.heap.size w6 "internal/strconv.uint64pow10" .u64 Lib.pow10Tab) := Lib.hid (tb_on HTB_5.out hb)
    have HAX_6 : Hid (VAt w6 S a) := Lib.hid (HAX_5.out.below hb (ltb HAX_5.out))
    have HP4_6 : Hid (VAt w6 P4 a) := Lib.hid (HP4_5.out.below hb (ltb HP4_5.out))
    clear hb HB_5 HTB_5 HAX_5 HP4_5
    have q1 : ∀ w, (Go.binOp .eql 23 (.agg #[.int .i64 (a 0), .int .i64 (a 1), .int .i64 (a 2), .int .i64 (a 3)]) (.agg #[.int .i64 (a 0), .int .i64 (a 1), .int .i64 (a 2), .int .i64 (a 3)])).run Tryd.prog w = .ok (.bool true) w := fun w => by rw [eq_vec2]; simp
    go_wp2_with (first | (refine wpList_load_g rfl 23 (.tmp 4) rfl (P4) rfl 23 _ (0, 0) _ HP4_6.out Tryd.underlying23 rfl (by kernel_rfl) ?_) | (refine wpList_load_g rfl 23 (.tmp 1) rfl (S) rfl 23 _ (0, 0) _ HAX_6.out Tryd.underlying23 rfl (by kernel_rfl) ?_))
    clear q1
    go_ret
    exact ⟨by simp, HB_6.out⟩
end Go.Proofs.YtfbmjejkhnopiaaDoor
