/- So many times is one time more than so many less one. -/
import Derived.Test.YtfbmjejkhnopiaaDoorVecD
namespace Go.Proofs.YtfbmjejkhnopiaaDoor
open Go.RowKit

theorem times_none (a : Nat → Int) : toldV (okv a && decide ((0 : Int) ≤ 0)) (fun i => a i * min 0 1073741825) = (fun _ => 0) := by
  funext i; rw [show min (0 : Int) 1073741825 = 0 from by decide]; unfold toldV; split <;> simp
theorem times_noneE (a : Nat → Int) : toldE (okv a && decide ((0 : Int) ≤ 0)) (fun i => a i * min 0 1073741825) 30 = if okv a = true then 0 else 1 := by
  rw [show min (0 : Int) 1073741825 = 0 from by decide]; cases h : okv a <;> simp [toldE, okv, okb]
theorem mul_pred (x n : Int) : x * (n - 1) + x = x * n := by rw [Int.mul_sub, Int.mul_one]; omega
theorem times_next {a : Nat → Int} {n : Int} (ha : okv a = true) (hn : 1 ≤ n) (h : okv (fun i => a i * min (n - 1) 1073741825) = true) : ∀ i, i < 4 → a i * min (n - 1) 1073741825 + a i = a i * min n 1073741825 := by
  intro i hi
  have hb := okv_bd ha hi
  have hc : a i * min (n - 1) 1073741825 ≤ 1073741824 := (okv_bd h hi).2
  by_cases hn1 : n ≤ 1073741825
  · rw [Int.min_eq_left hn1, Int.min_eq_left (by omega)]; exact mul_pred _ _
  · rw [Int.min_eq_right (by omega)] at hc
    have h0 : a i = 0 := by
      by_cases h0 : a i = 0
      · exact h0
      · have h1 : 1 * 1073741825 ≤ a i * 1073741825 := Int.mul_le_mul_of_nonneg_right (by omega) (by decide)
        omega
    rw [h0]; simp
theorem okv_congr {d e : Nat → Int} (h : ∀ i, i < 4 → d i = e i) : okv d = okv e := by
  unfold okv; rw [h 0 (by decide), h 1 (by decide), h 2 (by decide), h 3 (by decide)]
theorem times_more {a : Nat → Int} {n : Int} (ha : okv a = true) (hn : 1 ≤ n) (h : okv (fun i => a i * min (n - 1) 1073741825) = false) : okv (fun i => a i * min n 1073741825) = false := by
  cases hc : okv (fun i => a i * min n 1073741825) with
  | false => rfl
  | true =>
    have e : okv (fun i => a i * min (n - 1) 1073741825) = true := by
      have k : ∀ i, i < 4 → okb (a i * min (n - 1) 1073741825) = true := fun i hi => by
        have hb := okv_bd ha hi
        have h2 : a i * min n 1073741825 ≤ 1073741824 := (okv_bd hc hi).2
        have h3 : a i * min (n - 1) 1073741825 ≤ a i * min n 1073741825 := Int.mul_le_mul_of_nonneg_left (by omega) hb.1
        have h4 : 0 ≤ a i * min (n - 1) 1073741825 := Int.mul_nonneg hb.1 (by omega)
        simp [okb]; omega
      simp only [okv, k 0 (by decide), k 1 (by decide), k 2 (by decide), k 3 (by decide), Bool.and_self]
    rw [e] at h; cases h

set_option maxRecDepth 100000 in
set_option maxHeartbeats 8000000 in
theorem law_times (a : Nat → Int) (n : Int) (w : World) (htab : Lib.TabBelow Tryd.prog w.heap.size w "internal/strconv.uint64pow10" .u64 Lib.pow10Tab) (hn64 : n ≤ 9223372036854775807) : Calls Tryd.prog 6 #[.agg #[.int .i64 (a 0), .int .i64 (a 1), .int .i64 (a 2), .int .i64 (a 3)], .int .i64 n] w fun e w' => e = .returned (.bool true) ∧ Below w.heap.size w w' := by
  obtain ⟨S, hS⟩ : ∃ S, S = w.heap.size := ⟨_, rfl⟩
  obtain ⟨w1, hw1⟩ : ∃ x, x = (w.alloc (.cells #[.int .i64 (a 0), .int .i64 (a 1), .int .i64 (a 2), .int .i64 (a 3)] 23)) := ⟨_, rfl⟩
  have HB_1 : Hid (Below w.heap.size w w1) := Lib.hid (by rw [hw1]; exact ((Below.refl w.heap.size w).alloc (by simp) _))
  have HAX_1 : Hid (VAt w1 S a) := Lib.hid (by
    rw [hw1, hS]
    have h := heap_alloc_new w (.cells #[.int .i64 (a 0), .int .i64 (a 1), .int .i64 (a 2), .int .i64 (a 3)] 23)
    exact h)
  have HTB_1 : Hid (Lib.TabBelow Tryd.prog w1.heap.size w1 "internal/strconv.uint64pow10" .u64 Lib.pow10Tab) := Lib.hid (tb_on htab HB_1.out)
  have HS := Lib.hid hS
  clear htab
  go_enter Tryd.func6, Tryd.ntmps6
  go_upto_region 1 with (fail)
  rw [← hw1, ← hS]
  clear hw1 hS
  go_wp2_with fail
  refine (awake_any w1 HTB_1.out).mono ?_
  rintro e w2 ⟨rfl, hb⟩
  have HB_2 : Hid (Below w.heap.size w w2) := Lib.hid (HB_1.out.trans (hb.mono HB_1.out.size))
  have HTB_2 : Hid (Lib.TabBelow Tryd.prog w2.heap.size w2 "internal/strconv.uint64pow10" .u64 Lib.pow10Tab) := Lib.hid (tb_on HTB_1.out hb)
  have HAX_2 : Hid (VAt w2 S a) := Lib.hid (HAX_1.out.below hb (ltb HAX_1.out))
  clear hb HB_1 HTB_1 HAX_1
  clear HTB_2
  have HN64 := Lib.hid hn64
  clear hn64
  by_cases hn1 : n < 1
  · rcases hoa : okv a with _ | _
    · skip
      go_wp2_with (refine wpList_load_row rfl 23 (.tmp 2) rfl (S) rfl 23 _ (0, 0) _ HAX_2.out Tryd.underlying23 rfl (by kernel_rfl) ?_)
      refine (times_any a 0 w2).mono ?_
      rintro e w3 ⟨rfl, hb⟩
      rw [times_none, times_noneE, hoa]
      simp only [Bool.false_eq_true, if_false]
      have HB_3 : Hid (Below w.heap.size w w3) := Lib.hid (HB_2.out.trans (hb.mono HB_2.out.size))
      have HAX_3 : Hid (VAt w3 S a) := Lib.hid (HAX_2.out.below hb (ltb HAX_2.out))
      clear hb HB_2 HAX_2
      obtain ⟨P6, hP6⟩ : ∃ x, x = w3.heap.size := ⟨_, rfl⟩
      have hal : Below w3.heap.size w3 (w3.alloc (.cells #[.int .i64 0, .int .i64 0, .int .i64 0, .int .i64 0] 23)) := (Below.refl _ _).alloc (Nat.le_refl _) _
      have hnew : (w3.alloc (.cells #[.int .i64 0, .int .i64 0, .int .i64 0, .int .i64 0] 23)).heap[P6]? = some (.cells #[.int .i64 0, .int .i64 0, .int .i64 0, .int .i64 0] 23 (0, 0)) := by rw [hP6]; exact heap_alloc_new _ _
      have HB_4 : Hid (Below w.heap.size w (w3.alloc (.cells #[.int .i64 0, .int .i64 0, .int .i64 0, .int .i64 0] 23))) := Lib.hid (HB_3.out.trans (hal.mono HB_3.out.size))
      have HAX_4 : Hid (VAt (w3.alloc (.cells #[.int .i64 0, .int .i64 0, .int .i64 0, .int .i64 0] 23)) S a) := Lib.hid (HAX_3.out.below hal (ltb HAX_3.out))
      clear hal HB_3 HAX_3
      have HP6_4 : Hid (VAt (w3.alloc (.cells #[.int .i64 0, .int .i64 0, .int .i64 0, .int .i64 0] 23)) P6 (fun _ => 0)) := Lib.hid hnew
      clear hnew
      go_upto_region 6 with (refine wpList_store_row rfl 23 (.tmp 6) (.tmp 27) rfl w3.heap.size _ rfl rfl 23 _ (heap_alloc_new w3 _) (by kernel_rfl) rfl (by simp [Value.oneCell']) ?_; rw [World.setRow_alloc_new])
      rw [← hP6]
      clear hP6
      generalize w3.alloc (.cells #[.int .i64 0, .int .i64 0, .int .i64 0, .int .i64 0] 23) = w4 at HB_4 HAX_4 HP6_4 ⊢
      have q1 : ∀ w, (Go.binOp .eql 23 (.agg #[.int .i64 0, .int .i64 0, .int .i64 0, .int .i64 0]) (.agg #[.int .i64 0, .int .i64 0, .int .i64 0, .int .i64 0])).run Tryd.prog w = .ok (.bool true) w := fun w => eq_vec2 (fun _ => 0) (fun _ => 0) w
      go_wp2_with (first | (refine wpList_load_row rfl 23 (.tmp 6) rfl (P6) rfl 23 _ (0, 0) _ HP6_4.out Tryd.underlying23 rfl (by kernel_rfl) ?_) | (refine wpList_load_g rfl 23 (.tmp 2) rfl (S) rfl 23 _ (0, 0) _ HAX_4.out Tryd.underlying23 rfl (by kernel_rfl) ?_))
      refine (right_any a w4).mono ?_
      rintro e w5 ⟨rfl, hb⟩
      rw [hoa]
      have HB_5 : Hid (Below w.heap.size w w5) := Lib.hid (HB_4.out.trans (hb.mono HB_4.out.size))
      have HAX_5 : Hid (VAt w5 S a) := Lib.hid (HAX_4.out.below hb (ltb HAX_4.out))
      have HP6_5 : Hid (VAt w5 P6 (fun _ => 0)) := Lib.hid (HP6_4.out.below hb (ltb HP6_4.out))
      clear hb HB_4 HAX_4 HP6_4
      clear q1
      go_wp2_with fail
      go_ret
      exact ⟨rfl, HB_5.out⟩
    · skip
      go_wp2_with (refine wpList_load_row rfl 23 (.tmp 2) rfl (S) rfl 23 _ (0, 0) _ HAX_2.out Tryd.underlying23 rfl (by kernel_rfl) ?_)
      refine (times_any a 0 w2).mono ?_
      rintro e w3 ⟨rfl, hb⟩
      rw [times_none, times_noneE, hoa]
      simp only [if_true]
      have HB_3 : Hid (Below w.heap.size w w3) := Lib.hid (HB_2.out.trans (hb.mono HB_2.out.size))
      have HAX_3 : Hid (VAt w3 S a) := Lib.hid (HAX_2.out.below hb (ltb HAX_2.out))
      clear hb HB_2 HAX_2
      obtain ⟨P6, hP6⟩ : ∃ x, x = w3.heap.size := ⟨_, rfl⟩
      have hal : Below w3.heap.size w3 (w3.alloc (.cells #[.int .i64 0, .int .i64 0, .int .i64 0, .int .i64 0] 23)) := (Below.refl _ _).alloc (Nat.le_refl _) _
      have hnew : (w3.alloc (.cells #[.int .i64 0, .int .i64 0, .int .i64 0, .int .i64 0] 23)).heap[P6]? = some (.cells #[.int .i64 0, .int .i64 0, .int .i64 0, .int .i64 0] 23 (0, 0)) := by rw [hP6]; exact heap_alloc_new _ _
      have HB_4 : Hid (Below w.heap.size w (w3.alloc (.cells #[.int .i64 0, .int .i64 0, .int .i64 0, .int .i64 0] 23))) := Lib.hid (HB_3.out.trans (hal.mono HB_3.out.size))
      have HAX_4 : Hid (VAt (w3.alloc (.cells #[.int .i64 0, .int .i64 0, .int .i64 0, .int .i64 0] 23)) S a) := Lib.hid (HAX_3.out.below hal (ltb HAX_3.out))
      clear hal HB_3 HAX_3
      have HP6_4 : Hid (VAt (w3.alloc (.cells #[.int .i64 0, .int .i64 0, .int .i64 0, .int .i64 0] 23)) P6 (fun _ => 0)) := Lib.hid hnew
      clear hnew
      go_upto_region 6 with (refine wpList_store_row rfl 23 (.tmp 6) (.tmp 27) rfl w3.heap.size _ rfl rfl 23 _ (heap_alloc_new w3 _) (by kernel_rfl) rfl (by simp [Value.oneCell']) ?_; rw [World.setRow_alloc_new])
      rw [← hP6]
      clear hP6
      generalize w3.alloc (.cells #[.int .i64 0, .int .i64 0, .int .i64 0, .int .i64 0] 23) = w4 at HB_4 HAX_4 HP6_4 ⊢
      have q1 : ∀ w, (Go.binOp .eql 23 (.agg #[.int .i64 0, .int .i64 0, .int .i64 0, .int .i64 0]) (.agg #[.int .i64 0, .int .i64 0, .int .i64 0, .int .i64 0])).run Tryd.prog w = .ok (.bool true) w := fun w => eq_vec2 (fun _ => 0) (fun _ => 0) w
      go_wp2_with (first | (refine wpList_load_row rfl 23 (.tmp 6) rfl (P6) rfl 23 _ (0, 0) _ HP6_4.out Tryd.underlying23 rfl (by kernel_rfl) ?_) | (refine wpList_load_g rfl 23 (.tmp 2) rfl (S) rfl 23 _ (0, 0) _ HAX_4.out Tryd.underlying23 rfl (by kernel_rfl) ?_))
      refine (right_any a w4).mono ?_
      rintro e w5 ⟨rfl, hb⟩
      rw [hoa]
      have HB_5 : Hid (Below w.heap.size w w5) := Lib.hid (HB_4.out.trans (hb.mono HB_4.out.size))
      have HAX_5 : Hid (VAt w5 S a) := Lib.hid (HAX_4.out.below hb (ltb HAX_4.out))
      have HP6_5 : Hid (VAt w5 P6 (fun _ => 0)) := Lib.hid (HP6_4.out.below hb (ltb HP6_4.out))
      clear hb HB_4 HAX_4 HP6_4
      clear q1
      go_wp2_with fail
      go_ret
      exact ⟨rfl, HB_5.out⟩
  rcases hoa : okv a with _ | _
  · skip
    have hnd : decide (n < 1) = false := by simpa using hn1
    go_wp2_with (refine wpList_load_g rfl 23 (.tmp 2) rfl (S) rfl 23 _ (0, 0) _ HAX_2.out Tryd.underlying23 rfl (by kernel_rfl) ?_)
    refine (right_any a w2).mono ?_
    rintro e w3 ⟨rfl, hb⟩
    rw [hoa]
    have HB_3 : Hid (Below w.heap.size w w3) := Lib.hid (HB_2.out.trans (hb.mono HB_2.out.size))
    have HAX_3 : Hid (VAt w3 S a) := Lib.hid (HAX_2.out.below hb (ltb HAX_2.out))
    clear hb HB_2 HAX_2
    clear hnd
    go_wp2_with (refine wpList_load_row rfl 23 (.tmp 2) rfl (S) rfl 23 _ (0, 0) _ HAX_3.out Tryd.underlying23 rfl (by kernel_rfl) ?_)
    refine (times_any a 0 w3).mono ?_
    rintro e w4 ⟨rfl, hb⟩
    rw [times_none, times_noneE, hoa]
    simp only [Bool.false_eq_true, if_false]
    have HB_4 : Hid (Below w.heap.size w w4) := Lib.hid (HB_3.out.trans (hb.mono HB_3.out.size))
    have HAX_4 : Hid (VAt w4 S a) := Lib.hid (HAX_3.out.below hb (ltb HAX_3.out))
    clear hb HB_3 HAX_3
    obtain ⟨P6, hP6⟩ : ∃ x, x = w4.heap.size := ⟨_, rfl⟩
    have hal : Below w4.heap.size w4 (w4.alloc (.cells #[.int .i64 0, .int .i64 0, .int .i64 0, .int .i64 0] 23)) := (Below.refl _ _).alloc (Nat.le_refl _) _
    have hnew : (w4.alloc (.cells #[.int .i64 0, .int .i64 0, .int .i64 0, .int .i64 0] 23)).heap[P6]? = some (.cells #[.int .i64 0, .int .i64 0, .int .i64 0, .int .i64 0] 23 (0, 0)) := by rw [hP6]; exact heap_alloc_new _ _
    have HB_5 : Hid (Below w.heap.size w (w4.alloc (.cells #[.int .i64 0, .int .i64 0, .int .i64 0, .int .i64 0] 23))) := Lib.hid (HB_4.out.trans (hal.mono HB_4.out.size))
    have HAX_5 : Hid (VAt (w4.alloc (.cells #[.int .i64 0, .int .i64 0, .int .i64 0, .int .i64 0] 23)) S a) := Lib.hid (HAX_4.out.below hal (ltb HAX_4.out))
    clear hal HB_4 HAX_4
    have HP6_5 : Hid (VAt (w4.alloc (.cells #[.int .i64 0, .int .i64 0, .int .i64 0, .int .i64 0] 23)) P6 (fun _ => 0)) := Lib.hid hnew
    clear hnew
    go_upto_region 6 with (refine wpList_store_row rfl 23 (.tmp 6) (.tmp 27) rfl w4.heap.size _ rfl rfl 23 _ (heap_alloc_new w4 _) (by kernel_rfl) rfl (by simp [Value.oneCell']) ?_; rw [World.setRow_alloc_new])
    rw [← hP6]
    clear hP6
    generalize w4.alloc (.cells #[.int .i64 0, .int .i64 0, .int .i64 0, .int .i64 0] 23) = w5 at HB_5 HAX_5 HP6_5 ⊢
    have q1 : ∀ w, (Go.binOp .eql 23 (.agg #[.int .i64 0, .int .i64 0, .int .i64 0, .int .i64 0]) (.agg #[.int .i64 0, .int .i64 0, .int .i64 0, .int .i64 0])).run Tryd.prog w = .ok (.bool true) w := fun w => eq_vec2 (fun _ => 0) (fun _ => 0) w
    go_wp2_with (first | (refine wpList_load_row rfl 23 (.tmp 6) rfl (P6) rfl 23 _ (0, 0) _ HP6_5.out Tryd.underlying23 rfl (by kernel_rfl) ?_) | (refine wpList_load_g rfl 23 (.tmp 2) rfl (S) rfl 23 _ (0, 0) _ HAX_5.out Tryd.underlying23 rfl (by kernel_rfl) ?_))
    refine (right_any a w5).mono ?_
    rintro e w6 ⟨rfl, hb⟩
    rw [hoa]
    have HB_6 : Hid (Below w.heap.size w w6) := Lib.hid (HB_5.out.trans (hb.mono HB_5.out.size))
    have HAX_6 : Hid (VAt w6 S a) := Lib.hid (HAX_5.out.below hb (ltb HAX_5.out))
    have HP6_6 : Hid (VAt w6 P6 (fun _ => 0)) := Lib.hid (HP6_5.out.below hb (ltb HP6_5.out))
    clear hb HB_5 HAX_5 HP6_5
    clear q1
    go_wp2_with fail
    go_ret
    exact ⟨rfl, HB_6.out⟩
  have hnd : decide (n < 1) = false := by simpa using hn1
  go_wp2_with (refine wpList_load_g rfl 23 (.tmp 2) rfl (S) rfl 23 _ (0, 0) _ HAX_2.out Tryd.underlying23 rfl (by kernel_rfl) ?_)
  refine (right_any a w2).mono ?_
  rintro e w3 ⟨rfl, hb⟩
  rw [hoa]
  clear hnd
  have HB_3 : Hid (Below w.heap.size w w3) := Lib.hid (HB_2.out.trans (hb.mono HB_2.out.size))
  have HAX_3 : Hid (VAt w3 S a) := Lib.hid (HAX_2.out.below hb (ltb HAX_2.out))
  clear hb HB_2 HAX_2
  go_wp2_with (refine wpList_load_row rfl 23 (.tmp 2) rfl (S) rfl 23 _ (0, 0) _ HAX_3.out Tryd.underlying23 rfl (by kernel_rfl) ?_)
  refine (times_any a n w3).mono ?_
  rintro e w4 ⟨rfl, hb⟩
  obtain ⟨x, hx⟩ : ∃ x, x = toldV (okv a && decide (0 ≤ n)) (fun i => a i * min n 1073741825) := ⟨_, rfl⟩
  rw [← hx]
  have Hx := Lib.hid hx
  clear hx
  obtain ⟨ex, hex⟩ : ∃ x, x = toldE (okv a && decide (0 ≤ n)) (fun i => a i * min n 1073741825) 30 := ⟨_, rfl⟩
  rw [← hex]
  have Hex := Lib.hid hex
  clear hex
  have HB_4 : Hid (Below w.heap.size w w4) := Lib.hid (HB_3.out.trans (hb.mono HB_3.out.size))
  have HAX_4 : Hid (VAt w4 S a) := Lib.hid (HAX_3.out.below hb (ltb HAX_3.out))
  clear hb HB_3 HAX_3
  have hn0 : 1 ≤ n := by omega
  have hn64 := HN64.out
  obtain ⟨P8, hP8⟩ : ∃ x, x = w4.heap.size := ⟨_, rfl⟩
  have hal : Below w4.heap.size w4 (w4.alloc (.cells #[.int .i64 (x 0), .int .i64 (x 1), .int .i64 (x 2), .int .i64 (x 3)] 23)) := (Below.refl _ _).alloc (Nat.le_refl _) _
  have hnew : (w4.alloc (.cells #[.int .i64 (x 0), .int .i64 (x 1), .int .i64 (x 2), .int .i64 (x 3)] 23)).heap[P8]? = some (.cells #[.int .i64 (x 0), .int .i64 (x 1), .int .i64 (x 2), .int .i64 (x 3)] 23 (0, 0)) := by rw [hP8]; exact heap_alloc_new _ _
  have HB_5 : Hid (Below w.heap.size w (w4.alloc (.cells #[.int .i64 (x 0), .int .i64 (x 1), .int .i64 (x 2), .int .i64 (x 3)] 23))) := Lib.hid (HB_4.out.trans (hal.mono HB_4.out.size))
  have HAX_5 : Hid (VAt (w4.alloc (.cells #[.int .i64 (x 0), .int .i64 (x 1), .int .i64 (x 2), .int .i64 (x 3)] 23)) S a) := Lib.hid (HAX_4.out.below hal (ltb HAX_4.out))
  clear hal HB_4 HAX_4
  have HP8_5 : Hid (VAt (w4.alloc (.cells #[.int .i64 (x 0), .int .i64 (x 1), .int .i64 (x 2), .int .i64 (x 3)] 23)) P8 x) := Lib.hid hnew
  clear hnew
  go_wp2_with (first | (refine wpList_store_row rfl 23 (.tmp 8) (.tmp 43) rfl w4.heap.size _ rfl rfl 23 _ (heap_alloc_new w4 _) (by kernel_rfl) rfl (by simp [Value.oneCell']) ?_; rw [World.setRow_alloc_new]) | (refine wpList_load_row rfl 23 (.tmp 2) rfl (S) rfl 23 _ (0, 0) _ HAX_5.out Tryd.underlying23 rfl (by kernel_rfl) ?_))
  rw [← hP8]
  clear hP8
  generalize w4.alloc (.cells #[.int .i64 (x 0), .int .i64 (x 1), .int .i64 (x 2), .int .i64 (x 3)] 23) = w5 at HB_5 HAX_5 HP8_5 ⊢
  refine (times_any a (n - 1) w5).mono ?_
  rintro e w6 ⟨rfl, hb⟩
  obtain ⟨y, hy⟩ : ∃ x, x = toldV (okv a && decide (0 ≤ n - 1)) (fun i => a i * min (n - 1) 1073741825) := ⟨_, rfl⟩
  rw [← hy]
  have Hy := Lib.hid hy
  clear hy
  obtain ⟨ey, hey⟩ : ∃ x, x = toldE (okv a && decide (0 ≤ n - 1)) (fun i => a i * min (n - 1) 1073741825) 30 := ⟨_, rfl⟩
  rw [← hey]
  have Hey := Lib.hid hey
  clear hey
  have HB_6 : Hid (Below w.heap.size w w6) := Lib.hid (HB_5.out.trans (hb.mono HB_5.out.size))
  have HAX_6 : Hid (VAt w6 S a) := Lib.hid (HAX_5.out.below hb (ltb HAX_5.out))
  have HP8_6 : Hid (VAt w6 P8 x) := Lib.hid (HP8_5.out.below hb (ltb HP8_5.out))
  clear hb HB_5 HAX_5 HP8_5
  obtain ⟨P10, hP10⟩ : ∃ x, x = w6.heap.size := ⟨_, rfl⟩
  have hal : Below w6.heap.size w6 (w6.alloc (.cells #[.int .i64 (y 0), .int .i64 (y 1), .int .i64 (y 2), .int .i64 (y 3)] 23)) := (Below.refl _ _).alloc (Nat.le_refl _) _
  have hnew : (w6.alloc (.cells #[.int .i64 (y 0), .int .i64 (y 1), .int .i64 (y 2), .int .i64 (y 3)] 23)).heap[P10]? = some (.cells #[.int .i64 (y 0), .int .i64 (y 1), .int .i64 (y 2), .int .i64 (y 3)] 23 (0, 0)) := by rw [hP10]; exact heap_alloc_new _ _
  have HB_7 : Hid (Below w.heap.size w (w6.alloc (.cells #[.int .i64 (y 0), .int .i64 (y 1), .int .i64 (y 2), .int .i64 (y 3)] 23))) := Lib.hid (HB_6.out.trans (hal.mono HB_6.out.size))
  have HAX_7 : Hid (VAt (w6.alloc (.cells #[.int .i64 (y 0), .int .i64 (y 1), .int .i64 (y 2), .int .i64 (y 3)] 23)) S a) := Lib.hid (HAX_6.out.below hal (ltb HAX_6.out))
  have HP8_7 : Hid (VAt (w6.alloc (.cells #[.int .i64 (y 0), .int .i64 (y 1), .int .i64 (y 2), .int .i64 (y 3)] 23)) P8 x) := Lib.hid (HP8_6.out.below hal (ltb HP8_6.out))
  clear hal HB_6 HAX_6 HP8_6
  have HP10_7 : Hid (VAt (w6.alloc (.cells #[.int .i64 (y 0), .int .i64 (y 1), .int .i64 (y 2), .int .i64 (y 3)] 23)) P10 y) := Lib.hid hnew
  clear hnew
  go_upto_region 9 with (refine wpList_store_row rfl 23 (.tmp 10) (.tmp 50) rfl w6.heap.size _ rfl rfl 23 _ (heap_alloc_new w6 _) (by kernel_rfl) rfl (by simp [Value.oneCell']) ?_; rw [World.setRow_alloc_new])
  rw [← hP10]
  clear hP10
  generalize w6.alloc (.cells #[.int .i64 (y 0), .int .i64 (y 1), .int .i64 (y 2), .int .i64 (y 3)] 23) = w7 at HB_7 HAX_7 HP8_7 HP10_7 ⊢
  have hd : decide (0 ≤ n) = true := by simp; omega
  have hd' : decide (0 ≤ n - 1) = true := by simp; omega
  rcases hok : okv (fun i => a i * min (n - 1) 1073741825) with _ | _
  · have hey1 : ey = 30 := by rw [Hey.out]; simp [toldE, hoa, hok]; omega
    have hex1 : ex = 30 := by rw [Hex.out]; simp [toldE, hoa, times_more hoa hn0 hok]; omega
    clear hok hd hd'
    subst hey1 hex1
    go_wp2_with fail
    go_ret
    exact ⟨rfl, HB_7.out⟩
  · have hey1 : ey = 0 := by rw [Hey.out]; simp [toldE, hoa, hok]; omega
    have hyf : y = fun i => a i * min (n - 1) 1073741825 := by rw [Hy.out, hd', hoa]; funext i; simp [toldV, hok]
    have hst := times_next hoa hn0 hok
    have hyo : okv y = true := by rw [hyf]; exact hok
    have hsum : ∀ i, i < 4 → (fun i => y i + a i) i = (fun i => a i * min n 1073741825) i := fun i hi => by rw [hyf]; exact hst i hi
    have hoe := okv_congr hsum
    have HEX : Hid (toldE (okv y && okv a) (fun i => y i + a i) 30 = ex) := Lib.hid (by rw [Hex.out, hyo, hoa, hd]; unfold toldE; rw [hoe])
    have HXX : Hid (∀ i, i < 4 → (toldV (okv y && okv a) (fun i => y i + a i)) i = x i) := Lib.hid (fun i hi => by rw [Hx.out, hyo, hoa, hd]; unfold toldV; rw [hoe]; have h := hsum i hi; simp only at h; split <;> first | exact h | rfl)
    clear hok hd hd' hyf hst hyo hsum hoe
    subst hey1
    go_wp2_with (first | (refine wpList_load_row rfl 23 (.tmp 10) rfl (P10) rfl 23 _ (0, 0) _ HP10_7.out Tryd.underlying23 rfl (by kernel_rfl) ?_) | (refine wpList_load_row rfl 23 (.tmp 2) rfl (S) rfl 23 _ (0, 0) _ HAX_7.out Tryd.underlying23 rfl (by kernel_rfl) ?_))
    refine (add_any y a w7).mono ?_
    rintro e w8 ⟨rfl, hb⟩
    rw [HXX.out 0 (by decide), HXX.out 1 (by decide), HXX.out 2 (by decide), HXX.out 3 (by decide), HEX.out]
    have HB_8 : Hid (Below w.heap.size w w8) := Lib.hid (HB_7.out.trans (hb.mono HB_7.out.size))
    have HAX_8 : Hid (VAt w8 S a) := Lib.hid (HAX_7.out.below hb (ltb HAX_7.out))
    have HP8_8 : Hid (VAt w8 P8 x) := Lib.hid (HP8_7.out.below hb (ltb HP8_7.out))
    have HP10_8 : Hid (VAt w8 P10 y) := Lib.hid (HP10_7.out.below hb (ltb HP10_7.out))
    clear hb HB_7 HAX_7 HP8_7 HP10_7
    obtain ⟨P12, hP12⟩ : ∃ x, x = w8.heap.size := ⟨_, rfl⟩
    have hal : Below w8.heap.size w8 (w8.alloc (.cells #[.int .i64 (x 0), .int .i64 (x 1), .int .i64 (x 2), .int .i64 (x 3)] 23)) := (Below.refl _ _).alloc (Nat.le_refl _) _
    have hnew : (w8.alloc (.cells #[.int .i64 (x 0), .int .i64 (x 1), .int .i64 (x 2), .int .i64 (x 3)] 23)).heap[P12]? = some (.cells #[.int .i64 (x 0), .int .i64 (x 1), .int .i64 (x 2), .int .i64 (x 3)] 23 (0, 0)) := by rw [hP12]; exact heap_alloc_new _ _
    have HB_9 : Hid (Below w.heap.size w (w8.alloc (.cells #[.int .i64 (x 0), .int .i64 (x 1), .int .i64 (x 2), .int .i64 (x 3)] 23))) := Lib.hid (HB_8.out.trans (hal.mono HB_8.out.size))
    have HAX_9 : Hid (VAt (w8.alloc (.cells #[.int .i64 (x 0), .int .i64 (x 1), .int .i64 (x 2), .int .i64 (x 3)] 23)) S a) := Lib.hid (HAX_8.out.below hal (ltb HAX_8.out))
    have HP8_9 : Hid (VAt (w8.alloc (.cells #[.int .i64 (x 0), .int .i64 (x 1), .int .i64 (x 2), .int .i64 (x 3)] 23)) P8 x) := Lib.hid (HP8_8.out.below hal (ltb HP8_8.out))
    have HP10_9 : Hid (VAt (w8.alloc (.cells #[.int .i64 (x 0), .int .i64 (x 1), .int .i64 (x 2), .int .i64 (x 3)] 23)) P10 y) := Lib.hid (HP10_8.out.below hal (ltb HP10_8.out))
    clear hal HB_8 HAX_8 HP8_8 HP10_8
    have HP12_9 : Hid (VAt (w8.alloc (.cells #[.int .i64 (x 0), .int .i64 (x 1), .int .i64 (x 2), .int .i64 (x 3)] 23)) P12 x) := Lib.hid hnew
    clear hnew
    go_upto_region 12 with (refine wpList_store_row rfl 23 (.tmp 12) (.tmp 60) rfl w8.heap.size _ rfl rfl 23 _ (heap_alloc_new w8 _) (by kernel_rfl) rfl (by simp [Value.oneCell']) ?_; rw [World.setRow_alloc_new])
    rw [← hP12]
    clear hP12
    generalize w8.alloc (.cells #[.int .i64 (x 0), .int .i64 (x 1), .int .i64 (x 2), .int .i64 (x 3)] 23) = w9 at HB_9 HAX_9 HP8_9 HP10_9 HP12_9 ⊢
    have q1 : ∀ w, (Go.binOp .eql 23 (.agg #[.int .i64 (x 0), .int .i64 (x 1), .int .i64 (x 2), .int .i64 (x 3)]) (.agg #[.int .i64 (x 0), .int .i64 (x 1), .int .i64 (x 2), .int .i64 (x 3)])).run Tryd.prog w = .ok (.bool true) w := fun w => by rw [eq_vec2]; simp
    go_wp2_with (first | (refine wpList_load_g rfl 23 (.tmp 8) rfl (P8) rfl 23 _ (0, 0) _ HP8_9.out Tryd.underlying23 rfl (by kernel_rfl) ?_) | (refine wpList_load_g rfl 23 (.tmp 12) rfl (P12) rfl 23 _ (0, 0) _ HP12_9.out Tryd.underlying23 rfl (by kernel_rfl) ?_))
    clear q1
    go_ret
    exact ⟨by simp, HB_9.out⟩
end Go.Proofs.YtfbmjejkhnopiaaDoor
