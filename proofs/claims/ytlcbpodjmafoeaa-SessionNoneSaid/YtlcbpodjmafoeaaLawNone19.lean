/- The law SessionNone: the walk. -/
import Derived.Test.YtlcbpodjmafoeaaAwk19
import Derived.Test.YtlcbpodjmafoeaaNilS
import Derived.Test.YtlcbpodjmafoeaaSame19
import Derived.Deep.Cut
namespace Go.Proofs.Ytlcbpodjmafoeaa
open Go.RowKit

set_option maxRecDepth 100000 in
set_option maxHeartbeats 8000000 in
theorem law_none (v : Nat → Int) (B : Option Addr) (n cb : Nat) (now : Int) (w : World) :
    Calls Try.prog 7 #[.agg #[.int .i64 (v 0), .int .i64 (v 1), .int .i64 (v 2), .int .i64 (v 3), .int .i64 (v 4), .int .i64 (v 5), .int .i64 (v 6), .int .i64 (v 7), .int .i64 (v 8), .int .i64 (v 9), .int .i64 (v 10), .int .i64 (v 11), .int .i64 (v 12), .int .i64 (v 13), .int .i64 (v 14), .int .i64 (v 15), .int .i64 (v 16), .slice B n cb, .int .i64 (v 18), .int .i64 (v 19), .int .i64 (v 20)], .int .i64 now] w fun e w' => e = .returned (.bool true) ∧ Below w.heap.size w w' := by
  obtain ⟨S, hS⟩ : ∃ S, S = w.heap.size := ⟨_, rfl⟩
  have hm : MAt (w.alloc (.cells #[.int .i64 (v 0), .int .i64 (v 1), .int .i64 (v 2), .int .i64 (v 3), .int .i64 (v 4), .int .i64 (v 5), .int .i64 (v 6), .int .i64 (v 7), .int .i64 (v 8), .int .i64 (v 9), .int .i64 (v 10), .int .i64 (v 11), .int .i64 (v 12), .int .i64 (v 13), .int .i64 (v 14), .int .i64 (v 15), .int .i64 (v 16), .slice B n cb, .int .i64 (v 18), .int .i64 (v 19), .int .i64 (v 20)] 36)) S v B n cb := by rw [hS]; exact heap_alloc_new w _
  have HM0 := Lib.hid hm
  have HB0 := Lib.hid ((Below.refl w.heap.size w).alloc (Nat.le_refl _) (.cells #[.int .i64 (v 0), .int .i64 (v 1), .int .i64 (v 2), .int .i64 (v 3), .int .i64 (v 4), .int .i64 (v 5), .int .i64 (v 6), .int .i64 (v 7), .int .i64 (v 8), .int .i64 (v 9), .int .i64 (v 10), .int .i64 (v 11), .int .i64 (v 12), .int .i64 (v 13), .int .i64 (v 14), .int .i64 (v 15), .int .i64 (v 16), .slice B n cb, .int .i64 (v 18), .int .i64 (v 19), .int .i64 (v 20)] 36))
  have HS := Lib.hid hS
  clear hm
  go_enter Try.func7, Try.ntmps7
  go_wp2_with fail
  rw [← hS]
  clear hS
  generalize w.alloc (.cells #[.int .i64 (v 0), .int .i64 (v 1), .int .i64 (v 2), .int .i64 (v 3), .int .i64 (v 4), .int .i64 (v 5), .int .i64 (v 6), .int .i64 (v 7), .int .i64 (v 8), .int .i64 (v 9), .int .i64 (v 10), .int .i64 (v 11), .int .i64 (v 12), .int .i64 (v 13), .int .i64 (v 14), .int .i64 (v 15), .int .i64 (v 16), .slice B n cb, .int .i64 (v 18), .int .i64 (v 19), .int .i64 (v 20)] 36) = w0 at HM0 HB0 ⊢
  refine (awake_any w0).mono ?_
  rintro e w1 ⟨rfl, hb⟩
  have HM1 := Lib.hid (HM0.out.below hb (ltb HM0.out))
  have HB1 := Lib.hid (HB0.out.trans (hb.mono HB0.out.size))
  clear hb HM0 HB0
  have m17 : w1.cell? ⟨S, 17, none⟩ = some (.slice B n cb) := cellb (i := 17) HM1.out rfl
  by_cases hbig : 5000 < n
  · go_wp2_with fail
    go_ret
    exact ⟨rfl, HB1.out⟩
  go_wp2_with fail
  clear m17
  refine (send_nil now w1).mono ?_
  rintro e w2 ⟨rfl, hb⟩
  have HM2 := Lib.hid (HM1.out.below hb (ltb HM1.out))
  have HB2 := Lib.hid (HB1.out.trans (hb.mono HB1.out.size))
  clear hb HM1 HB1

  obtain ⟨P8, hP8⟩ : ∃ x, x = w2.heap.size := ⟨_, rfl⟩
  have hal : Below w2.heap.size w2 (w2.alloc (.cells #[.int .i64 0, .int .i64 0, .int .i64 0, .int .i64 0, .int .i64 0, .int .i64 0, .int .i64 0, .int .i64 0, .int .i64 0, .int .i64 0, .int .i64 0, .int .i64 0, .int .i64 0, .int .i64 0, .int .i64 0, .int .i64 0, .int .i64 0, .slice none 0 0, .int .i64 0, .int .i64 0, .int .i64 0] 36)) := (Below.refl _ _).alloc (Nat.le_refl _) _
  have HP8_3 : Hid ((w2.alloc (.cells #[.int .i64 0, .int .i64 0, .int .i64 0, .int .i64 0, .int .i64 0, .int .i64 0, .int .i64 0, .int .i64 0, .int .i64 0, .int .i64 0, .int .i64 0, .int .i64 0, .int .i64 0, .int .i64 0, .int .i64 0, .int .i64 0, .int .i64 0, .slice none 0 0, .int .i64 0, .int .i64 0, .int .i64 0] 36)).heap[P8]? = some (.cells #[.int .i64 0, .int .i64 0, .int .i64 0, .int .i64 0, .int .i64 0, .int .i64 0, .int .i64 0, .int .i64 0, .int .i64 0, .int .i64 0, .int .i64 0, .int .i64 0, .int .i64 0, .int .i64 0, .int .i64 0, .int .i64 0, .int .i64 0, .slice none 0 0, .int .i64 0, .int .i64 0, .int .i64 0] 36 (0, 0))) := Lib.hid (by rw [hP8]; exact heap_alloc_new _ _)
  have HM3 := Lib.hid (HM2.out.below hal (ltb HM2.out))
  have HB3 := Lib.hid (HB2.out.trans (hal.mono HB2.out.size))
  clear hal HM2 HB2 
  have HMU := Lib.hid (show (w2.alloc (.cells #[.int .i64 0, .int .i64 0, .int .i64 0, .int .i64 0, .int .i64 0, .int .i64 0, .int .i64 0, .int .i64 0, .int .i64 0, .int .i64 0, .int .i64 0, .int .i64 0, .int .i64 0, .int .i64 0, .int .i64 0, .int .i64 0, .int .i64 0, .slice none 0 0, .int .i64 0, .int .i64 0, .int .i64 0] 36)).heap[S]? = some (.cells #[.int .i64 (v 0), .int .i64 (v 1), .int .i64 (v 2), .int .i64 (v 3), .int .i64 (v 4), .int .i64 (v 5), .int .i64 (v 6), .int .i64 (v 7), .int .i64 (v 8), .int .i64 (v 9), .int .i64 (v 10), .int .i64 (v 11), .int .i64 (v 12), .int .i64 (v 13), .int .i64 (v 14), .int .i64 (v 15), .int .i64 (v 16), .slice B n cb, .int .i64 (v 18), .int .i64 (v 19), .int .i64 (v 20)] 36 (0, 0)) from HM3.out)
  go_wp2_with (first | (refine wpList_store_row rfl 36 (.tmp 8) (.tmp 31) rfl w2.heap.size _ rfl rfl 36 _ (heap_alloc_new w2 _) (by kernel_rfl) rfl (by simp [Value.oneCell']) ?_; rw [World.setRow_alloc_new]) | (refine wpList_load_row rfl 36 _ rfl S rfl 36 _ (0, 0) _ HMU.out Try.underlying36 rfl (by kernel_rfl) ?_))
  clear HMU
  rw [← hP8]
  clear hP8
  generalize w2.alloc (.cells #[.int .i64 0, .int .i64 0, .int .i64 0, .int .i64 0, .int .i64 0, .int .i64 0, .int .i64 0, .int .i64 0, .int .i64 0, .int .i64 0, .int .i64 0, .int .i64 0, .int .i64 0, .int .i64 0, .int .i64 0, .int .i64 0, .int .i64 0, .slice none 0 0, .int .i64 0, .int .i64 0, .int .i64 0] 36) = w3 at HM3 HB3 HP8_3 ⊢
  refine (hear_nil v B n cb w3).mono ?_
  rintro e w4 ⟨rfl, hb⟩
  have HM4 := Lib.hid (HM3.out.below hb (ltb HM3.out))
  have HB4 := Lib.hid (HB3.out.trans (hb.mono HB3.out.size))
  have HP8_4 : Hid (w4.heap[P8]? = some (.cells #[.int .i64 0, .int .i64 0, .int .i64 0, .int .i64 0, .int .i64 0, .int .i64 0, .int .i64 0, .int .i64 0, .int .i64 0, .int .i64 0, .int .i64 0, .int .i64 0, .int .i64 0, .int .i64 0, .int .i64 0, .int .i64 0, .int .i64 0, .slice none 0 0, .int .i64 0, .int .i64 0, .int .i64 0] 36 (0, 0))) := Lib.hid ((hb.block P8 (ltb HP8_3.out)).trans HP8_3.out)
  clear HM3 HB3 HP8_3
  clear hb
  obtain ⟨P10, hP10⟩ : ∃ x, x = w4.heap.size := ⟨_, rfl⟩
  have hal : Below w4.heap.size w4 (w4.alloc (.cells #[.int .i64 0, .int .i64 0, .int .i64 0] 34)) := (Below.refl _ _).alloc (Nat.le_refl _) _
  have HP10_5 : Hid ((w4.alloc (.cells #[.int .i64 0, .int .i64 0, .int .i64 0] 34)).heap[P10]? = some (.cells #[.int .i64 0, .int .i64 0, .int .i64 0] 34 (0, 0))) := Lib.hid (by rw [hP10]; exact heap_alloc_new _ _)
  have HM5 := Lib.hid (HM4.out.below hal (ltb HM4.out))
  have HB5 := Lib.hid (HB4.out.trans (hal.mono HB4.out.size))
  have HP8_5 : Hid ((w4.alloc (.cells #[.int .i64 0, .int .i64 0, .int .i64 0] 34)).heap[P8]? = some (.cells #[.int .i64 0, .int .i64 0, .int .i64 0, .int .i64 0, .int .i64 0, .int .i64 0, .int .i64 0, .int .i64 0, .int .i64 0, .int .i64 0, .int .i64 0, .int .i64 0, .int .i64 0, .int .i64 0, .int .i64 0, .int .i64 0, .int .i64 0, .slice none 0 0, .int .i64 0, .int .i64 0, .int .i64 0] 36 (0, 0))) := Lib.hid ((hal.block P8 (ltb HP8_4.out)).trans HP8_4.out)
  clear hal HM4 HB4 HP8_4
  go_wp2_with fail
  rw [← hP10]
  clear hP10
  generalize w4.alloc (.cells #[.int .i64 0, .int .i64 0, .int .i64 0] 34) = w5 at HM5 HB5 HP8_5 HP10_5 ⊢
  refine (state_nil w5).mono ?_
  rintro e w' ⟨rfl, rfl⟩
  have HMU := Lib.hid (show w5.heap[S]? = some (.cells #[.int .i64 (v 0), .int .i64 (v 1), .int .i64 (v 2), .int .i64 (v 3), .int .i64 (v 4), .int .i64 (v 5), .int .i64 (v 6), .int .i64 (v 7), .int .i64 (v 8), .int .i64 (v 9), .int .i64 (v 10), .int .i64 (v 11), .int .i64 (v 12), .int .i64 (v 13), .int .i64 (v 14), .int .i64 (v 15), .int .i64 (v 16), .slice B n cb, .int .i64 (v 18), .int .i64 (v 19), .int .i64 (v 20)] 36 (0, 0)) from HM5.out)
  go_wp2_with (refine wpList_load_row rfl 36 _ rfl S rfl 36 _ (0, 0) _ HMU.out Try.underlying36 rfl (by kernel_rfl) ?_)
  clear HMU
  refine (look_nil v B n cb now 0 0 0 w5).mono ?_
  rintro e w6 ⟨rfl, hb⟩
  have HM6 := Lib.hid (HM5.out.below hb (ltb HM5.out))
  have HB6 := Lib.hid (HB5.out.trans (hb.mono HB5.out.size))
  have HP8_6 : Hid (w6.heap[P8]? = some (.cells #[.int .i64 0, .int .i64 0, .int .i64 0, .int .i64 0, .int .i64 0, .int .i64 0, .int .i64 0, .int .i64 0, .int .i64 0, .int .i64 0, .int .i64 0, .int .i64 0, .int .i64 0, .int .i64 0, .int .i64 0, .int .i64 0, .int .i64 0, .slice none 0 0, .int .i64 0, .int .i64 0, .int .i64 0] 36 (0, 0))) := Lib.hid ((hb.block P8 (ltb HP8_5.out)).trans HP8_5.out)
  have HP10_6 : Hid (w6.heap[P10]? = some (.cells #[.int .i64 0, .int .i64 0, .int .i64 0] 34 (0, 0))) := Lib.hid ((hb.block P10 (ltb HP10_5.out)).trans HP10_5.out)
  clear HM5 HB5 HP8_5 HP10_5
  clear hb
  obtain ⟨P16, hP16⟩ : ∃ x, x = w6.heap.size := ⟨_, rfl⟩
  have hal : Below w6.heap.size w6 (w6.alloc (.cells #[.int .i64 0, .int .i64 0, .int .i64 0, .int .i64 0, .int .i64 0, .int .i64 0, .int .i64 0, .int .i64 0, .int .i64 0, .int .i64 0, .int .i64 0, .int .i64 0, .int .i64 0, .int .i64 0, .int .i64 0, .int .i64 0, .int .i64 0, .slice none 0 0, .int .i64 0, .int .i64 0, .int .i64 0] 36)) := (Below.refl _ _).alloc (Nat.le_refl _) _
  have HP16_7 : Hid ((w6.alloc (.cells #[.int .i64 0, .int .i64 0, .int .i64 0, .int .i64 0, .int .i64 0, .int .i64 0, .int .i64 0, .int .i64 0, .int .i64 0, .int .i64 0, .int .i64 0, .int .i64 0, .int .i64 0, .int .i64 0, .int .i64 0, .int .i64 0, .int .i64 0, .slice none 0 0, .int .i64 0, .int .i64 0, .int .i64 0] 36)).heap[P16]? = some (.cells #[.int .i64 0, .int .i64 0, .int .i64 0, .int .i64 0, .int .i64 0, .int .i64 0, .int .i64 0, .int .i64 0, .int .i64 0, .int .i64 0, .int .i64 0, .int .i64 0, .int .i64 0, .int .i64 0, .int .i64 0, .int .i64 0, .int .i64 0, .slice none 0 0, .int .i64 0, .int .i64 0, .int .i64 0] 36 (0, 0))) := Lib.hid (by rw [hP16]; exact heap_alloc_new _ _)
  have HM7 := Lib.hid (HM6.out.below hal (ltb HM6.out))
  have HB7 := Lib.hid (HB6.out.trans (hal.mono HB6.out.size))
  have HP8_7 : Hid ((w6.alloc (.cells #[.int .i64 0, .int .i64 0, .int .i64 0, .int .i64 0, .int .i64 0, .int .i64 0, .int .i64 0, .int .i64 0, .int .i64 0, .int .i64 0, .int .i64 0, .int .i64 0, .int .i64 0, .int .i64 0, .int .i64 0, .int .i64 0, .int .i64 0, .slice none 0 0, .int .i64 0, .int .i64 0, .int .i64 0] 36)).heap[P8]? = some (.cells #[.int .i64 0, .int .i64 0, .int .i64 0, .int .i64 0, .int .i64 0, .int .i64 0, .int .i64 0, .int .i64 0, .int .i64 0, .int .i64 0, .int .i64 0, .int .i64 0, .int .i64 0, .int .i64 0, .int .i64 0, .int .i64 0, .int .i64 0, .slice none 0 0, .int .i64 0, .int .i64 0, .int .i64 0] 36 (0, 0))) := Lib.hid ((hal.block P8 (ltb HP8_6.out)).trans HP8_6.out)
  have HP10_7 : Hid ((w6.alloc (.cells #[.int .i64 0, .int .i64 0, .int .i64 0, .int .i64 0, .int .i64 0, .int .i64 0, .int .i64 0, .int .i64 0, .int .i64 0, .int .i64 0, .int .i64 0, .int .i64 0, .int .i64 0, .int .i64 0, .int .i64 0, .int .i64 0, .int .i64 0, .slice none 0 0, .int .i64 0, .int .i64 0, .int .i64 0] 36)).heap[P10]? = some (.cells #[.int .i64 0, .int .i64 0, .int .i64 0] 34 (0, 0))) := Lib.hid ((hal.block P10 (ltb HP10_6.out)).trans HP10_6.out)
  clear hal HM6 HB6 HP8_6 HP10_6
  have HMU := Lib.hid (show (w6.alloc (.cells #[.int .i64 0, .int .i64 0, .int .i64 0, .int .i64 0, .int .i64 0, .int .i64 0, .int .i64 0, .int .i64 0, .int .i64 0, .int .i64 0, .int .i64 0, .int .i64 0, .int .i64 0, .int .i64 0, .int .i64 0, .int .i64 0, .int .i64 0, .slice none 0 0, .int .i64 0, .int .i64 0, .int .i64 0] 36)).heap[S]? = some (.cells #[.int .i64 (v 0), .int .i64 (v 1), .int .i64 (v 2), .int .i64 (v 3), .int .i64 (v 4), .int .i64 (v 5), .int .i64 (v 6), .int .i64 (v 7), .int .i64 (v 8), .int .i64 (v 9), .int .i64 (v 10), .int .i64 (v 11), .int .i64 (v 12), .int .i64 (v 13), .int .i64 (v 14), .int .i64 (v 15), .int .i64 (v 16), .slice B n cb, .int .i64 (v 18), .int .i64 (v 19), .int .i64 (v 20)] 36 (0, 0)) from HM7.out)
  go_wp2_with (first | (refine wpList_store_row rfl 36 (.tmp 16) (.tmp 52) rfl w6.heap.size _ rfl rfl 36 _ (heap_alloc_new w6 _) (by kernel_rfl) rfl (by simp [Value.oneCell']) ?_; rw [World.setRow_alloc_new]) | (refine wpList_load_row rfl 36 _ rfl S rfl 36 _ (0, 0) _ HMU.out Try.underlying36 rfl (by kernel_rfl) ?_))
  clear HMU
  rw [← hP16]
  clear hP16
  generalize w6.alloc (.cells #[.int .i64 0, .int .i64 0, .int .i64 0, .int .i64 0, .int .i64 0, .int .i64 0, .int .i64 0, .int .i64 0, .int .i64 0, .int .i64 0, .int .i64 0, .int .i64 0, .int .i64 0, .int .i64 0, .int .i64 0, .int .i64 0, .int .i64 0, .slice none 0 0, .int .i64 0, .int .i64 0, .int .i64 0] 36) = w7 at HM7 HB7 HP8_7 HP10_7 HP16_7 ⊢
  refine (done_nil 1 1 0 0 0 w7).mono ?_
  rintro e w8 ⟨rfl, hb⟩
  have HM8 := Lib.hid (HM7.out.below hb (ltb HM7.out))
  have HB8 := Lib.hid (HB7.out.trans (hb.mono HB7.out.size))
  have HP8_8 : Hid (w8.heap[P8]? = some (.cells #[.int .i64 0, .int .i64 0, .int .i64 0, .int .i64 0, .int .i64 0, .int .i64 0, .int .i64 0, .int .i64 0, .int .i64 0, .int .i64 0, .int .i64 0, .int .i64 0, .int .i64 0, .int .i64 0, .int .i64 0, .int .i64 0, .int .i64 0, .slice none 0 0, .int .i64 0, .int .i64 0, .int .i64 0] 36 (0, 0))) := Lib.hid ((hb.block P8 (ltb HP8_7.out)).trans HP8_7.out)
  have HP10_8 : Hid (w8.heap[P10]? = some (.cells #[.int .i64 0, .int .i64 0, .int .i64 0] 34 (0, 0))) := Lib.hid ((hb.block P10 (ltb HP10_7.out)).trans HP10_7.out)
  have HP16_8 : Hid (w8.heap[P16]? = some (.cells #[.int .i64 0, .int .i64 0, .int .i64 0, .int .i64 0, .int .i64 0, .int .i64 0, .int .i64 0, .int .i64 0, .int .i64 0, .int .i64 0, .int .i64 0, .int .i64 0, .int .i64 0, .int .i64 0, .int .i64 0, .int .i64 0, .int .i64 0, .slice none 0 0, .int .i64 0, .int .i64 0, .int .i64 0] 36 (0, 0))) := Lib.hid ((hb.block P16 (ltb HP16_7.out)).trans HP16_7.out)
  clear HM7 HB7 HP8_7 HP10_7 HP16_7
  clear hb
  obtain ⟨P17, hP17⟩ : ∃ x, x = w8.heap.size := ⟨_, rfl⟩
  have hal : Below w8.heap.size w8 (w8.alloc (.cells #[.int .i64 0, .int .i64 0, .int .i64 0, .int .i64 0, .int .i64 0, .int .i64 0, .int .i64 0, .int .i64 0, .int .i64 0, .int .i64 0, .int .i64 0, .int .i64 0, .int .i64 0, .int .i64 0, .int .i64 0, .int .i64 0, .int .i64 0, .slice none 0 0, .int .i64 0, .int .i64 0, .int .i64 0] 36)) := (Below.refl _ _).alloc (Nat.le_refl _) _
  have HP17_9 : Hid ((w8.alloc (.cells #[.int .i64 0, .int .i64 0, .int .i64 0, .int .i64 0, .int .i64 0, .int .i64 0, .int .i64 0, .int .i64 0, .int .i64 0, .int .i64 0, .int .i64 0, .int .i64 0, .int .i64 0, .int .i64 0, .int .i64 0, .int .i64 0, .int .i64 0, .slice none 0 0, .int .i64 0, .int .i64 0, .int .i64 0] 36)).heap[P17]? = some (.cells #[.int .i64 0, .int .i64 0, .int .i64 0, .int .i64 0, .int .i64 0, .int .i64 0, .int .i64 0, .int .i64 0, .int .i64 0, .int .i64 0, .int .i64 0, .int .i64 0, .int .i64 0, .int .i64 0, .int .i64 0, .int .i64 0, .int .i64 0, .slice none 0 0, .int .i64 0, .int .i64 0, .int .i64 0] 36 (0, 0))) := Lib.hid (by rw [hP17]; exact heap_alloc_new _ _)
  have HM9 := Lib.hid (HM8.out.below hal (ltb HM8.out))
  have HB9 := Lib.hid (HB8.out.trans (hal.mono HB8.out.size))
  have HP8_9 : Hid ((w8.alloc (.cells #[.int .i64 0, .int .i64 0, .int .i64 0, .int .i64 0, .int .i64 0, .int .i64 0, .int .i64 0, .int .i64 0, .int .i64 0, .int .i64 0, .int .i64 0, .int .i64 0, .int .i64 0, .int .i64 0, .int .i64 0, .int .i64 0, .int .i64 0, .slice none 0 0, .int .i64 0, .int .i64 0, .int .i64 0] 36)).heap[P8]? = some (.cells #[.int .i64 0, .int .i64 0, .int .i64 0, .int .i64 0, .int .i64 0, .int .i64 0, .int .i64 0, .int .i64 0, .int .i64 0, .int .i64 0, .int .i64 0, .int .i64 0, .int .i64 0, .int .i64 0, .int .i64 0, .int .i64 0, .int .i64 0, .slice none 0 0, .int .i64 0, .int .i64 0, .int .i64 0] 36 (0, 0))) := Lib.hid ((hal.block P8 (ltb HP8_8.out)).trans HP8_8.out)
  have HP10_9 : Hid ((w8.alloc (.cells #[.int .i64 0, .int .i64 0, .int .i64 0, .int .i64 0, .int .i64 0, .int .i64 0, .int .i64 0, .int .i64 0, .int .i64 0, .int .i64 0, .int .i64 0, .int .i64 0, .int .i64 0, .int .i64 0, .int .i64 0, .int .i64 0, .int .i64 0, .slice none 0 0, .int .i64 0, .int .i64 0, .int .i64 0] 36)).heap[P10]? = some (.cells #[.int .i64 0, .int .i64 0, .int .i64 0] 34 (0, 0))) := Lib.hid ((hal.block P10 (ltb HP10_8.out)).trans HP10_8.out)
  have HP16_9 : Hid ((w8.alloc (.cells #[.int .i64 0, .int .i64 0, .int .i64 0, .int .i64 0, .int .i64 0, .int .i64 0, .int .i64 0, .int .i64 0, .int .i64 0, .int .i64 0, .int .i64 0, .int .i64 0, .int .i64 0, .int .i64 0, .int .i64 0, .int .i64 0, .int .i64 0, .slice none 0 0, .int .i64 0, .int .i64 0, .int .i64 0] 36)).heap[P16]? = some (.cells #[.int .i64 0, .int .i64 0, .int .i64 0, .int .i64 0, .int .i64 0, .int .i64 0, .int .i64 0, .int .i64 0, .int .i64 0, .int .i64 0, .int .i64 0, .int .i64 0, .int .i64 0, .int .i64 0, .int .i64 0, .int .i64 0, .int .i64 0, .slice none 0 0, .int .i64 0, .int .i64 0, .int .i64 0] 36 (0, 0))) := Lib.hid ((hal.block P16 (ltb HP16_8.out)).trans HP16_8.out)
  clear hal HM8 HB8 HP8_8 HP10_8 HP16_8
  go_upto_region 13 with (refine wpList_store_row rfl 36 (.tmp 17) (.tmp 57) rfl w8.heap.size _ rfl rfl 36 _ (heap_alloc_new w8 _) (by kernel_rfl) rfl (by simp [Value.oneCell']) ?_; rw [World.setRow_alloc_new])
  rw [← hP17]
  clear hP17
  generalize w8.alloc (.cells #[.int .i64 0, .int .i64 0, .int .i64 0, .int .i64 0, .int .i64 0, .int .i64 0, .int .i64 0, .int .i64 0, .int .i64 0, .int .i64 0, .int .i64 0, .int .i64 0, .int .i64 0, .int .i64 0, .int .i64 0, .int .i64 0, .int .i64 0, .slice none 0 0, .int .i64 0, .int .i64 0, .int .i64 0] 36) = w9 at HM9 HB9 HP8_9 HP10_9 HP16_9 HP17_9 ⊢
  obtain ⟨P19, hP19⟩ : ∃ x, x = w9.heap.size := ⟨_, rfl⟩
  have hal : Below w9.heap.size w9 (w9.alloc (.cells #[.int .i64 0, .int .i64 0, .int .i64 0, .int .i64 0, .int .i64 0, .int .i64 0, .int .i64 0, .int .i64 0, .int .i64 0, .int .i64 0, .int .i64 0, .int .i64 0, .int .i64 0, .int .i64 0, .int .i64 0, .int .i64 0, .int .i64 0, .slice none 0 0, .int .i64 0, .int .i64 0, .int .i64 0] 36)) := (Below.refl _ _).alloc (Nat.le_refl _) _
  have HP19_10 : Hid ((w9.alloc (.cells #[.int .i64 0, .int .i64 0, .int .i64 0, .int .i64 0, .int .i64 0, .int .i64 0, .int .i64 0, .int .i64 0, .int .i64 0, .int .i64 0, .int .i64 0, .int .i64 0, .int .i64 0, .int .i64 0, .int .i64 0, .int .i64 0, .int .i64 0, .slice none 0 0, .int .i64 0, .int .i64 0, .int .i64 0] 36)).heap[P19]? = some (.cells #[.int .i64 0, .int .i64 0, .int .i64 0, .int .i64 0, .int .i64 0, .int .i64 0, .int .i64 0, .int .i64 0, .int .i64 0, .int .i64 0, .int .i64 0, .int .i64 0, .int .i64 0, .int .i64 0, .int .i64 0, .int .i64 0, .int .i64 0, .slice none 0 0, .int .i64 0, .int .i64 0, .int .i64 0] 36 (0, 0))) := Lib.hid (by rw [hP19]; exact heap_alloc_new _ _)
  have HM10 := Lib.hid (HM9.out.below hal (ltb HM9.out))
  have HB10 := Lib.hid (HB9.out.trans (hal.mono HB9.out.size))
  have HP8_10 : Hid ((w9.alloc (.cells #[.int .i64 0, .int .i64 0, .int .i64 0, .int .i64 0, .int .i64 0, .int .i64 0, .int .i64 0, .int .i64 0, .int .i64 0, .int .i64 0, .int .i64 0, .int .i64 0, .int .i64 0, .int .i64 0, .int .i64 0, .int .i64 0, .int .i64 0, .slice none 0 0, .int .i64 0, .int .i64 0, .int .i64 0] 36)).heap[P8]? = some (.cells #[.int .i64 0, .int .i64 0, .int .i64 0, .int .i64 0, .int .i64 0, .int .i64 0, .int .i64 0, .int .i64 0, .int .i64 0, .int .i64 0, .int .i64 0, .int .i64 0, .int .i64 0, .int .i64 0, .int .i64 0, .int .i64 0, .int .i64 0, .slice none 0 0, .int .i64 0, .int .i64 0, .int .i64 0] 36 (0, 0))) := Lib.hid ((hal.block P8 (ltb HP8_9.out)).trans HP8_9.out)
  have HP10_10 : Hid ((w9.alloc (.cells #[.int .i64 0, .int .i64 0, .int .i64 0, .int .i64 0, .int .i64 0, .int .i64 0, .int .i64 0, .int .i64 0, .int .i64 0, .int .i64 0, .int .i64 0, .int .i64 0, .int .i64 0, .int .i64 0, .int .i64 0, .int .i64 0, .int .i64 0, .slice none 0 0, .int .i64 0, .int .i64 0, .int .i64 0] 36)).heap[P10]? = some (.cells #[.int .i64 0, .int .i64 0, .int .i64 0] 34 (0, 0))) := Lib.hid ((hal.block P10 (ltb HP10_9.out)).trans HP10_9.out)
  have HP16_10 : Hid ((w9.alloc (.cells #[.int .i64 0, .int .i64 0, .int .i64 0, .int .i64 0, .int .i64 0, .int .i64 0, .int .i64 0, .int .i64 0, .int .i64 0, .int .i64 0, .int .i64 0, .int .i64 0, .int .i64 0, .int .i64 0, .int .i64 0, .int .i64 0, .int .i64 0, .slice none 0 0, .int .i64 0, .int .i64 0, .int .i64 0] 36)).heap[P16]? = some (.cells #[.int .i64 0, .int .i64 0, .int .i64 0, .int .i64 0, .int .i64 0, .int .i64 0, .int .i64 0, .int .i64 0, .int .i64 0, .int .i64 0, .int .i64 0, .int .i64 0, .int .i64 0, .int .i64 0, .int .i64 0, .int .i64 0, .int .i64 0, .slice none 0 0, .int .i64 0, .int .i64 0, .int .i64 0] 36 (0, 0))) := Lib.hid ((hal.block P16 (ltb HP16_9.out)).trans HP16_9.out)
  have HP17_10 : Hid ((w9.alloc (.cells #[.int .i64 0, .int .i64 0, .int .i64 0, .int .i64 0, .int .i64 0, .int .i64 0, .int .i64 0, .int .i64 0, .int .i64 0, .int .i64 0, .int .i64 0, .int .i64 0, .int .i64 0, .int .i64 0, .int .i64 0, .int .i64 0, .int .i64 0, .slice none 0 0, .int .i64 0, .int .i64 0, .int .i64 0] 36)).heap[P17]? = some (.cells #[.int .i64 0, .int .i64 0, .int .i64 0, .int .i64 0, .int .i64 0, .int .i64 0, .int .i64 0, .int .i64 0, .int .i64 0, .int .i64 0, .int .i64 0, .int .i64 0, .int .i64 0, .int .i64 0, .int .i64 0, .int .i64 0, .int .i64 0, .slice none 0 0, .int .i64 0, .int .i64 0, .int .i64 0] 36 (0, 0))) := Lib.hid ((hal.block P17 (ltb HP17_9.out)).trans HP17_9.out)
  clear hal HM9 HB9 HP8_9 HP10_9 HP16_9 HP17_9
  go_upto_region 14 with (refine wpList_store_row rfl 36 (.tmp 19) (.tmp 59) rfl w9.heap.size _ rfl rfl 36 _ (heap_alloc_new w9 _) (by kernel_rfl) rfl (by simp [Value.oneCell']) ?_; rw [World.setRow_alloc_new])
  rw [← hP19]
  clear hP19
  generalize w9.alloc (.cells #[.int .i64 0, .int .i64 0, .int .i64 0, .int .i64 0, .int .i64 0, .int .i64 0, .int .i64 0, .int .i64 0, .int .i64 0, .int .i64 0, .int .i64 0, .int .i64 0, .int .i64 0, .int .i64 0, .int .i64 0, .int .i64 0, .int .i64 0, .slice none 0 0, .int .i64 0, .int .i64 0, .int .i64 0] 36) = w10 at HM10 HB10 HP8_10 HP10_10 HP16_10 HP17_10 HP19_10 ⊢
  have m17 : w10.cell? ⟨S, 17, none⟩ = some (.slice B n cb) := cellb (i := 17) HM10.out rfl
  go_wp2_with fail
  clear m17
  refine (ask_nil B n cb w10).mono ?_
  rintro e w' ⟨rfl, rfl⟩
  go_wp2_with (first | (refine wpList_load_g rfl 36 (.tmp 8) rfl P8 rfl 36 _ (0, 0) _ HP8_10.out Try.underlying36 rfl (by kernel_rfl) ?_) | (refine wpList_load_g rfl 36 (.tmp 19) rfl P19 rfl 36 _ (0, 0) _ HP19_10.out Try.underlying36 rfl (by kernel_rfl) ?_))
  refine (same_eq (fun _ => 0) none none 0 0 0 [] w10 (.emp (by omega)) (.emp (by omega)) rfl).mono ?_
  rintro e w11 ⟨rfl, hb⟩
  have HM11 := Lib.hid (HM10.out.below hb (ltb HM10.out))
  have HB11 := Lib.hid (HB10.out.trans (hb.mono HB10.out.size))
  have HP8_11 : Hid (w11.heap[P8]? = some (.cells #[.int .i64 0, .int .i64 0, .int .i64 0, .int .i64 0, .int .i64 0, .int .i64 0, .int .i64 0, .int .i64 0, .int .i64 0, .int .i64 0, .int .i64 0, .int .i64 0, .int .i64 0, .int .i64 0, .int .i64 0, .int .i64 0, .int .i64 0, .slice none 0 0, .int .i64 0, .int .i64 0, .int .i64 0] 36 (0, 0))) := Lib.hid ((hb.block P8 (ltb HP8_10.out)).trans HP8_10.out)
  have HP10_11 : Hid (w11.heap[P10]? = some (.cells #[.int .i64 0, .int .i64 0, .int .i64 0] 34 (0, 0))) := Lib.hid ((hb.block P10 (ltb HP10_10.out)).trans HP10_10.out)
  have HP16_11 : Hid (w11.heap[P16]? = some (.cells #[.int .i64 0, .int .i64 0, .int .i64 0, .int .i64 0, .int .i64 0, .int .i64 0, .int .i64 0, .int .i64 0, .int .i64 0, .int .i64 0, .int .i64 0, .int .i64 0, .int .i64 0, .int .i64 0, .int .i64 0, .int .i64 0, .int .i64 0, .slice none 0 0, .int .i64 0, .int .i64 0, .int .i64 0] 36 (0, 0))) := Lib.hid ((hb.block P16 (ltb HP16_10.out)).trans HP16_10.out)
  have HP17_11 : Hid (w11.heap[P17]? = some (.cells #[.int .i64 0, .int .i64 0, .int .i64 0, .int .i64 0, .int .i64 0, .int .i64 0, .int .i64 0, .int .i64 0, .int .i64 0, .int .i64 0, .int .i64 0, .int .i64 0, .int .i64 0, .int .i64 0, .int .i64 0, .int .i64 0, .int .i64 0, .slice none 0 0, .int .i64 0, .int .i64 0, .int .i64 0] 36 (0, 0))) := Lib.hid ((hb.block P17 (ltb HP17_10.out)).trans HP17_10.out)
  have HP19_11 : Hid (w11.heap[P19]? = some (.cells #[.int .i64 0, .int .i64 0, .int .i64 0, .int .i64 0, .int .i64 0, .int .i64 0, .int .i64 0, .int .i64 0, .int .i64 0, .int .i64 0, .int .i64 0, .int .i64 0, .int .i64 0, .int .i64 0, .int .i64 0, .int .i64 0, .int .i64 0, .slice none 0 0, .int .i64 0, .int .i64 0, .int .i64 0] 36 (0, 0))) := Lib.hid ((hb.block P19 (ltb HP19_10.out)).trans HP19_10.out)
  clear HM10 HB10 HP8_10 HP10_10 HP16_10 HP17_10 HP19_10
  clear hb
  have r0 : w11.cell? ⟨P10, 0, none⟩ = some (.int .i64 0) := cellb (i := 0) HP10_11.out rfl
  have r1 : w11.cell? ⟨P10, 1, none⟩ = some (.int .i64 0) := cellb (i := 1) HP10_11.out rfl
  have r2 : w11.cell? ⟨P10, 2, none⟩ = some (.int .i64 0) := cellb (i := 2) HP10_11.out rfl
  go_wp2_with (first | (refine wpList_load_g rfl 36 (.tmp 16) rfl P16 rfl 36 _ (0, 0) _ HP16_11.out Try.underlying36 rfl (by kernel_rfl) ?_) | (refine wpList_load_g rfl 36 (.tmp 19) rfl P19 rfl 36 _ (0, 0) _ HP19_11.out Try.underlying36 rfl (by kernel_rfl) ?_))
  refine (same_eq (fun _ => 0) none none 0 0 0 [] w11 (.emp (by omega)) (.emp (by omega)) rfl).mono ?_
  rintro e w12 ⟨rfl, hb⟩
  have HM12 := Lib.hid (HM11.out.below hb (ltb HM11.out))
  have HB12 := Lib.hid (HB11.out.trans (hb.mono HB11.out.size))
  have HP8_12 : Hid (w12.heap[P8]? = some (.cells #[.int .i64 0, .int .i64 0, .int .i64 0, .int .i64 0, .int .i64 0, .int .i64 0, .int .i64 0, .int .i64 0, .int .i64 0, .int .i64 0, .int .i64 0, .int .i64 0, .int .i64 0, .int .i64 0, .int .i64 0, .int .i64 0, .int .i64 0, .slice none 0 0, .int .i64 0, .int .i64 0, .int .i64 0] 36 (0, 0))) := Lib.hid ((hb.block P8 (ltb HP8_11.out)).trans HP8_11.out)
  have HP10_12 : Hid (w12.heap[P10]? = some (.cells #[.int .i64 0, .int .i64 0, .int .i64 0] 34 (0, 0))) := Lib.hid ((hb.block P10 (ltb HP10_11.out)).trans HP10_11.out)
  have HP16_12 : Hid (w12.heap[P16]? = some (.cells #[.int .i64 0, .int .i64 0, .int .i64 0, .int .i64 0, .int .i64 0, .int .i64 0, .int .i64 0, .int .i64 0, .int .i64 0, .int .i64 0, .int .i64 0, .int .i64 0, .int .i64 0, .int .i64 0, .int .i64 0, .int .i64 0, .int .i64 0, .slice none 0 0, .int .i64 0, .int .i64 0, .int .i64 0] 36 (0, 0))) := Lib.hid ((hb.block P16 (ltb HP16_11.out)).trans HP16_11.out)
  have HP17_12 : Hid (w12.heap[P17]? = some (.cells #[.int .i64 0, .int .i64 0, .int .i64 0, .int .i64 0, .int .i64 0, .int .i64 0, .int .i64 0, .int .i64 0, .int .i64 0, .int .i64 0, .int .i64 0, .int .i64 0, .int .i64 0, .int .i64 0, .int .i64 0, .int .i64 0, .int .i64 0, .slice none 0 0, .int .i64 0, .int .i64 0, .int .i64 0] 36 (0, 0))) := Lib.hid ((hb.block P17 (ltb HP17_11.out)).trans HP17_11.out)
  have HP19_12 : Hid (w12.heap[P19]? = some (.cells #[.int .i64 0, .int .i64 0, .int .i64 0, .int .i64 0, .int .i64 0, .int .i64 0, .int .i64 0, .int .i64 0, .int .i64 0, .int .i64 0, .int .i64 0, .int .i64 0, .int .i64 0, .int .i64 0, .int .i64 0, .int .i64 0, .int .i64 0, .slice none 0 0, .int .i64 0, .int .i64 0, .int .i64 0] 36 (0, 0))) := Lib.hid ((hb.block P19 (ltb HP19_11.out)).trans HP19_11.out)
  clear HM11 HB11 HP8_11 HP10_11 HP16_11 HP17_11 HP19_11
  clear hb
  clear r0 r1 r2
  go_wp2_with (first | (refine wpList_load_g rfl 36 (.tmp 17) rfl P17 rfl 36 _ (0, 0) _ HP17_12.out Try.underlying36 rfl (by kernel_rfl) ?_) | (refine wpList_load_g rfl 36 (.tmp 19) rfl P19 rfl 36 _ (0, 0) _ HP19_12.out Try.underlying36 rfl (by kernel_rfl) ?_))
  refine (same_eq (fun _ => 0) none none 0 0 0 [] w12 (.emp (by omega)) (.emp (by omega)) rfl).mono ?_
  rintro e w13 ⟨rfl, hb⟩
  have HM13 := Lib.hid (HM12.out.below hb (ltb HM12.out))
  have HB13 := Lib.hid (HB12.out.trans (hb.mono HB12.out.size))
  have HP8_13 : Hid (w13.heap[P8]? = some (.cells #[.int .i64 0, .int .i64 0, .int .i64 0, .int .i64 0, .int .i64 0, .int .i64 0, .int .i64 0, .int .i64 0, .int .i64 0, .int .i64 0, .int .i64 0, .int .i64 0, .int .i64 0, .int .i64 0, .int .i64 0, .int .i64 0, .int .i64 0, .slice none 0 0, .int .i64 0, .int .i64 0, .int .i64 0] 36 (0, 0))) := Lib.hid ((hb.block P8 (ltb HP8_12.out)).trans HP8_12.out)
  have HP10_13 : Hid (w13.heap[P10]? = some (.cells #[.int .i64 0, .int .i64 0, .int .i64 0] 34 (0, 0))) := Lib.hid ((hb.block P10 (ltb HP10_12.out)).trans HP10_12.out)
  have HP16_13 : Hid (w13.heap[P16]? = some (.cells #[.int .i64 0, .int .i64 0, .int .i64 0, .int .i64 0, .int .i64 0, .int .i64 0, .int .i64 0, .int .i64 0, .int .i64 0, .int .i64 0, .int .i64 0, .int .i64 0, .int .i64 0, .int .i64 0, .int .i64 0, .int .i64 0, .int .i64 0, .slice none 0 0, .int .i64 0, .int .i64 0, .int .i64 0] 36 (0, 0))) := Lib.hid ((hb.block P16 (ltb HP16_12.out)).trans HP16_12.out)
  have HP17_13 : Hid (w13.heap[P17]? = some (.cells #[.int .i64 0, .int .i64 0, .int .i64 0, .int .i64 0, .int .i64 0, .int .i64 0, .int .i64 0, .int .i64 0, .int .i64 0, .int .i64 0, .int .i64 0, .int .i64 0, .int .i64 0, .int .i64 0, .int .i64 0, .int .i64 0, .int .i64 0, .slice none 0 0, .int .i64 0, .int .i64 0, .int .i64 0] 36 (0, 0))) := Lib.hid ((hb.block P17 (ltb HP17_12.out)).trans HP17_12.out)
  have HP19_13 : Hid (w13.heap[P19]? = some (.cells #[.int .i64 0, .int .i64 0, .int .i64 0, .int .i64 0, .int .i64 0, .int .i64 0, .int .i64 0, .int .i64 0, .int .i64 0, .int .i64 0, .int .i64 0, .int .i64 0, .int .i64 0, .int .i64 0, .int .i64 0, .int .i64 0, .int .i64 0, .slice none 0 0, .int .i64 0, .int .i64 0, .int .i64 0] 36 (0, 0))) := Lib.hid ((hb.block P19 (ltb HP19_12.out)).trans HP19_12.out)
  clear HM12 HB12 HP8_12 HP10_12 HP16_12 HP17_12 HP19_12
  clear hb
  go_wp2_with fail
  refine (newc_no 0 w13 (by decide)).mono ?_
  rintro e w' ⟨rfl, rfl⟩
  go_wp2_with fail
  refine (news_no 0 w13 (by decide)).mono ?_
  rintro e w' ⟨rfl, rfl⟩
  go_wp2_with fail
  go_ret
  exact ⟨rfl, HB13.out⟩
end Go.Proofs.Ytlcbpodjmafoeaa
