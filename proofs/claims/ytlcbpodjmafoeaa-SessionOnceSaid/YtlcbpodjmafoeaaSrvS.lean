/- The document's server: its replies. -/
import Derived.Test.YtlcbpodjmafoeaaSrvR
import Derived.Test.YtlcbpodjmafoeaaMayOk
import Derived.Deep.Cut
namespace Go.Proofs.Ytlcbpodjmafoeaa
open Go.RowKit

set_option maxRecDepth 100000 in
set_option maxHeartbeats 4000000 in
theorem rreply_any (ep : Int) (A : Option Addr) (n c : Nat) (cl sq a b d : Int) (w : World) :
    Calls Try.prog 28 #[.agg #[.int .i64 ep, .slice A n c], .int .i64 cl, .int .i64 sq, .agg #[.int .i64 a, .int .i64 b, .int .i64 d]] w fun e w' => RepPost ep cl sq a b d w e w' := by
  obtain ⟨S, hS⟩ : ∃ S, S = w.heap.size := ⟨_, rfl⟩
  obtain ⟨w1, hw1⟩ : ∃ x, x = (((w.alloc (.cells #[.int .i64 ep, .slice A n c] 28)).alloc (.cells #[.int .i64 a, .int .i64 b, .int .i64 d] 34)).alloc (.cells #[.int .i64 0, .int .i64 0, .int .i64 0, .int .i64 0, .int .i64 0, .int .i64 0, .int .i64 0, .int .i64 0, .int .i64 0, .int .i64 0, .int .i64 0, .int .i64 0, .int .i64 0, .int .i64 0, .int .i64 0, .int .i64 0, .int .i64 0, .slice none 0 0, .int .i64 0, .int .i64 0, .int .i64 0] 36)) := ⟨_, rfl⟩
  have HB_1 : Hid (Below w.heap.size w w1) := Lib.hid (by rw [hw1]; exact ((((Below.refl w.heap.size w).alloc (by simp) _).alloc (by simp) _).alloc (by simp; omega) _))
  have HX0_1 : Hid (w1.heap[S]? = some (.cells #[.int .i64 ep, .slice A n c] 28 (0, 0))) := Lib.hid (by
    rw [hw1, hS]
    have h := heap_alloc_new w (.cells #[.int .i64 ep, .slice A n c] 28)
    replace h := (Below.heap_alloc (w.alloc (.cells #[.int .i64 ep, .slice A n c] 28)) (.cells #[.int .i64 a, .int .i64 b, .int .i64 d] 34) _ (by simp; try omega)).trans h
    replace h := (Below.heap_alloc ((w.alloc (.cells #[.int .i64 ep, .slice A n c] 28)).alloc (.cells #[.int .i64 a, .int .i64 b, .int .i64 d] 34)) (.cells #[.int .i64 0, .int .i64 0, .int .i64 0, .int .i64 0, .int .i64 0, .int .i64 0, .int .i64 0, .int .i64 0, .int .i64 0, .int .i64 0, .int .i64 0, .int .i64 0, .int .i64 0, .int .i64 0, .int .i64 0, .int .i64 0, .int .i64 0, .slice none 0 0, .int .i64 0, .int .i64 0, .int .i64 0] 36) _ (by simp; try omega)).trans h
    exact h)
  have HX1_1 : Hid (w1.heap[S + 1]? = some (.cells #[.int .i64 a, .int .i64 b, .int .i64 d] 34 (0, 0))) := Lib.hid (by
    rw [hw1, hS]
    have h := heap_alloc_new (w.alloc (.cells #[.int .i64 ep, .slice A n c] 28)) (.cells #[.int .i64 a, .int .i64 b, .int .i64 d] 34)
    simp only [World.size_alloc] at h
    replace h := (Below.heap_alloc ((w.alloc (.cells #[.int .i64 ep, .slice A n c] 28)).alloc (.cells #[.int .i64 a, .int .i64 b, .int .i64 d] 34)) (.cells #[.int .i64 0, .int .i64 0, .int .i64 0, .int .i64 0, .int .i64 0, .int .i64 0, .int .i64 0, .int .i64 0, .int .i64 0, .int .i64 0, .int .i64 0, .int .i64 0, .int .i64 0, .int .i64 0, .int .i64 0, .int .i64 0, .int .i64 0, .slice none 0 0, .int .i64 0, .int .i64 0, .int .i64 0] 36) _ (by simp; try omega)).trans h
    exact h)
  have HX2_1 : Hid (w1.heap[S + 2]? = some (.cells #[.int .i64 0, .int .i64 0, .int .i64 0, .int .i64 0, .int .i64 0, .int .i64 0, .int .i64 0, .int .i64 0, .int .i64 0, .int .i64 0, .int .i64 0, .int .i64 0, .int .i64 0, .int .i64 0, .int .i64 0, .int .i64 0, .int .i64 0, .slice none 0 0, .int .i64 0, .int .i64 0, .int .i64 0] 36 (0, 0))) := Lib.hid (by
    rw [hw1, hS]
    have h := heap_alloc_new ((w.alloc (.cells #[.int .i64 ep, .slice A n c] 28)).alloc (.cells #[.int .i64 a, .int .i64 b, .int .i64 d] 34)) (.cells #[.int .i64 0, .int .i64 0, .int .i64 0, .int .i64 0, .int .i64 0, .int .i64 0, .int .i64 0, .int .i64 0, .int .i64 0, .int .i64 0, .int .i64 0, .int .i64 0, .int .i64 0, .int .i64 0, .int .i64 0, .int .i64 0, .int .i64 0, .slice none 0 0, .int .i64 0, .int .i64 0, .int .i64 0] 36)
    simp only [World.size_alloc] at h
    exact h)
  have HS := Lib.hid hS
  go_enter Try.func28, Try.ntmps28
  go_upto_region 1 with (fail)
  rw [← hw1, ← hS]
  clear hw1 hS
  have c0 : w1.cell? ⟨S, 0, none⟩ = some (.int .i64 ep) := cellb (i := 0) HX0_1.out rfl
  have r0 : w1.cell? ⟨S + 1, 0, none⟩ = some (.int .i64 a) := cellb (i := 0) HX1_1.out rfl
  have r1 : w1.cell? ⟨S + 1, 1, none⟩ = some (.int .i64 b) := cellb (i := 1) HX1_1.out rfl
  have r2 : w1.cell? ⟨S + 1, 2, none⟩ = some (.int .i64 d) := cellb (i := 2) HX1_1.out rfl
  obtain ⟨P10, hP10⟩ : ∃ x, x = w1.heap.size := ⟨_, rfl⟩
  have hlP10 : S + 2 < P10 := by have := ltb HX2_1.out; omega
  have hal : Below w1.heap.size w1 (w1.alloc (.cells #[.int .i64 8, .int .i64 ep, .int .i64 0, .int .i64 0, .int .i64 0, .int .i64 0, .int .i64 0, .int .i64 0, .int .i64 0, .int .i64 0, .int .i64 0, .int .i64 0, .int .i64 0, .int .i64 0, .int .i64 0, .int .i64 cl, .int .i64 sq, .slice none 0 0, .int .i64 a, .int .i64 b, .int .i64 d] 36)) := (Below.refl _ _).alloc (Nat.le_refl _) _
  have hnew : (w1.alloc (.cells #[.int .i64 8, .int .i64 ep, .int .i64 0, .int .i64 0, .int .i64 0, .int .i64 0, .int .i64 0, .int .i64 0, .int .i64 0, .int .i64 0, .int .i64 0, .int .i64 0, .int .i64 0, .int .i64 0, .int .i64 0, .int .i64 cl, .int .i64 sq, .slice none 0 0, .int .i64 a, .int .i64 b, .int .i64 d] 36)).heap[P10]? = some (.cells #[.int .i64 8, .int .i64 ep, .int .i64 0, .int .i64 0, .int .i64 0, .int .i64 0, .int .i64 0, .int .i64 0, .int .i64 0, .int .i64 0, .int .i64 0, .int .i64 0, .int .i64 0, .int .i64 0, .int .i64 0, .int .i64 cl, .int .i64 sq, .slice none 0 0, .int .i64 a, .int .i64 b, .int .i64 d] 36 (0, 0)) := by rw [hP10]; exact heap_alloc_new _ _
  have HB_2 : Hid (Below w.heap.size w (w1.alloc (.cells #[.int .i64 8, .int .i64 ep, .int .i64 0, .int .i64 0, .int .i64 0, .int .i64 0, .int .i64 0, .int .i64 0, .int .i64 0, .int .i64 0, .int .i64 0, .int .i64 0, .int .i64 0, .int .i64 0, .int .i64 0, .int .i64 cl, .int .i64 sq, .slice none 0 0, .int .i64 a, .int .i64 b, .int .i64 d] 36))) := Lib.hid (HB_1.out.trans (hal.mono HB_1.out.size))
  have HX0_2 : Hid ((w1.alloc (.cells #[.int .i64 8, .int .i64 ep, .int .i64 0, .int .i64 0, .int .i64 0, .int .i64 0, .int .i64 0, .int .i64 0, .int .i64 0, .int .i64 0, .int .i64 0, .int .i64 0, .int .i64 0, .int .i64 0, .int .i64 0, .int .i64 cl, .int .i64 sq, .slice none 0 0, .int .i64 a, .int .i64 b, .int .i64 d] 36)).heap[S]? = some (.cells #[.int .i64 ep, .slice A n c] 28 (0, 0))) := Lib.hid ((hal.block S (ltb HX0_1.out)).trans HX0_1.out)
  have HX1_2 : Hid ((w1.alloc (.cells #[.int .i64 8, .int .i64 ep, .int .i64 0, .int .i64 0, .int .i64 0, .int .i64 0, .int .i64 0, .int .i64 0, .int .i64 0, .int .i64 0, .int .i64 0, .int .i64 0, .int .i64 0, .int .i64 0, .int .i64 0, .int .i64 cl, .int .i64 sq, .slice none 0 0, .int .i64 a, .int .i64 b, .int .i64 d] 36)).heap[(S + 1)]? = some (.cells #[.int .i64 a, .int .i64 b, .int .i64 d] 34 (0, 0))) := Lib.hid ((hal.block (S + 1) (ltb HX1_1.out)).trans HX1_1.out)
  have HX2_2 : Hid ((w1.alloc (.cells #[.int .i64 8, .int .i64 ep, .int .i64 0, .int .i64 0, .int .i64 0, .int .i64 0, .int .i64 0, .int .i64 0, .int .i64 0, .int .i64 0, .int .i64 0, .int .i64 0, .int .i64 0, .int .i64 0, .int .i64 0, .int .i64 cl, .int .i64 sq, .slice none 0 0, .int .i64 a, .int .i64 b, .int .i64 d] 36)).heap[(S + 2)]? = some (.cells #[.int .i64 0, .int .i64 0, .int .i64 0, .int .i64 0, .int .i64 0, .int .i64 0, .int .i64 0, .int .i64 0, .int .i64 0, .int .i64 0, .int .i64 0, .int .i64 0, .int .i64 0, .int .i64 0, .int .i64 0, .int .i64 0, .int .i64 0, .slice none 0 0, .int .i64 0, .int .i64 0, .int .i64 0] 36 (0, 0))) := Lib.hid ((hal.block (S + 2) (ltb HX2_1.out)).trans HX2_1.out)
  clear hal HB_1 HX0_1 HX1_1 HX2_1
  have HP10_2 : Hid ((w1.alloc (.cells #[.int .i64 8, .int .i64 ep, .int .i64 0, .int .i64 0, .int .i64 0, .int .i64 0, .int .i64 0, .int .i64 0, .int .i64 0, .int .i64 0, .int .i64 0, .int .i64 0, .int .i64 0, .int .i64 0, .int .i64 0, .int .i64 cl, .int .i64 sq, .slice none 0 0, .int .i64 a, .int .i64 b, .int .i64 d] 36)).heap[P10]? = some (.cells #[.int .i64 8, .int .i64 ep, .int .i64 0, .int .i64 0, .int .i64 0, .int .i64 0, .int .i64 0, .int .i64 0, .int .i64 0, .int .i64 0, .int .i64 0, .int .i64 0, .int .i64 0, .int .i64 0, .int .i64 0, .int .i64 cl, .int .i64 sq, .slice none 0 0, .int .i64 a, .int .i64 b, .int .i64 d] 36 (0, 0))) := Lib.hid hnew
  clear hnew
  go_upto_region 2 with (first | (refine wpList_load_row rfl 34 (.tmp 7) rfl (S + 1) rfl 34 _ (0, 0) _ HX1_2.out Try.underlying34 rfl (by kernel_rfl) ?_) | (refine wpList_store_row rfl 36 (.tmp 10) (.tmp 17) rfl w1.heap.size _ rfl rfl 36 _ (heap_alloc_new w1 _) (by kernel_rfl) rfl (by simp [Value.oneCell']) ?_; rw [World.setRow_alloc_new]))
  rw [← hP10]
  clear hP10
  generalize w1.alloc (.cells #[.int .i64 8, .int .i64 ep, .int .i64 0, .int .i64 0, .int .i64 0, .int .i64 0, .int .i64 0, .int .i64 0, .int .i64 0, .int .i64 0, .int .i64 0, .int .i64 0, .int .i64 0, .int .i64 0, .int .i64 0, .int .i64 cl, .int .i64 sq, .slice none 0 0, .int .i64 a, .int .i64 b, .int .i64 d] 36) = w2 at HB_2 HX0_2 HX1_2 HX2_2 HP10_2 ⊢
  clear c0 r0 r1 r2
  clear HX0_2 HX1_2
  go_wp2_with (refine wpList_load_row rfl 36 (.tmp 10) rfl P10 rfl 36 _ (0, 0) _ HP10_2.out Try.underlying36 rfl (by kernel_rfl) ?_)
  refine (may_any (repV ep cl sq a b d) none 0 0 w2).mono ?_
  rintro e w3 ⟨rfl, hb⟩
  have HB_3 : Hid (Below w.heap.size w w3) := Lib.hid (HB_2.out.trans (hb.mono HB_2.out.size))
  have HX2_3 : Hid (w3.heap[(S + 2)]? = some (.cells #[.int .i64 0, .int .i64 0, .int .i64 0, .int .i64 0, .int .i64 0, .int .i64 0, .int .i64 0, .int .i64 0, .int .i64 0, .int .i64 0, .int .i64 0, .int .i64 0, .int .i64 0, .int .i64 0, .int .i64 0, .int .i64 0, .int .i64 0, .slice none 0 0, .int .i64 0, .int .i64 0, .int .i64 0] 36 (0, 0))) := Lib.hid ((hb.block (S + 2) (ltb HX2_2.out)).trans HX2_2.out)
  have HP10_3 : Hid (w3.heap[P10]? = some (.cells #[.int .i64 8, .int .i64 ep, .int .i64 0, .int .i64 0, .int .i64 0, .int .i64 0, .int .i64 0, .int .i64 0, .int .i64 0, .int .i64 0, .int .i64 0, .int .i64 0, .int .i64 0, .int .i64 0, .int .i64 0, .int .i64 cl, .int .i64 sq, .slice none 0 0, .int .i64 a, .int .i64 b, .int .i64 d] 36 (0, 0))) := Lib.hid ((hb.block P10 (ltb HP10_2.out)).trans HP10_2.out)
  clear hb HB_2 HX2_2 HP10_2
  obtain ⟨k, hk⟩ : ∃ k, k = mayB (repV ep cl sq a b d) 0 := ⟨_, rfl⟩
  rw [← hk]
  have HK : Hid (k = true ↔ OkR ep cl sq a b d) := Lib.hid (by rw [hk]; exact may8 _ 0 rfl)
  clear hk
  cases k
  · have HST : Hid ((w3.setRow (S + 2) #[.int .i64 0, .int .i64 0, .int .i64 0, .int .i64 0, .int .i64 0, .int .i64 0, .int .i64 0, .int .i64 0, .int .i64 0, .int .i64 0, .int .i64 0, .int .i64 0, .int .i64 0, .int .i64 0, .int .i64 0, .int .i64 0, .int .i64 0, .slice none 0 0, .int .i64 0, .int .i64 0, .int .i64 0]).heap[S + 2]? = some (.cells #[.int .i64 0, .int .i64 0, .int .i64 0, .int .i64 0, .int .i64 0, .int .i64 0, .int .i64 0, .int .i64 0, .int .i64 0, .int .i64 0, .int .i64 0, .int .i64 0, .int .i64 0, .int .i64 0, .int .i64 0, .int .i64 0, .int .i64 0, .slice none 0 0, .int .i64 0, .int .i64 0, .int .i64 0] 36 (0, 0))) := Lib.hid (setRow_heap w3 (S + 2) _ _ _ _ HX2_3.out)
    have HBF : Hid (Below w.heap.size w (w3.setRow (S + 2) #[.int .i64 0, .int .i64 0, .int .i64 0, .int .i64 0, .int .i64 0, .int .i64 0, .int .i64 0, .int .i64 0, .int .i64 0, .int .i64 0, .int .i64 0, .int .i64 0, .int .i64 0, .int .i64 0, .int .i64 0, .int .i64 0, .int .i64 0, .slice none 0 0, .int .i64 0, .int .i64 0, .int .i64 0])) := Lib.hid (HB_3.out.trans (((Chg.refl (fun k => k = S + 2) w3).setRow (.inr rfl) _).below HB_3.out.size (fun k hk e => by have := HS.out; omega)))
    go_wp2_with (refine wpList_store_row rfl 36 (.tmp 8) (.tmp 22) rfl (S + 2) _ rfl rfl 36 _ HX2_3.out (by kernel_rfl) rfl (by simp [Value.oneCell']) ?_)
    exact bodyPost_ret (v := .tuple #[.agg #[.int .i64 0, .int .i64 0, .int .i64 0, .int .i64 0, .int .i64 0, .int .i64 0, .int .i64 0, .int .i64 0, .int .i64 0, .int .i64 0, .int .i64 0, .int .i64 0, .int .i64 0, .int .i64 0, .int .i64 0, .int .i64 0, .int .i64 0, .slice none 0 0, .int .i64 0, .int .i64 0, .int .i64 0], .bool false]) (results_89 Try.results28 _ _ (S + 2) _ rfl HST.out rfl) rfl ⟨false, by simpa using HK.out, rfl, HBF.out⟩
  · have HST : Hid ((w3.setRow (S + 2) #[.int .i64 8, .int .i64 ep, .int .i64 0, .int .i64 0, .int .i64 0, .int .i64 0, .int .i64 0, .int .i64 0, .int .i64 0, .int .i64 0, .int .i64 0, .int .i64 0, .int .i64 0, .int .i64 0, .int .i64 0, .int .i64 cl, .int .i64 sq, .slice none 0 0, .int .i64 a, .int .i64 b, .int .i64 d]).heap[S + 2]? = some (.cells #[.int .i64 8, .int .i64 ep, .int .i64 0, .int .i64 0, .int .i64 0, .int .i64 0, .int .i64 0, .int .i64 0, .int .i64 0, .int .i64 0, .int .i64 0, .int .i64 0, .int .i64 0, .int .i64 0, .int .i64 0, .int .i64 cl, .int .i64 sq, .slice none 0 0, .int .i64 a, .int .i64 b, .int .i64 d] 36 (0, 0))) := Lib.hid (setRow_heap w3 (S + 2) _ _ _ _ HX2_3.out)
    have HBF : Hid (Below w.heap.size w (w3.setRow (S + 2) #[.int .i64 8, .int .i64 ep, .int .i64 0, .int .i64 0, .int .i64 0, .int .i64 0, .int .i64 0, .int .i64 0, .int .i64 0, .int .i64 0, .int .i64 0, .int .i64 0, .int .i64 0, .int .i64 0, .int .i64 0, .int .i64 cl, .int .i64 sq, .slice none 0 0, .int .i64 a, .int .i64 b, .int .i64 d])) := Lib.hid (HB_3.out.trans (((Chg.refl (fun k => k = S + 2) w3).setRow (.inr rfl) _).below HB_3.out.size (fun k hk e => by have := HS.out; omega)))
    go_wp2_with (first | (refine wpList_load_row rfl 36 (.tmp 10) rfl P10 rfl 36 _ (0, 0) _ HP10_3.out Try.underlying36 rfl (by kernel_rfl) ?_) | (refine wpList_store_row rfl 36 (.tmp 8) (.tmp 23) rfl (S + 2) _ rfl rfl 36 _ HX2_3.out (by kernel_rfl) rfl (by simp [Value.oneCell']) ?_))
    exact bodyPost_ret (v := .tuple #[.agg #[.int .i64 8, .int .i64 ep, .int .i64 0, .int .i64 0, .int .i64 0, .int .i64 0, .int .i64 0, .int .i64 0, .int .i64 0, .int .i64 0, .int .i64 0, .int .i64 0, .int .i64 0, .int .i64 0, .int .i64 0, .int .i64 cl, .int .i64 sq, .slice none 0 0, .int .i64 a, .int .i64 b, .int .i64 d], .bool true]) (results_89 Try.results28 _ _ (S + 2) _ rfl HST.out rfl) rfl ⟨true, by simpa using HK.out, rfl, HBF.out⟩
end Go.Proofs.Ytlcbpodjmafoeaa
