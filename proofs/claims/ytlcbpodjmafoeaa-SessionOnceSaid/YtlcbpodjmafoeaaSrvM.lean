/- The document's server: what becomes of a message, all ways. -/
import Derived.Test.YtlcbpodjmafoeaaSrvL
namespace Go.Proofs.Ytlcbpodjmafoeaa
open Go.RowKit

set_option maxRecDepth 100000 in
set_option maxHeartbeats 8000000 in
theorem rlook_b (ep : Int) (base : Nat) (A : Option Addr) (n c : Nat) (L : List Ke) (v : Nat → Int) (Bm : Option Addr) (nb cb : Nat) (last a b d : Int) (w : World) (h : LAt w base A n c L) (hn : n ≤ 1000) (h0 : v 0 = 7) (hok : OkL [⟨1, 0, 1099511627776⟩, ⟨15, 1, 16⟩, ⟨16, 1, 1099511627776⟩] v nb 4096) (he : v 1 = ep) (hc : (lk L (v 15)).q < v 16 ∧ ¬ last < v 16) :
    Calls Try.prog 11 #[.agg #[.int .i64 ep, .slice A n c], .agg #[.int .i64 (v 0), .int .i64 (v 1), .int .i64 (v 2), .int .i64 (v 3), .int .i64 (v 4), .int .i64 (v 5), .int .i64 (v 6), .int .i64 (v 7), .int .i64 (v 8), .int .i64 (v 9), .int .i64 (v 10), .int .i64 (v 11), .int .i64 (v 12), .int .i64 (v 13), .int .i64 (v 14), .int .i64 (v 15), .int .i64 (v 16), .slice Bm nb cb, .int .i64 (v 18), .int .i64 (v 19), .int .i64 (v 20)], .int .i64 last, .agg #[.int .i64 a, .int .i64 b, .int .i64 d]] w fun e w' => LookPost ep (lookK (kp (lk L (v 15))) last a b d) v e ∧ Below w.heap.size w w' := by
  have hm : mayB v nb = true := (may7 v nb h0).2 hok
  have h16 : 1 ≤ v 16 := (hok.2.1 ⟨16, 1, 1099511627776⟩ (by simp)).1
  have HM := Lib.hid hm
  have H0 := Lib.hid h0
  have HL := Lib.hid h
  clear hm h0 hok h
  have HE := Lib.hid he
  have t1 : (v 1 == ep) = true := by simpa using he
  clear he
  obtain ⟨y, hy⟩ : ∃ y, y = lk L (v 15) := ⟨_, rfl⟩
  rw [← hy] at hc
  have HY := Lib.hid hy
  clear hy
  have HND : Hid (¬ (y.q < v 16 ∧ last < v 16)) := Lib.hid (fun h => hc.2 h.2)
  obtain ⟨u1, u2⟩ := hc
  obtain ⟨S, hS⟩ : ∃ S, S = w.heap.size := ⟨_, rfl⟩
  obtain ⟨w1, hw1⟩ : ∃ x, x = ((((w.alloc (.cells #[.int .i64 ep, .slice A n c] 28)).alloc (.cells #[.int .i64 (v 0), .int .i64 (v 1), .int .i64 (v 2), .int .i64 (v 3), .int .i64 (v 4), .int .i64 (v 5), .int .i64 (v 6), .int .i64 (v 7), .int .i64 (v 8), .int .i64 (v 9), .int .i64 (v 10), .int .i64 (v 11), .int .i64 (v 12), .int .i64 (v 13), .int .i64 (v 14), .int .i64 (v 15), .int .i64 (v 16), .slice Bm nb cb, .int .i64 (v 18), .int .i64 (v 19), .int .i64 (v 20)] 36)).alloc (.cells #[.int .i64 a, .int .i64 b, .int .i64 d] 34)).alloc (.cells #[.int .i64 0, .int .i64 0, .int .i64 0, .int .i64 0, .int .i64 0, .int .i64 0, .int .i64 0, .int .i64 0, .int .i64 0, .int .i64 0, .int .i64 0, .int .i64 0, .int .i64 0, .int .i64 0, .int .i64 0, .int .i64 0, .int .i64 0, .slice none 0 0, .int .i64 0, .int .i64 0, .int .i64 0] 36)) := ⟨_, rfl⟩
  have HB_1 : Hid (Below w.heap.size w w1) := Lib.hid (by rw [hw1]; exact (((((Below.refl w.heap.size w).alloc (by simp) _).alloc (by simp) _).alloc (by simp; omega) _).alloc (by simp; omega) _))
  have HX0_1 : Hid (w1.heap[S]? = some (.cells #[.int .i64 ep, .slice A n c] 28 (0, 0))) := Lib.hid (by
    rw [hw1, hS]
    have h := heap_alloc_new w (.cells #[.int .i64 ep, .slice A n c] 28)
    replace h := (Below.heap_alloc (w.alloc (.cells #[.int .i64 ep, .slice A n c] 28)) (.cells #[.int .i64 (v 0), .int .i64 (v 1), .int .i64 (v 2), .int .i64 (v 3), .int .i64 (v 4), .int .i64 (v 5), .int .i64 (v 6), .int .i64 (v 7), .int .i64 (v 8), .int .i64 (v 9), .int .i64 (v 10), .int .i64 (v 11), .int .i64 (v 12), .int .i64 (v 13), .int .i64 (v 14), .int .i64 (v 15), .int .i64 (v 16), .slice Bm nb cb, .int .i64 (v 18), .int .i64 (v 19), .int .i64 (v 20)] 36) _ (by simp; try omega)).trans h
    replace h := (Below.heap_alloc ((w.alloc (.cells #[.int .i64 ep, .slice A n c] 28)).alloc (.cells #[.int .i64 (v 0), .int .i64 (v 1), .int .i64 (v 2), .int .i64 (v 3), .int .i64 (v 4), .int .i64 (v 5), .int .i64 (v 6), .int .i64 (v 7), .int .i64 (v 8), .int .i64 (v 9), .int .i64 (v 10), .int .i64 (v 11), .int .i64 (v 12), .int .i64 (v 13), .int .i64 (v 14), .int .i64 (v 15), .int .i64 (v 16), .slice Bm nb cb, .int .i64 (v 18), .int .i64 (v 19), .int .i64 (v 20)] 36)) (.cells #[.int .i64 a, .int .i64 b, .int .i64 d] 34) _ (by simp; try omega)).trans h
    replace h := (Below.heap_alloc (((w.alloc (.cells #[.int .i64 ep, .slice A n c] 28)).alloc (.cells #[.int .i64 (v 0), .int .i64 (v 1), .int .i64 (v 2), .int .i64 (v 3), .int .i64 (v 4), .int .i64 (v 5), .int .i64 (v 6), .int .i64 (v 7), .int .i64 (v 8), .int .i64 (v 9), .int .i64 (v 10), .int .i64 (v 11), .int .i64 (v 12), .int .i64 (v 13), .int .i64 (v 14), .int .i64 (v 15), .int .i64 (v 16), .slice Bm nb cb, .int .i64 (v 18), .int .i64 (v 19), .int .i64 (v 20)] 36)).alloc (.cells #[.int .i64 a, .int .i64 b, .int .i64 d] 34)) (.cells #[.int .i64 0, .int .i64 0, .int .i64 0, .int .i64 0, .int .i64 0, .int .i64 0, .int .i64 0, .int .i64 0, .int .i64 0, .int .i64 0, .int .i64 0, .int .i64 0, .int .i64 0, .int .i64 0, .int .i64 0, .int .i64 0, .int .i64 0, .slice none 0 0, .int .i64 0, .int .i64 0, .int .i64 0] 36) _ (by simp; try omega)).trans h
    exact h)
  have HX1_1 : Hid (w1.heap[S + 1]? = some (.cells #[.int .i64 (v 0), .int .i64 (v 1), .int .i64 (v 2), .int .i64 (v 3), .int .i64 (v 4), .int .i64 (v 5), .int .i64 (v 6), .int .i64 (v 7), .int .i64 (v 8), .int .i64 (v 9), .int .i64 (v 10), .int .i64 (v 11), .int .i64 (v 12), .int .i64 (v 13), .int .i64 (v 14), .int .i64 (v 15), .int .i64 (v 16), .slice Bm nb cb, .int .i64 (v 18), .int .i64 (v 19), .int .i64 (v 20)] 36 (0, 0))) := Lib.hid (by
    rw [hw1, hS]
    have h := heap_alloc_new (w.alloc (.cells #[.int .i64 ep, .slice A n c] 28)) (.cells #[.int .i64 (v 0), .int .i64 (v 1), .int .i64 (v 2), .int .i64 (v 3), .int .i64 (v 4), .int .i64 (v 5), .int .i64 (v 6), .int .i64 (v 7), .int .i64 (v 8), .int .i64 (v 9), .int .i64 (v 10), .int .i64 (v 11), .int .i64 (v 12), .int .i64 (v 13), .int .i64 (v 14), .int .i64 (v 15), .int .i64 (v 16), .slice Bm nb cb, .int .i64 (v 18), .int .i64 (v 19), .int .i64 (v 20)] 36)
    simp only [World.size_alloc] at h
    replace h := (Below.heap_alloc ((w.alloc (.cells #[.int .i64 ep, .slice A n c] 28)).alloc (.cells #[.int .i64 (v 0), .int .i64 (v 1), .int .i64 (v 2), .int .i64 (v 3), .int .i64 (v 4), .int .i64 (v 5), .int .i64 (v 6), .int .i64 (v 7), .int .i64 (v 8), .int .i64 (v 9), .int .i64 (v 10), .int .i64 (v 11), .int .i64 (v 12), .int .i64 (v 13), .int .i64 (v 14), .int .i64 (v 15), .int .i64 (v 16), .slice Bm nb cb, .int .i64 (v 18), .int .i64 (v 19), .int .i64 (v 20)] 36)) (.cells #[.int .i64 a, .int .i64 b, .int .i64 d] 34) _ (by simp; try omega)).trans h
    replace h := (Below.heap_alloc (((w.alloc (.cells #[.int .i64 ep, .slice A n c] 28)).alloc (.cells #[.int .i64 (v 0), .int .i64 (v 1), .int .i64 (v 2), .int .i64 (v 3), .int .i64 (v 4), .int .i64 (v 5), .int .i64 (v 6), .int .i64 (v 7), .int .i64 (v 8), .int .i64 (v 9), .int .i64 (v 10), .int .i64 (v 11), .int .i64 (v 12), .int .i64 (v 13), .int .i64 (v 14), .int .i64 (v 15), .int .i64 (v 16), .slice Bm nb cb, .int .i64 (v 18), .int .i64 (v 19), .int .i64 (v 20)] 36)).alloc (.cells #[.int .i64 a, .int .i64 b, .int .i64 d] 34)) (.cells #[.int .i64 0, .int .i64 0, .int .i64 0, .int .i64 0, .int .i64 0, .int .i64 0, .int .i64 0, .int .i64 0, .int .i64 0, .int .i64 0, .int .i64 0, .int .i64 0, .int .i64 0, .int .i64 0, .int .i64 0, .int .i64 0, .int .i64 0, .slice none 0 0, .int .i64 0, .int .i64 0, .int .i64 0] 36) _ (by simp; try omega)).trans h
    exact h)
  have HX2_1 : Hid (w1.heap[S + 2]? = some (.cells #[.int .i64 a, .int .i64 b, .int .i64 d] 34 (0, 0))) := Lib.hid (by
    rw [hw1, hS]
    have h := heap_alloc_new ((w.alloc (.cells #[.int .i64 ep, .slice A n c] 28)).alloc (.cells #[.int .i64 (v 0), .int .i64 (v 1), .int .i64 (v 2), .int .i64 (v 3), .int .i64 (v 4), .int .i64 (v 5), .int .i64 (v 6), .int .i64 (v 7), .int .i64 (v 8), .int .i64 (v 9), .int .i64 (v 10), .int .i64 (v 11), .int .i64 (v 12), .int .i64 (v 13), .int .i64 (v 14), .int .i64 (v 15), .int .i64 (v 16), .slice Bm nb cb, .int .i64 (v 18), .int .i64 (v 19), .int .i64 (v 20)] 36)) (.cells #[.int .i64 a, .int .i64 b, .int .i64 d] 34)
    simp only [World.size_alloc] at h
    replace h := (Below.heap_alloc (((w.alloc (.cells #[.int .i64 ep, .slice A n c] 28)).alloc (.cells #[.int .i64 (v 0), .int .i64 (v 1), .int .i64 (v 2), .int .i64 (v 3), .int .i64 (v 4), .int .i64 (v 5), .int .i64 (v 6), .int .i64 (v 7), .int .i64 (v 8), .int .i64 (v 9), .int .i64 (v 10), .int .i64 (v 11), .int .i64 (v 12), .int .i64 (v 13), .int .i64 (v 14), .int .i64 (v 15), .int .i64 (v 16), .slice Bm nb cb, .int .i64 (v 18), .int .i64 (v 19), .int .i64 (v 20)] 36)).alloc (.cells #[.int .i64 a, .int .i64 b, .int .i64 d] 34)) (.cells #[.int .i64 0, .int .i64 0, .int .i64 0, .int .i64 0, .int .i64 0, .int .i64 0, .int .i64 0, .int .i64 0, .int .i64 0, .int .i64 0, .int .i64 0, .int .i64 0, .int .i64 0, .int .i64 0, .int .i64 0, .int .i64 0, .int .i64 0, .slice none 0 0, .int .i64 0, .int .i64 0, .int .i64 0] 36) _ (by simp; try omega)).trans h
    exact h)
  have HX3_1 : Hid (w1.heap[S + 3]? = some (.cells #[.int .i64 0, .int .i64 0, .int .i64 0, .int .i64 0, .int .i64 0, .int .i64 0, .int .i64 0, .int .i64 0, .int .i64 0, .int .i64 0, .int .i64 0, .int .i64 0, .int .i64 0, .int .i64 0, .int .i64 0, .int .i64 0, .int .i64 0, .slice none 0 0, .int .i64 0, .int .i64 0, .int .i64 0] 36 (0, 0))) := Lib.hid (by
    rw [hw1, hS]
    have h := heap_alloc_new (((w.alloc (.cells #[.int .i64 ep, .slice A n c] 28)).alloc (.cells #[.int .i64 (v 0), .int .i64 (v 1), .int .i64 (v 2), .int .i64 (v 3), .int .i64 (v 4), .int .i64 (v 5), .int .i64 (v 6), .int .i64 (v 7), .int .i64 (v 8), .int .i64 (v 9), .int .i64 (v 10), .int .i64 (v 11), .int .i64 (v 12), .int .i64 (v 13), .int .i64 (v 14), .int .i64 (v 15), .int .i64 (v 16), .slice Bm nb cb, .int .i64 (v 18), .int .i64 (v 19), .int .i64 (v 20)] 36)).alloc (.cells #[.int .i64 a, .int .i64 b, .int .i64 d] 34)) (.cells #[.int .i64 0, .int .i64 0, .int .i64 0, .int .i64 0, .int .i64 0, .int .i64 0, .int .i64 0, .int .i64 0, .int .i64 0, .int .i64 0, .int .i64 0, .int .i64 0, .int .i64 0, .int .i64 0, .int .i64 0, .int .i64 0, .int .i64 0, .slice none 0 0, .int .i64 0, .int .i64 0, .int .i64 0] 36)
    simp only [World.size_alloc] at h
    exact h)
  have HS := Lib.hid hS
  go_enter Try.func11, Try.ntmps11
  go_upto_region 1 with (fail)
  rw [← hw1, ← hS]
  clear hw1 hS
  go_wp2_with (refine wpList_load_row rfl 36 (.tmp 5) rfl (S + 1) rfl 36 _ (0, 0) _ HX1_1.out Try.underlying36 rfl (by kernel_rfl) ?_)
  refine (may_any v Bm nb cb w1).mono ?_
  rintro e w2 ⟨rfl, hb⟩
  have HB_2 : Hid (Below w.heap.size w w2) := Lib.hid (HB_1.out.trans (hb.mono HB_1.out.size))
  have HX0_2 : Hid (w2.heap[S]? = some (.cells #[.int .i64 ep, .slice A n c] 28 (0, 0))) := Lib.hid ((hb.block S (ltb HX0_1.out)).trans HX0_1.out)
  have HX1_2 : Hid (w2.heap[(S + 1)]? = some (.cells #[.int .i64 (v 0), .int .i64 (v 1), .int .i64 (v 2), .int .i64 (v 3), .int .i64 (v 4), .int .i64 (v 5), .int .i64 (v 6), .int .i64 (v 7), .int .i64 (v 8), .int .i64 (v 9), .int .i64 (v 10), .int .i64 (v 11), .int .i64 (v 12), .int .i64 (v 13), .int .i64 (v 14), .int .i64 (v 15), .int .i64 (v 16), .slice Bm nb cb, .int .i64 (v 18), .int .i64 (v 19), .int .i64 (v 20)] 36 (0, 0))) := Lib.hid ((hb.block (S + 1) (ltb HX1_1.out)).trans HX1_1.out)
  have HX2_2 : Hid (w2.heap[(S + 2)]? = some (.cells #[.int .i64 a, .int .i64 b, .int .i64 d] 34 (0, 0))) := Lib.hid ((hb.block (S + 2) (ltb HX2_1.out)).trans HX2_1.out)
  have HX3_2 : Hid (w2.heap[(S + 3)]? = some (.cells #[.int .i64 0, .int .i64 0, .int .i64 0, .int .i64 0, .int .i64 0, .int .i64 0, .int .i64 0, .int .i64 0, .int .i64 0, .int .i64 0, .int .i64 0, .int .i64 0, .int .i64 0, .int .i64 0, .int .i64 0, .int .i64 0, .int .i64 0, .slice none 0 0, .int .i64 0, .int .i64 0, .int .i64 0] 36 (0, 0))) := Lib.hid ((hb.block (S + 3) (ltb HX3_1.out)).trans HX3_1.out)
  clear hb HB_1 HX0_1 HX1_1 HX2_1 HX3_1
  rw [HM.out]
  have HL2 : Hid (LAt w2 base A n c L) := Lib.hid (HL.out.below HB_2.out)
  clear HL
  have c0 : w2.cell? ⟨S + 1, 0, none⟩ = some (.int .i64 7) := by rw [← H0.out]; exact cellb (i := 0) HX1_2.out rfl
  obtain ⟨P11, hP11⟩ : ∃ x, x = w2.heap.size := ⟨_, rfl⟩
  have hlP11 : S + 3 < P11 := by have := ltb HX3_2.out; omega
  have hal : Below w2.heap.size w2 (w2.alloc (.cells #[.int .i64 190, .int .i64 0, .int .i64 0] 34)) := (Below.refl _ _).alloc (Nat.le_refl _) _
  have hnew : (w2.alloc (.cells #[.int .i64 190, .int .i64 0, .int .i64 0] 34)).heap[P11]? = some (.cells #[.int .i64 190, .int .i64 0, .int .i64 0] 34 (0, 0)) := by rw [hP11]; exact heap_alloc_new _ _
  have HB_3 : Hid (Below w.heap.size w (w2.alloc (.cells #[.int .i64 190, .int .i64 0, .int .i64 0] 34))) := Lib.hid (HB_2.out.trans (hal.mono HB_2.out.size))
  have HX0_3 : Hid ((w2.alloc (.cells #[.int .i64 190, .int .i64 0, .int .i64 0] 34)).heap[S]? = some (.cells #[.int .i64 ep, .slice A n c] 28 (0, 0))) := Lib.hid ((hal.block S (ltb HX0_2.out)).trans HX0_2.out)
  have HX1_3 : Hid ((w2.alloc (.cells #[.int .i64 190, .int .i64 0, .int .i64 0] 34)).heap[(S + 1)]? = some (.cells #[.int .i64 (v 0), .int .i64 (v 1), .int .i64 (v 2), .int .i64 (v 3), .int .i64 (v 4), .int .i64 (v 5), .int .i64 (v 6), .int .i64 (v 7), .int .i64 (v 8), .int .i64 (v 9), .int .i64 (v 10), .int .i64 (v 11), .int .i64 (v 12), .int .i64 (v 13), .int .i64 (v 14), .int .i64 (v 15), .int .i64 (v 16), .slice Bm nb cb, .int .i64 (v 18), .int .i64 (v 19), .int .i64 (v 20)] 36 (0, 0))) := Lib.hid ((hal.block (S + 1) (ltb HX1_2.out)).trans HX1_2.out)
  have HX2_3 : Hid ((w2.alloc (.cells #[.int .i64 190, .int .i64 0, .int .i64 0] 34)).heap[(S + 2)]? = some (.cells #[.int .i64 a, .int .i64 b, .int .i64 d] 34 (0, 0))) := Lib.hid ((hal.block (S + 2) (ltb HX2_2.out)).trans HX2_2.out)
  have HX3_3 : Hid ((w2.alloc (.cells #[.int .i64 190, .int .i64 0, .int .i64 0] 34)).heap[(S + 3)]? = some (.cells #[.int .i64 0, .int .i64 0, .int .i64 0, .int .i64 0, .int .i64 0, .int .i64 0, .int .i64 0, .int .i64 0, .int .i64 0, .int .i64 0, .int .i64 0, .int .i64 0, .int .i64 0, .int .i64 0, .int .i64 0, .int .i64 0, .int .i64 0, .slice none 0 0, .int .i64 0, .int .i64 0, .int .i64 0] 36 (0, 0))) := Lib.hid ((hal.block (S + 3) (ltb HX3_2.out)).trans HX3_2.out)
  clear hal HB_2 HX0_2 HX1_2 HX2_2 HX3_2
  have HP11_3 : Hid ((w2.alloc (.cells #[.int .i64 190, .int .i64 0, .int .i64 0] 34)).heap[P11]? = some (.cells #[.int .i64 190, .int .i64 0, .int .i64 0] 34 (0, 0))) := Lib.hid hnew
  clear hnew
  have HL3 := Lib.hid (HL2.out.below ((Below.refl w2.heap.size w2).alloc (Nat.le_refl _) (.cells #[.int .i64 190, .int .i64 0, .int .i64 0] 34)))
  clear HL2
  go_upto_region 5 with (fail)
  rw [← hP11]
  clear hP11 c0
  generalize w2.alloc (.cells #[.int .i64 190, .int .i64 0, .int .i64 0] 34) = w3 at HB_3 HX0_3 HX1_3 HX2_3 HX3_3 HP11_3 HL3 ⊢
  have c1 : w3.cell? ⟨S + 1, 1, none⟩ = some (.int .i64 (v 1)) := cellb (i := 1) HX1_3.out rfl
  have ce : w3.cell? ⟨S, 0, none⟩ = some (.int .i64 ep) := cellb (i := 0) HX0_3.out rfl
  have c15 : w3.cell? ⟨S + 1, 15, none⟩ = some (.int .i64 (v 15)) := cellb (i := 15) HX1_3.out rfl
  have c16 : w3.cell? ⟨S + 1, 16, none⟩ = some (.int .i64 (v 16)) := cellb (i := 16) HX1_3.out rfl
  go_wp2_with (refine wpList_load_row rfl 28 (.tmp 4) rfl S rfl 28 _ (0, 0) _ HX0_3.out Try.underlying28 rfl (by kernel_rfl) ?_)
  refine (of_any ep base A n c L (v 15) w3 HL3.out hn).mono ?_
  rintro e w4 ⟨rfl, hb⟩
  rw [← HY.out]
  clear HL3 t1 c1 ce c15 c16
  have HB_4 : Hid (Below w.heap.size w w4) := Lib.hid (HB_3.out.trans (hb.mono HB_3.out.size))
  have HX0_4 : Hid (w4.heap[S]? = some (.cells #[.int .i64 ep, .slice A n c] 28 (0, 0))) := Lib.hid ((hb.block S (ltb HX0_3.out)).trans HX0_3.out)
  have HX1_4 : Hid (w4.heap[(S + 1)]? = some (.cells #[.int .i64 (v 0), .int .i64 (v 1), .int .i64 (v 2), .int .i64 (v 3), .int .i64 (v 4), .int .i64 (v 5), .int .i64 (v 6), .int .i64 (v 7), .int .i64 (v 8), .int .i64 (v 9), .int .i64 (v 10), .int .i64 (v 11), .int .i64 (v 12), .int .i64 (v 13), .int .i64 (v 14), .int .i64 (v 15), .int .i64 (v 16), .slice Bm nb cb, .int .i64 (v 18), .int .i64 (v 19), .int .i64 (v 20)] 36 (0, 0))) := Lib.hid ((hb.block (S + 1) (ltb HX1_3.out)).trans HX1_3.out)
  have HX2_4 : Hid (w4.heap[(S + 2)]? = some (.cells #[.int .i64 a, .int .i64 b, .int .i64 d] 34 (0, 0))) := Lib.hid ((hb.block (S + 2) (ltb HX2_3.out)).trans HX2_3.out)
  have HX3_4 : Hid (w4.heap[(S + 3)]? = some (.cells #[.int .i64 0, .int .i64 0, .int .i64 0, .int .i64 0, .int .i64 0, .int .i64 0, .int .i64 0, .int .i64 0, .int .i64 0, .int .i64 0, .int .i64 0, .int .i64 0, .int .i64 0, .int .i64 0, .int .i64 0, .int .i64 0, .int .i64 0, .slice none 0 0, .int .i64 0, .int .i64 0, .int .i64 0] 36 (0, 0))) := Lib.hid ((hb.block (S + 3) (ltb HX3_3.out)).trans HX3_3.out)
  have HP11_4 : Hid (w4.heap[P11]? = some (.cells #[.int .i64 190, .int .i64 0, .int .i64 0] 34 (0, 0))) := Lib.hid ((hb.block P11 (ltb HP11_3.out)).trans HP11_3.out)
  clear hb HB_3 HX0_3 HX1_3 HX2_3 HX3_3 HP11_3
  obtain ⟨P12, hP12⟩ : ∃ x, x = w4.heap.size := ⟨_, rfl⟩
  have hlP12 : P11 < P12 := by have := ltb HP11_4.out; omega
  have hal : Below w4.heap.size w4 (w4.alloc (.cells #[.int .i64 y.cl, .int .i64 y.q, .int .i64 y.a, .int .i64 y.b, .int .i64 y.c] 87)) := (Below.refl _ _).alloc (Nat.le_refl _) _
  have hnew : (w4.alloc (.cells #[.int .i64 y.cl, .int .i64 y.q, .int .i64 y.a, .int .i64 y.b, .int .i64 y.c] 87)).heap[P12]? = some (.cells #[.int .i64 y.cl, .int .i64 y.q, .int .i64 y.a, .int .i64 y.b, .int .i64 y.c] 87 (0, 0)) := by rw [hP12]; exact heap_alloc_new _ _
  have HB_5 : Hid (Below w.heap.size w (w4.alloc (.cells #[.int .i64 y.cl, .int .i64 y.q, .int .i64 y.a, .int .i64 y.b, .int .i64 y.c] 87))) := Lib.hid (HB_4.out.trans (hal.mono HB_4.out.size))
  have HX0_5 : Hid ((w4.alloc (.cells #[.int .i64 y.cl, .int .i64 y.q, .int .i64 y.a, .int .i64 y.b, .int .i64 y.c] 87)).heap[S]? = some (.cells #[.int .i64 ep, .slice A n c] 28 (0, 0))) := Lib.hid ((hal.block S (ltb HX0_4.out)).trans HX0_4.out)
  have HX1_5 : Hid ((w4.alloc (.cells #[.int .i64 y.cl, .int .i64 y.q, .int .i64 y.a, .int .i64 y.b, .int .i64 y.c] 87)).heap[(S + 1)]? = some (.cells #[.int .i64 (v 0), .int .i64 (v 1), .int .i64 (v 2), .int .i64 (v 3), .int .i64 (v 4), .int .i64 (v 5), .int .i64 (v 6), .int .i64 (v 7), .int .i64 (v 8), .int .i64 (v 9), .int .i64 (v 10), .int .i64 (v 11), .int .i64 (v 12), .int .i64 (v 13), .int .i64 (v 14), .int .i64 (v 15), .int .i64 (v 16), .slice Bm nb cb, .int .i64 (v 18), .int .i64 (v 19), .int .i64 (v 20)] 36 (0, 0))) := Lib.hid ((hal.block (S + 1) (ltb HX1_4.out)).trans HX1_4.out)
  have HX2_5 : Hid ((w4.alloc (.cells #[.int .i64 y.cl, .int .i64 y.q, .int .i64 y.a, .int .i64 y.b, .int .i64 y.c] 87)).heap[(S + 2)]? = some (.cells #[.int .i64 a, .int .i64 b, .int .i64 d] 34 (0, 0))) := Lib.hid ((hal.block (S + 2) (ltb HX2_4.out)).trans HX2_4.out)
  have HX3_5 : Hid ((w4.alloc (.cells #[.int .i64 y.cl, .int .i64 y.q, .int .i64 y.a, .int .i64 y.b, .int .i64 y.c] 87)).heap[(S + 3)]? = some (.cells #[.int .i64 0, .int .i64 0, .int .i64 0, .int .i64 0, .int .i64 0, .int .i64 0, .int .i64 0, .int .i64 0, .int .i64 0, .int .i64 0, .int .i64 0, .int .i64 0, .int .i64 0, .int .i64 0, .int .i64 0, .int .i64 0, .int .i64 0, .slice none 0 0, .int .i64 0, .int .i64 0, .int .i64 0] 36 (0, 0))) := Lib.hid ((hal.block (S + 3) (ltb HX3_4.out)).trans HX3_4.out)
  have HP11_5 : Hid ((w4.alloc (.cells #[.int .i64 y.cl, .int .i64 y.q, .int .i64 y.a, .int .i64 y.b, .int .i64 y.c] 87)).heap[P11]? = some (.cells #[.int .i64 190, .int .i64 0, .int .i64 0] 34 (0, 0))) := Lib.hid ((hal.block P11 (ltb HP11_4.out)).trans HP11_4.out)
  clear hal HB_4 HX0_4 HX1_4 HX2_4 HX3_4 HP11_4
  have HP12_5 : Hid ((w4.alloc (.cells #[.int .i64 y.cl, .int .i64 y.q, .int .i64 y.a, .int .i64 y.b, .int .i64 y.c] 87)).heap[P12]? = some (.cells #[.int .i64 y.cl, .int .i64 y.q, .int .i64 y.a, .int .i64 y.b, .int .i64 y.c] 87 (0, 0))) := Lib.hid hnew
  clear hnew
  go_upto_region 7 with (refine wpList_store_row rfl 87 (.tmp 12) (.tmp 34) rfl w4.heap.size _ rfl rfl 87 _ (heap_alloc_new w4 _) (by kernel_rfl) rfl (by simp [Value.oneCell']) ?_; rw [World.setRow_alloc_new])
  rw [← hP12]
  clear hP12
  generalize w4.alloc (.cells #[.int .i64 y.cl, .int .i64 y.q, .int .i64 y.a, .int .i64 y.b, .int .i64 y.c] 87) = w5 at HB_5 HX0_5 HX1_5 HX2_5 HX3_5 HP11_5 HP12_5 ⊢
  have c16 : w5.cell? ⟨S + 1, 16, none⟩ = some (.int .i64 (v 16)) := cellb (i := 16) HX1_5.out rfl
  have cq : w5.cell? ⟨P12, 1, none⟩ = some (.int .i64 y.q) := cellb (i := 1) HP12_5.out rfl
  by_cases hsk : v 16 < y.q ∨ v 16 < last
  · have HW := Lib.hid (way_skip (a := a) (b := b) (d := d) HND.out hsk h16)
    have key : v 16 < y.q ∨ (¬ v 16 < y.q ∧ v 16 < last) := by omega
    clear hsk
    rcases key with u3 | ⟨u3, u4⟩
    · exfalso; omega
    · skip
      have HST : Hid ((w5.setRow (S + 3) #[.int .i64 0, .int .i64 0, .int .i64 0, .int .i64 0, .int .i64 0, .int .i64 0, .int .i64 0, .int .i64 0, .int .i64 0, .int .i64 0, .int .i64 0, .int .i64 0, .int .i64 0, .int .i64 0, .int .i64 0, .int .i64 0, .int .i64 0, .slice none 0 0, .int .i64 0, .int .i64 0, .int .i64 0]).heap[S + 3]? = some (.cells #[.int .i64 0, .int .i64 0, .int .i64 0, .int .i64 0, .int .i64 0, .int .i64 0, .int .i64 0, .int .i64 0, .int .i64 0, .int .i64 0, .int .i64 0, .int .i64 0, .int .i64 0, .int .i64 0, .int .i64 0, .int .i64 0, .int .i64 0, .slice none 0 0, .int .i64 0, .int .i64 0, .int .i64 0] 36 (0, 0))) := Lib.hid (setRow_heap w5 (S + 3) _ _ _ _ HX3_5.out)
      have HBF : Hid (Below w.heap.size w (w5.setRow (S + 3) #[.int .i64 0, .int .i64 0, .int .i64 0, .int .i64 0, .int .i64 0, .int .i64 0, .int .i64 0, .int .i64 0, .int .i64 0, .int .i64 0, .int .i64 0, .int .i64 0, .int .i64 0, .int .i64 0, .int .i64 0, .int .i64 0, .int .i64 0, .slice none 0 0, .int .i64 0, .int .i64 0, .int .i64 0])) := Lib.hid (HB_5.out.trans (((Chg.refl (fun k => k = S + 3) w5).setRow (.inr rfl) _).below HB_5.out.size (fun k hk e => by have := HS.out; omega)))
      go_wp2_with (refine wpList_store_row rfl 36 (.tmp 9) (.tmp 58) rfl (S + 3) _ rfl rfl 36 _ HX3_5.out (by kernel_rfl) rfl (by simp [Value.oneCell']) ?_)
      refine bodyPost_ret (v := .tuple #[.int .i64 0, .agg #[.int .i64 0, .int .i64 0, .int .i64 0, .int .i64 0, .int .i64 0, .int .i64 0, .int .i64 0, .int .i64 0, .int .i64 0, .int .i64 0, .int .i64 0, .int .i64 0, .int .i64 0, .int .i64 0, .int .i64 0, .int .i64 0, .int .i64 0, .slice none 0 0, .int .i64 0, .int .i64 0, .int .i64 0]]) (results_lk Try.results11 _ _ (S + 3) _ rfl HST.out rfl) rfl ⟨?_, HBF.out⟩
      unfold LookPost; rw [if_pos HE.out, ← HY.out]
      rw [if_neg (by have h := HW.out.1; omega), if_pos HW.out.2]
  have u5 : ¬ v 16 < y.q := fun e => hsk (.inl e)
  have u6 : ¬ v 16 < last := fun e => hsk (.inr e)
  have HSK := Lib.hid hsk
  clear hsk
  have hlt11 := ltb HP11_5.out
  have hch : Chg (fun k => k = P11) w5 (w5.setRow P11 #[.int .i64 a, .int .i64 b, .int .i64 d]) := (Chg.refl (fun k => k = P11) w5).setRow (.inr rfl) _
  have h11 : (w5.setRow P11 #[.int .i64 a, .int .i64 b, .int .i64 d]).heap[P11]? = some (.cells #[.int .i64 a, .int .i64 b, .int .i64 d] 34 (0, 0)) := setRow_heap w5 P11 _ _ _ _ HP11_5.out
  have hX0 := (hch.block S (ltb HX0_5.out) (by omega)).trans HX0_5.out
  have hX1 := (hch.block (S + 1) (ltb HX1_5.out) (by omega)).trans HX1_5.out
  have hX3 := (hch.block (S + 3) (ltb HX3_5.out) (by omega)).trans HX3_5.out
  have hP12' := (hch.block P12 (ltb HP12_5.out) (by omega)).trans HP12_5.out
  have hBB := HB_5.out.trans (hch.below HB_5.out.size (fun k hk e => by have := HS.out; omega))
  have HX0_6 := Lib.hid hX0
  have HX1_6 := Lib.hid hX1
  have HX3_6 := Lib.hid hX3
  have HP12_6 := Lib.hid hP12'
  have HB_6 := Lib.hid hBB
  have HP11_6 := Lib.hid h11
  clear hch h11 hX0 hX1 hX3 hP12' hBB
  go_upto_region 12 with (first | (refine wpList_load_row rfl 34 (.tmp 7) rfl (S + 2) rfl 34 _ (0, 0) _ HX2_5.out Try.underlying34 rfl (by kernel_rfl) ?_) | (refine wpList_store_row rfl 34 (.tmp 11) (.tmp 59) rfl P11 _ rfl rfl 34 _ HP11_5.out (by kernel_rfl) rfl (by simp [Value.oneCell']) ?_))
  clear c16 cq HB_5 HX0_5 HX1_5 HX2_5 HX3_5 HP11_5 HP12_5
  generalize w5.setRow P11 #[.int .i64 a, .int .i64 b, .int .i64 d] = w6 at HB_6 HX0_6 HX1_6 HX3_6 HP11_6 HP12_6 ⊢
  have c16 : w6.cell? ⟨S + 1, 16, none⟩ = some (.int .i64 (v 16)) := cellb (i := 16) HX1_6.out rfl
  have cq : w6.cell? ⟨P12, 1, none⟩ = some (.int .i64 y.q) := cellb (i := 1) HP12_6.out rfl
  by_cases hq : y.q = v 16
  rotate_left
  · skip
    have HW := Lib.hid (way_told (a := a) (b := b) (d := d) HND.out HSK.out h16 hq)
    have t1 : (y.q == v 16) = false := by simpa using hq
    clear hq
    go_upto_region 14 with (fail)
    clear t1 c16 cq
    have e15 : w6.cell? ⟨S + 1, 15, none⟩ = some (.int .i64 (v 15)) := cellb (i := 15) HX1_6.out rfl
    have e16 : w6.cell? ⟨S + 1, 16, none⟩ = some (.int .i64 (v 16)) := cellb (i := 16) HX1_6.out rfl
    go_wp2_with (first | (refine wpList_load_row rfl 28 (.tmp 4) rfl S rfl 28 _ (0, 0) _ HX0_6.out Try.underlying28 rfl (by kernel_rfl) ?_) | (refine wpList_load_row rfl 34 (.tmp 11) rfl P11 rfl 34 _ (0, 0) _ HP11_6.out Try.underlying34 rfl (by kernel_rfl) ?_))
    refine (rreply_any ep A n c (v 15) (v 16) a b d w6).mono ?_
    rintro e w7 ⟨k, hk, rfl, hb⟩
    clear e15 e16
    have HK := Lib.hid hk
    clear hk
    have HB_7 : Hid (Below w.heap.size w w7) := Lib.hid (HB_6.out.trans (hb.mono HB_6.out.size))
    have HX3_7 : Hid (w7.heap[(S + 3)]? = some (.cells #[.int .i64 0, .int .i64 0, .int .i64 0, .int .i64 0, .int .i64 0, .int .i64 0, .int .i64 0, .int .i64 0, .int .i64 0, .int .i64 0, .int .i64 0, .int .i64 0, .int .i64 0, .int .i64 0, .int .i64 0, .int .i64 0, .int .i64 0, .slice none 0 0, .int .i64 0, .int .i64 0, .int .i64 0] 36 (0, 0))) := Lib.hid ((hb.block (S + 3) (ltb HX3_6.out)).trans HX3_6.out)
    clear hb HB_6 HX3_6
    cases k
    · skip
      simp only [Bool.false_eq_true, if_false]
      obtain ⟨P13, hP13⟩ : ∃ x, x = w7.heap.size := ⟨_, rfl⟩
      have hlP13 : S + 3 < P13 := by have := ltb HX3_7.out; omega
      have hal : Below w7.heap.size w7 (w7.alloc (.cells #[.int .i64 0, .int .i64 0, .int .i64 0, .int .i64 0, .int .i64 0, .int .i64 0, .int .i64 0, .int .i64 0, .int .i64 0, .int .i64 0, .int .i64 0, .int .i64 0, .int .i64 0, .int .i64 0, .int .i64 0, .int .i64 0, .int .i64 0, .slice none 0 0, .int .i64 0, .int .i64 0, .int .i64 0] 36)) := (Below.refl _ _).alloc (Nat.le_refl _) _
      have hnew : (w7.alloc (.cells #[.int .i64 0, .int .i64 0, .int .i64 0, .int .i64 0, .int .i64 0, .int .i64 0, .int .i64 0, .int .i64 0, .int .i64 0, .int .i64 0, .int .i64 0, .int .i64 0, .int .i64 0, .int .i64 0, .int .i64 0, .int .i64 0, .int .i64 0, .slice none 0 0, .int .i64 0, .int .i64 0, .int .i64 0] 36)).heap[P13]? = some (.cells #[.int .i64 0, .int .i64 0, .int .i64 0, .int .i64 0, .int .i64 0, .int .i64 0, .int .i64 0, .int .i64 0, .int .i64 0, .int .i64 0, .int .i64 0, .int .i64 0, .int .i64 0, .int .i64 0, .int .i64 0, .int .i64 0, .int .i64 0, .slice none 0 0, .int .i64 0, .int .i64 0, .int .i64 0] 36 (0, 0)) := by rw [hP13]; exact heap_alloc_new _ _
      have HB_8 : Hid (Below w.heap.size w (w7.alloc (.cells #[.int .i64 0, .int .i64 0, .int .i64 0, .int .i64 0, .int .i64 0, .int .i64 0, .int .i64 0, .int .i64 0, .int .i64 0, .int .i64 0, .int .i64 0, .int .i64 0, .int .i64 0, .int .i64 0, .int .i64 0, .int .i64 0, .int .i64 0, .slice none 0 0, .int .i64 0, .int .i64 0, .int .i64 0] 36))) := Lib.hid (HB_7.out.trans (hal.mono HB_7.out.size))
      have HX3_8 : Hid ((w7.alloc (.cells #[.int .i64 0, .int .i64 0, .int .i64 0, .int .i64 0, .int .i64 0, .int .i64 0, .int .i64 0, .int .i64 0, .int .i64 0, .int .i64 0, .int .i64 0, .int .i64 0, .int .i64 0, .int .i64 0, .int .i64 0, .int .i64 0, .int .i64 0, .slice none 0 0, .int .i64 0, .int .i64 0, .int .i64 0] 36)).heap[(S + 3)]? = some (.cells #[.int .i64 0, .int .i64 0, .int .i64 0, .int .i64 0, .int .i64 0, .int .i64 0, .int .i64 0, .int .i64 0, .int .i64 0, .int .i64 0, .int .i64 0, .int .i64 0, .int .i64 0, .int .i64 0, .int .i64 0, .int .i64 0, .int .i64 0, .slice none 0 0, .int .i64 0, .int .i64 0, .int .i64 0] 36 (0, 0))) := Lib.hid ((hal.block (S + 3) (ltb HX3_7.out)).trans HX3_7.out)
      clear hal HB_7 HX3_7
      have HP13_8 : Hid ((w7.alloc (.cells #[.int .i64 0, .int .i64 0, .int .i64 0, .int .i64 0, .int .i64 0, .int .i64 0, .int .i64 0, .int .i64 0, .int .i64 0, .int .i64 0, .int .i64 0, .int .i64 0, .int .i64 0, .int .i64 0, .int .i64 0, .int .i64 0, .int .i64 0, .slice none 0 0, .int .i64 0, .int .i64 0, .int .i64 0] 36)).heap[P13]? = some (.cells #[.int .i64 0, .int .i64 0, .int .i64 0, .int .i64 0, .int .i64 0, .int .i64 0, .int .i64 0, .int .i64 0, .int .i64 0, .int .i64 0, .int .i64 0, .int .i64 0, .int .i64 0, .int .i64 0, .int .i64 0, .int .i64 0, .int .i64 0, .slice none 0 0, .int .i64 0, .int .i64 0, .int .i64 0] 36 (0, 0))) := Lib.hid hnew
      clear hnew
      go_upto_region 15 with (refine wpList_store_row rfl 36 (.tmp 13) (.tmp 75) rfl w7.heap.size _ rfl rfl 36 _ (heap_alloc_new w7 _) (by kernel_rfl) rfl (by simp [Value.oneCell']) ?_; rw [World.setRow_alloc_new])
      rw [← hP13]
      clear hP13
      generalize w7.alloc (.cells #[.int .i64 0, .int .i64 0, .int .i64 0, .int .i64 0, .int .i64 0, .int .i64 0, .int .i64 0, .int .i64 0, .int .i64 0, .int .i64 0, .int .i64 0, .int .i64 0, .int .i64 0, .int .i64 0, .int .i64 0, .int .i64 0, .int .i64 0, .slice none 0 0, .int .i64 0, .int .i64 0, .int .i64 0] 36) = w8 at HB_8 HX3_8 HP13_8 ⊢
      have HST : Hid ((w8.setRow (S + 3) #[.int .i64 0, .int .i64 0, .int .i64 0, .int .i64 0, .int .i64 0, .int .i64 0, .int .i64 0, .int .i64 0, .int .i64 0, .int .i64 0, .int .i64 0, .int .i64 0, .int .i64 0, .int .i64 0, .int .i64 0, .int .i64 0, .int .i64 0, .slice none 0 0, .int .i64 0, .int .i64 0, .int .i64 0]).heap[S + 3]? = some (.cells #[.int .i64 0, .int .i64 0, .int .i64 0, .int .i64 0, .int .i64 0, .int .i64 0, .int .i64 0, .int .i64 0, .int .i64 0, .int .i64 0, .int .i64 0, .int .i64 0, .int .i64 0, .int .i64 0, .int .i64 0, .int .i64 0, .int .i64 0, .slice none 0 0, .int .i64 0, .int .i64 0, .int .i64 0] 36 (0, 0))) := Lib.hid (setRow_heap w8 (S + 3) _ _ _ _ HX3_8.out)
      have HBF : Hid (Below w.heap.size w (w8.setRow (S + 3) #[.int .i64 0, .int .i64 0, .int .i64 0, .int .i64 0, .int .i64 0, .int .i64 0, .int .i64 0, .int .i64 0, .int .i64 0, .int .i64 0, .int .i64 0, .int .i64 0, .int .i64 0, .int .i64 0, .int .i64 0, .int .i64 0, .int .i64 0, .slice none 0 0, .int .i64 0, .int .i64 0, .int .i64 0])) := Lib.hid (HB_8.out.trans (((Chg.refl (fun k => k = S + 3) w8).setRow (.inr rfl) _).below HB_8.out.size (fun k hk e => by have := HS.out; omega)))
      go_wp2_with (refine wpList_store_row rfl 36 (.tmp 9) (.tmp 79) rfl (S + 3) _ rfl rfl 36 _ HX3_8.out (by kernel_rfl) rfl (by simp [Value.oneCell']) ?_)
      refine bodyPost_ret (v := .tuple #[.int .i64 0, .agg #[.int .i64 0, .int .i64 0, .int .i64 0, .int .i64 0, .int .i64 0, .int .i64 0, .int .i64 0, .int .i64 0, .int .i64 0, .int .i64 0, .int .i64 0, .int .i64 0, .int .i64 0, .int .i64 0, .int .i64 0, .int .i64 0, .int .i64 0, .slice none 0 0, .int .i64 0, .int .i64 0, .int .i64 0]]) (results_lk Try.results11 _ _ (S + 3) _ rfl HST.out rfl) rfl ⟨?_, HBF.out⟩
      unfold LookPost; rw [if_pos HE.out, ← HY.out]
      rw [HW.out]
      rw [if_neg (by show ¬ v 16 < v 16; omega), if_neg (by show ¬ v 16 < v 16; omega)]
      exact ⟨false, by simpa [kp] using HK.out, rfl⟩
    · skip
      simp only [if_true]
      obtain ⟨P13, hP13⟩ : ∃ x, x = w7.heap.size := ⟨_, rfl⟩
      have hlP13 : S + 3 < P13 := by have := ltb HX3_7.out; omega
      have hal : Below w7.heap.size w7 (w7.alloc (.cells #[.int .i64 8, .int .i64 ep, .int .i64 0, .int .i64 0, .int .i64 0, .int .i64 0, .int .i64 0, .int .i64 0, .int .i64 0, .int .i64 0, .int .i64 0, .int .i64 0, .int .i64 0, .int .i64 0, .int .i64 0, .int .i64 (v 15), .int .i64 (v 16), .slice none 0 0, .int .i64 a, .int .i64 b, .int .i64 d] 36)) := (Below.refl _ _).alloc (Nat.le_refl _) _
      have hnew : (w7.alloc (.cells #[.int .i64 8, .int .i64 ep, .int .i64 0, .int .i64 0, .int .i64 0, .int .i64 0, .int .i64 0, .int .i64 0, .int .i64 0, .int .i64 0, .int .i64 0, .int .i64 0, .int .i64 0, .int .i64 0, .int .i64 0, .int .i64 (v 15), .int .i64 (v 16), .slice none 0 0, .int .i64 a, .int .i64 b, .int .i64 d] 36)).heap[P13]? = some (.cells #[.int .i64 8, .int .i64 ep, .int .i64 0, .int .i64 0, .int .i64 0, .int .i64 0, .int .i64 0, .int .i64 0, .int .i64 0, .int .i64 0, .int .i64 0, .int .i64 0, .int .i64 0, .int .i64 0, .int .i64 0, .int .i64 (v 15), .int .i64 (v 16), .slice none 0 0, .int .i64 a, .int .i64 b, .int .i64 d] 36 (0, 0)) := by rw [hP13]; exact heap_alloc_new _ _
      have HB_8 : Hid (Below w.heap.size w (w7.alloc (.cells #[.int .i64 8, .int .i64 ep, .int .i64 0, .int .i64 0, .int .i64 0, .int .i64 0, .int .i64 0, .int .i64 0, .int .i64 0, .int .i64 0, .int .i64 0, .int .i64 0, .int .i64 0, .int .i64 0, .int .i64 0, .int .i64 (v 15), .int .i64 (v 16), .slice none 0 0, .int .i64 a, .int .i64 b, .int .i64 d] 36))) := Lib.hid (HB_7.out.trans (hal.mono HB_7.out.size))
      have HX3_8 : Hid ((w7.alloc (.cells #[.int .i64 8, .int .i64 ep, .int .i64 0, .int .i64 0, .int .i64 0, .int .i64 0, .int .i64 0, .int .i64 0, .int .i64 0, .int .i64 0, .int .i64 0, .int .i64 0, .int .i64 0, .int .i64 0, .int .i64 0, .int .i64 (v 15), .int .i64 (v 16), .slice none 0 0, .int .i64 a, .int .i64 b, .int .i64 d] 36)).heap[(S + 3)]? = some (.cells #[.int .i64 0, .int .i64 0, .int .i64 0, .int .i64 0, .int .i64 0, .int .i64 0, .int .i64 0, .int .i64 0, .int .i64 0, .int .i64 0, .int .i64 0, .int .i64 0, .int .i64 0, .int .i64 0, .int .i64 0, .int .i64 0, .int .i64 0, .slice none 0 0, .int .i64 0, .int .i64 0, .int .i64 0] 36 (0, 0))) := Lib.hid ((hal.block (S + 3) (ltb HX3_7.out)).trans HX3_7.out)
      clear hal HB_7 HX3_7
      have HP13_8 : Hid ((w7.alloc (.cells #[.int .i64 8, .int .i64 ep, .int .i64 0, .int .i64 0, .int .i64 0, .int .i64 0, .int .i64 0, .int .i64 0, .int .i64 0, .int .i64 0, .int .i64 0, .int .i64 0, .int .i64 0, .int .i64 0, .int .i64 0, .int .i64 (v 15), .int .i64 (v 16), .slice none 0 0, .int .i64 a, .int .i64 b, .int .i64 d] 36)).heap[P13]? = some (.cells #[.int .i64 8, .int .i64 ep, .int .i64 0, .int .i64 0, .int .i64 0, .int .i64 0, .int .i64 0, .int .i64 0, .int .i64 0, .int .i64 0, .int .i64 0, .int .i64 0, .int .i64 0, .int .i64 0, .int .i64 0, .int .i64 (v 15), .int .i64 (v 16), .slice none 0 0, .int .i64 a, .int .i64 b, .int .i64 d] 36 (0, 0))) := Lib.hid hnew
      clear hnew
      go_upto_region 17 with (refine wpList_store_row rfl 36 (.tmp 13) (.tmp 75) rfl w7.heap.size _ rfl rfl 36 _ (heap_alloc_new w7 _) (by kernel_rfl) rfl (by simp [Value.oneCell']) ?_; rw [World.setRow_alloc_new])
      rw [← hP13]
      clear hP13
      generalize w7.alloc (.cells #[.int .i64 8, .int .i64 ep, .int .i64 0, .int .i64 0, .int .i64 0, .int .i64 0, .int .i64 0, .int .i64 0, .int .i64 0, .int .i64 0, .int .i64 0, .int .i64 0, .int .i64 0, .int .i64 0, .int .i64 0, .int .i64 (v 15), .int .i64 (v 16), .slice none 0 0, .int .i64 a, .int .i64 b, .int .i64 d] 36) = w8 at HB_8 HX3_8 HP13_8 ⊢
      have d0 : w8.drew.heap[P13]? = some (.cells #[.int .i64 8, .int .i64 ep, .int .i64 0, .int .i64 0, .int .i64 0, .int .i64 0, .int .i64 0, .int .i64 0, .int .i64 0, .int .i64 0, .int .i64 0, .int .i64 0, .int .i64 0, .int .i64 0, .int .i64 0, .int .i64 (v 15), .int .i64 (v 16), .slice none 0 0, .int .i64 a, .int .i64 b, .int .i64 d] 36 (0, 0)) := HP13_8.out
      have HQd : Hid (w8.drew.heap[S + 3]? = some (.cells #[.int .i64 0, .int .i64 0, .int .i64 0, .int .i64 0, .int .i64 0, .int .i64 0, .int .i64 0, .int .i64 0, .int .i64 0, .int .i64 0, .int .i64 0, .int .i64 0, .int .i64 0, .int .i64 0, .int .i64 0, .int .i64 0, .int .i64 0, .slice none 0 0, .int .i64 0, .int .i64 0, .int .i64 0] 36 (0, 0))) := HX3_8
      refine wp_region_noPanic ?_
      refine wp_region_held_drew (S := fun w' => w'.heap[P13]? = some (.cells #[.int .i64 8, .int .i64 ep, .int .i64 0, .int .i64 0, .int .i64 0, .int .i64 0, .int .i64 0, .int .i64 0, .int .i64 0, .int .i64 0, .int .i64 0, .int .i64 0, .int .i64 0, .int .i64 0, .int .i64 0, .int .i64 (v 15), .int .i64 (v 16), .slice none 0 0, .int .i64 a, .int .i64 b, .int .i64 d] 36 (0, 0))) (by kernel_rfl) ?_ (fun hHeld => ?_)
      · try dsimp only
        (refine ?_ <;> (first | with_reducible assumption))
      refine wpAnyH_take (i := 0) (v := ?_) (by (simp only [List.getElem?_toArray, List.getElem?_cons_zero]; rfl)) (by kernel_rfl) (by kernel_rfl) (by kernel_rfl) (fun _ _ _ h => h) (Or.inl ⟨by rfl, ?_⟩) (by assumption) ?_
      rotate_left
      · intro w hSw
        try dsimp only at hSw
        refine take_load (x := .tmp 13) (ty := 36) ?_ P13 ?_ 36 _ (0, 0) _ hSw Try.underlying36 rfl (by kernel_rfl)
        all_goals rfl
      try simp only [Act.put, List.setIfInBounds_toArray, List.set_cons_zero, List.set_cons_succ]
      refine wpAnyH_take (i := 1) (v := ?_) (by (simp only [List.getElem?_toArray, List.getElem?_cons_succ, List.getElem?_cons_zero]; rfl)) (by kernel_rfl) (by kernel_rfl) (by kernel_rfl) (fun _ _ _ h => h) (Or.inl ⟨by rfl, ?_⟩) (by assumption) ?_
      rotate_left
      · (intro w hSw; (try dsimp only at hSw); go_simp; try with_reducible rfl)
      try simp only [Act.put, List.setIfInBounds_toArray, List.set_cons_zero, List.set_cons_succ]
      refine wpAnyH_ready (rs := [2]) (by kernel_rfl) (by simp) ?_
      refine AllReadyH.cons (by (simp only [List.getElem?_toArray, List.getElem?_cons_succ, List.getElem?_cons_zero]; rfl)) (fun K hK => ?_) AllReadyH.nil
      refine wp_store_row 36 (.tmp 9) (.tmp 80) rfl (S + 3) _ rfl rfl 36 _ HQd.out (by kernel_rfl) rfl (by simp [Value.oneCell']) ?_
      have y0 : (w8.drew.setRow (S + 3) #[.int .i64 8, .int .i64 ep, .int .i64 0, .int .i64 0, .int .i64 0, .int .i64 0, .int .i64 0, .int .i64 0, .int .i64 0, .int .i64 0, .int .i64 0, .int .i64 0, .int .i64 0, .int .i64 0, .int .i64 0, .int .i64 (v 15), .int .i64 (v 16), .slice none 0 0, .int .i64 a, .int .i64 b, .int .i64 d]).heap[P13]? = some (.cells #[.int .i64 8, .int .i64 ep, .int .i64 0, .int .i64 0, .int .i64 0, .int .i64 0, .int .i64 0, .int .i64 0, .int .i64 0, .int .i64 0, .int .i64 0, .int .i64 0, .int .i64 0, .int .i64 0, .int .i64 0, .int .i64 (v 15), .int .i64 (v 16), .slice none 0 0, .int .i64 a, .int .i64 b, .int .i64 d] 36 (0, 0)) := (setRow_other _ _ _ _ (by omega)).trans d0
      refine hK.out _ _ ?_ (fun hHeld => ?_)
      · try dsimp only
        (refine ?_ <;> (first | with_reducible assumption))
      clear hK K
      try simp only [Act.put]
      refine wpAnyH_done (by kernel_rfl) ?_ _
      refine NoPanic.normal ?_
      clear hHeld d0 y0
      have HRET := Lib.hid (setRow_heap w8.drew (S + 3) _ #[.int .i64 8, .int .i64 ep, .int .i64 0, .int .i64 0, .int .i64 0, .int .i64 0, .int .i64 0, .int .i64 0, .int .i64 0, .int .i64 0, .int .i64 0, .int .i64 0, .int .i64 0, .int .i64 0, .int .i64 0, .int .i64 (v 15), .int .i64 (v 16), .slice none 0 0, .int .i64 a, .int .i64 b, .int .i64 d] _ _ HQd.out)
      have HBF := Lib.hid (below_setRow (g := S + 3) HB_8.out.drew (by have := HS.out; omega) #[.int .i64 8, .int .i64 ep, .int .i64 0, .int .i64 0, .int .i64 0, .int .i64 0, .int .i64 0, .int .i64 0, .int .i64 0, .int .i64 0, .int .i64 0, .int .i64 0, .int .i64 0, .int .i64 0, .int .i64 0, .int .i64 (v 15), .int .i64 (v 16), .slice none 0 0, .int .i64 a, .int .i64 b, .int .i64 d])
      go_wp2_with fail
      refine bodyPost_ret (v := .tuple #[.int .i64 1, .agg #[.int .i64 8, .int .i64 ep, .int .i64 0, .int .i64 0, .int .i64 0, .int .i64 0, .int .i64 0, .int .i64 0, .int .i64 0, .int .i64 0, .int .i64 0, .int .i64 0, .int .i64 0, .int .i64 0, .int .i64 0, .int .i64 (v 15), .int .i64 (v 16), .slice none 0 0, .int .i64 a, .int .i64 b, .int .i64 d]]) (results_lk Try.results11 _ _ (S + 3) _ rfl HRET.out rfl) rfl ⟨?_, HBF.out⟩
      unfold LookPost; rw [if_pos HE.out, ← HY.out]
      rw [HW.out]
      rw [if_neg (by show ¬ v 16 < v 16; omega), if_neg (by show ¬ v 16 < v 16; omega)]
      exact ⟨true, by simpa [kp] using HK.out, rfl⟩
  · skip
    have HW := Lib.hid (way_kept (a := a) (b := b) (d := d) HSK.out h16 hq)
    have t1 : (y.q == v 16) = true := by simpa using hq
    have HQ := Lib.hid hq
    clear hq
    have HRG : Hid (w6.rangeAt P12 2 [.int .i64 y.a, .int .i64 y.b, .int .i64 y.c]) := Lib.hid (fun j u hj => by
      have hj3 : j < 3 := by have := (List.getElem?_eq_some_iff.1 hj).1; simpa using this
      have hjj : j = 0 ∨ j = 1 ∨ j = 2 := by omega
      rcases hjj with rfl | rfl | rfl <;> (simp at hj; subst hj; exact cellb HP12_6.out rfl))
    have hch : Chg (fun k => k = P11) w6 (w6.setRow P11 #[.int .i64 y.a, .int .i64 y.b, .int .i64 y.c]) := (Chg.refl (fun k => k = P11) w6).setRow (.inr rfl) _
    have h11 : (w6.setRow P11 #[.int .i64 y.a, .int .i64 y.b, .int .i64 y.c]).heap[P11]? = some (.cells #[.int .i64 y.a, .int .i64 y.b, .int .i64 y.c] 34 (0, 0)) := setRow_heap w6 P11 _ _ _ _ HP11_6.out
    have hX0 := (hch.block S (ltb HX0_6.out) (by omega)).trans HX0_6.out
    have hX1 := (hch.block (S + 1) (ltb HX1_6.out) (by omega)).trans HX1_6.out
    have hX3 := (hch.block (S + 3) (ltb HX3_6.out) (by omega)).trans HX3_6.out
    have hBB := HB_6.out.trans (hch.below HB_6.out.size (fun k hk e => by have := HS.out; omega))
    have HX0_7 := Lib.hid hX0
    have HX1_7 := Lib.hid hX1
    have HX3_7 := Lib.hid hX3
    have HB_7 := Lib.hid hBB
    have HP11_7 := Lib.hid h11
    clear hch h11 hX0 hX1 hX3 hBB
    go_upto_region 14 with (first | (refine wpList_load_mid rfl 34 (.tmp 65) rfl P12 2 rfl [.int .i64 y.a, .int .i64 y.b, .int .i64 y.c] _ HRG.out Try.underlying34 rfl (by kernel_rfl) ?_) | (refine wpList_store_row rfl 34 (.tmp 11) (.tmp 66) rfl P11 _ rfl rfl 34 _ HP11_6.out (by kernel_rfl) rfl (by simp [Value.oneCell']) ?_))
    clear t1 c16 cq HB_6 HX0_6 HX1_6 HX3_6 HP11_6 HP12_6 HRG
    generalize w6.setRow P11 #[.int .i64 y.a, .int .i64 y.b, .int .i64 y.c] = w7 at HB_7 HX0_7 HX1_7 HX3_7 HP11_7 ⊢
    have e15 : w7.cell? ⟨S + 1, 15, none⟩ = some (.int .i64 (v 15)) := cellb (i := 15) HX1_7.out rfl
    have e16 : w7.cell? ⟨S + 1, 16, none⟩ = some (.int .i64 (v 16)) := cellb (i := 16) HX1_7.out rfl
    go_wp2_with (first | (refine wpList_load_row rfl 28 (.tmp 4) rfl S rfl 28 _ (0, 0) _ HX0_7.out Try.underlying28 rfl (by kernel_rfl) ?_) | (refine wpList_load_row rfl 34 (.tmp 11) rfl P11 rfl 34 _ (0, 0) _ HP11_7.out Try.underlying34 rfl (by kernel_rfl) ?_))
    refine (rreply_any ep A n c (v 15) (v 16) y.a y.b y.c w7).mono ?_
    rintro e w8 ⟨k, hk, rfl, hb⟩
    clear e15 e16
    have HK := Lib.hid hk
    clear hk
    have HB_8 : Hid (Below w.heap.size w w8) := Lib.hid (HB_7.out.trans (hb.mono HB_7.out.size))
    have HX3_8 : Hid (w8.heap[(S + 3)]? = some (.cells #[.int .i64 0, .int .i64 0, .int .i64 0, .int .i64 0, .int .i64 0, .int .i64 0, .int .i64 0, .int .i64 0, .int .i64 0, .int .i64 0, .int .i64 0, .int .i64 0, .int .i64 0, .int .i64 0, .int .i64 0, .int .i64 0, .int .i64 0, .slice none 0 0, .int .i64 0, .int .i64 0, .int .i64 0] 36 (0, 0))) := Lib.hid ((hb.block (S + 3) (ltb HX3_7.out)).trans HX3_7.out)
    clear hb HB_7 HX3_7
    cases k
    · skip
      simp only [Bool.false_eq_true, if_false]
      obtain ⟨P13, hP13⟩ : ∃ x, x = w8.heap.size := ⟨_, rfl⟩
      have hlP13 : S + 3 < P13 := by have := ltb HX3_8.out; omega
      have hal : Below w8.heap.size w8 (w8.alloc (.cells #[.int .i64 0, .int .i64 0, .int .i64 0, .int .i64 0, .int .i64 0, .int .i64 0, .int .i64 0, .int .i64 0, .int .i64 0, .int .i64 0, .int .i64 0, .int .i64 0, .int .i64 0, .int .i64 0, .int .i64 0, .int .i64 0, .int .i64 0, .slice none 0 0, .int .i64 0, .int .i64 0, .int .i64 0] 36)) := (Below.refl _ _).alloc (Nat.le_refl _) _
      have hnew : (w8.alloc (.cells #[.int .i64 0, .int .i64 0, .int .i64 0, .int .i64 0, .int .i64 0, .int .i64 0, .int .i64 0, .int .i64 0, .int .i64 0, .int .i64 0, .int .i64 0, .int .i64 0, .int .i64 0, .int .i64 0, .int .i64 0, .int .i64 0, .int .i64 0, .slice none 0 0, .int .i64 0, .int .i64 0, .int .i64 0] 36)).heap[P13]? = some (.cells #[.int .i64 0, .int .i64 0, .int .i64 0, .int .i64 0, .int .i64 0, .int .i64 0, .int .i64 0, .int .i64 0, .int .i64 0, .int .i64 0, .int .i64 0, .int .i64 0, .int .i64 0, .int .i64 0, .int .i64 0, .int .i64 0, .int .i64 0, .slice none 0 0, .int .i64 0, .int .i64 0, .int .i64 0] 36 (0, 0)) := by rw [hP13]; exact heap_alloc_new _ _
      have HB_9 : Hid (Below w.heap.size w (w8.alloc (.cells #[.int .i64 0, .int .i64 0, .int .i64 0, .int .i64 0, .int .i64 0, .int .i64 0, .int .i64 0, .int .i64 0, .int .i64 0, .int .i64 0, .int .i64 0, .int .i64 0, .int .i64 0, .int .i64 0, .int .i64 0, .int .i64 0, .int .i64 0, .slice none 0 0, .int .i64 0, .int .i64 0, .int .i64 0] 36))) := Lib.hid (HB_8.out.trans (hal.mono HB_8.out.size))
      have HX3_9 : Hid ((w8.alloc (.cells #[.int .i64 0, .int .i64 0, .int .i64 0, .int .i64 0, .int .i64 0, .int .i64 0, .int .i64 0, .int .i64 0, .int .i64 0, .int .i64 0, .int .i64 0, .int .i64 0, .int .i64 0, .int .i64 0, .int .i64 0, .int .i64 0, .int .i64 0, .slice none 0 0, .int .i64 0, .int .i64 0, .int .i64 0] 36)).heap[(S + 3)]? = some (.cells #[.int .i64 0, .int .i64 0, .int .i64 0, .int .i64 0, .int .i64 0, .int .i64 0, .int .i64 0, .int .i64 0, .int .i64 0, .int .i64 0, .int .i64 0, .int .i64 0, .int .i64 0, .int .i64 0, .int .i64 0, .int .i64 0, .int .i64 0, .slice none 0 0, .int .i64 0, .int .i64 0, .int .i64 0] 36 (0, 0))) := Lib.hid ((hal.block (S + 3) (ltb HX3_8.out)).trans HX3_8.out)
      clear hal HB_8 HX3_8
      have HP13_9 : Hid ((w8.alloc (.cells #[.int .i64 0, .int .i64 0, .int .i64 0, .int .i64 0, .int .i64 0, .int .i64 0, .int .i64 0, .int .i64 0, .int .i64 0, .int .i64 0, .int .i64 0, .int .i64 0, .int .i64 0, .int .i64 0, .int .i64 0, .int .i64 0, .int .i64 0, .slice none 0 0, .int .i64 0, .int .i64 0, .int .i64 0] 36)).heap[P13]? = some (.cells #[.int .i64 0, .int .i64 0, .int .i64 0, .int .i64 0, .int .i64 0, .int .i64 0, .int .i64 0, .int .i64 0, .int .i64 0, .int .i64 0, .int .i64 0, .int .i64 0, .int .i64 0, .int .i64 0, .int .i64 0, .int .i64 0, .int .i64 0, .slice none 0 0, .int .i64 0, .int .i64 0, .int .i64 0] 36 (0, 0))) := Lib.hid hnew
      clear hnew
      go_upto_region 15 with (refine wpList_store_row rfl 36 (.tmp 13) (.tmp 75) rfl w8.heap.size _ rfl rfl 36 _ (heap_alloc_new w8 _) (by kernel_rfl) rfl (by simp [Value.oneCell']) ?_; rw [World.setRow_alloc_new])
      rw [← hP13]
      clear hP13
      generalize w8.alloc (.cells #[.int .i64 0, .int .i64 0, .int .i64 0, .int .i64 0, .int .i64 0, .int .i64 0, .int .i64 0, .int .i64 0, .int .i64 0, .int .i64 0, .int .i64 0, .int .i64 0, .int .i64 0, .int .i64 0, .int .i64 0, .int .i64 0, .int .i64 0, .slice none 0 0, .int .i64 0, .int .i64 0, .int .i64 0] 36) = w9 at HB_9 HX3_9 HP13_9 ⊢
      have HST : Hid ((w9.setRow (S + 3) #[.int .i64 0, .int .i64 0, .int .i64 0, .int .i64 0, .int .i64 0, .int .i64 0, .int .i64 0, .int .i64 0, .int .i64 0, .int .i64 0, .int .i64 0, .int .i64 0, .int .i64 0, .int .i64 0, .int .i64 0, .int .i64 0, .int .i64 0, .slice none 0 0, .int .i64 0, .int .i64 0, .int .i64 0]).heap[S + 3]? = some (.cells #[.int .i64 0, .int .i64 0, .int .i64 0, .int .i64 0, .int .i64 0, .int .i64 0, .int .i64 0, .int .i64 0, .int .i64 0, .int .i64 0, .int .i64 0, .int .i64 0, .int .i64 0, .int .i64 0, .int .i64 0, .int .i64 0, .int .i64 0, .slice none 0 0, .int .i64 0, .int .i64 0, .int .i64 0] 36 (0, 0))) := Lib.hid (setRow_heap w9 (S + 3) _ _ _ _ HX3_9.out)
      have HBF : Hid (Below w.heap.size w (w9.setRow (S + 3) #[.int .i64 0, .int .i64 0, .int .i64 0, .int .i64 0, .int .i64 0, .int .i64 0, .int .i64 0, .int .i64 0, .int .i64 0, .int .i64 0, .int .i64 0, .int .i64 0, .int .i64 0, .int .i64 0, .int .i64 0, .int .i64 0, .int .i64 0, .slice none 0 0, .int .i64 0, .int .i64 0, .int .i64 0])) := Lib.hid (HB_9.out.trans (((Chg.refl (fun k => k = S + 3) w9).setRow (.inr rfl) _).below HB_9.out.size (fun k hk e => by have := HS.out; omega)))
      go_wp2_with (refine wpList_store_row rfl 36 (.tmp 9) (.tmp 79) rfl (S + 3) _ rfl rfl 36 _ HX3_9.out (by kernel_rfl) rfl (by simp [Value.oneCell']) ?_)
      refine bodyPost_ret (v := .tuple #[.int .i64 0, .agg #[.int .i64 0, .int .i64 0, .int .i64 0, .int .i64 0, .int .i64 0, .int .i64 0, .int .i64 0, .int .i64 0, .int .i64 0, .int .i64 0, .int .i64 0, .int .i64 0, .int .i64 0, .int .i64 0, .int .i64 0, .int .i64 0, .int .i64 0, .slice none 0 0, .int .i64 0, .int .i64 0, .int .i64 0]]) (results_lk Try.results11 _ _ (S + 3) _ rfl HST.out rfl) rfl ⟨?_, HBF.out⟩
      unfold LookPost; rw [if_pos HE.out, ← HY.out]
      rw [HW.out]
      rw [if_neg (by have := HQ.out; show ¬ y.q < v 16; omega), if_neg (by have := HQ.out; show ¬ v 16 < y.q; omega)]
      exact ⟨false, by simpa [kp] using HK.out, rfl⟩
    · skip
      simp only [if_true]
      obtain ⟨P13, hP13⟩ : ∃ x, x = w8.heap.size := ⟨_, rfl⟩
      have hlP13 : S + 3 < P13 := by have := ltb HX3_8.out; omega
      have hal : Below w8.heap.size w8 (w8.alloc (.cells #[.int .i64 8, .int .i64 ep, .int .i64 0, .int .i64 0, .int .i64 0, .int .i64 0, .int .i64 0, .int .i64 0, .int .i64 0, .int .i64 0, .int .i64 0, .int .i64 0, .int .i64 0, .int .i64 0, .int .i64 0, .int .i64 (v 15), .int .i64 (v 16), .slice none 0 0, .int .i64 y.a, .int .i64 y.b, .int .i64 y.c] 36)) := (Below.refl _ _).alloc (Nat.le_refl _) _
      have hnew : (w8.alloc (.cells #[.int .i64 8, .int .i64 ep, .int .i64 0, .int .i64 0, .int .i64 0, .int .i64 0, .int .i64 0, .int .i64 0, .int .i64 0, .int .i64 0, .int .i64 0, .int .i64 0, .int .i64 0, .int .i64 0, .int .i64 0, .int .i64 (v 15), .int .i64 (v 16), .slice none 0 0, .int .i64 y.a, .int .i64 y.b, .int .i64 y.c] 36)).heap[P13]? = some (.cells #[.int .i64 8, .int .i64 ep, .int .i64 0, .int .i64 0, .int .i64 0, .int .i64 0, .int .i64 0, .int .i64 0, .int .i64 0, .int .i64 0, .int .i64 0, .int .i64 0, .int .i64 0, .int .i64 0, .int .i64 0, .int .i64 (v 15), .int .i64 (v 16), .slice none 0 0, .int .i64 y.a, .int .i64 y.b, .int .i64 y.c] 36 (0, 0)) := by rw [hP13]; exact heap_alloc_new _ _
      have HB_9 : Hid (Below w.heap.size w (w8.alloc (.cells #[.int .i64 8, .int .i64 ep, .int .i64 0, .int .i64 0, .int .i64 0, .int .i64 0, .int .i64 0, .int .i64 0, .int .i64 0, .int .i64 0, .int .i64 0, .int .i64 0, .int .i64 0, .int .i64 0, .int .i64 0, .int .i64 (v 15), .int .i64 (v 16), .slice none 0 0, .int .i64 y.a, .int .i64 y.b, .int .i64 y.c] 36))) := Lib.hid (HB_8.out.trans (hal.mono HB_8.out.size))
      have HX3_9 : Hid ((w8.alloc (.cells #[.int .i64 8, .int .i64 ep, .int .i64 0, .int .i64 0, .int .i64 0, .int .i64 0, .int .i64 0, .int .i64 0, .int .i64 0, .int .i64 0, .int .i64 0, .int .i64 0, .int .i64 0, .int .i64 0, .int .i64 0, .int .i64 (v 15), .int .i64 (v 16), .slice none 0 0, .int .i64 y.a, .int .i64 y.b, .int .i64 y.c] 36)).heap[(S + 3)]? = some (.cells #[.int .i64 0, .int .i64 0, .int .i64 0, .int .i64 0, .int .i64 0, .int .i64 0, .int .i64 0, .int .i64 0, .int .i64 0, .int .i64 0, .int .i64 0, .int .i64 0, .int .i64 0, .int .i64 0, .int .i64 0, .int .i64 0, .int .i64 0, .slice none 0 0, .int .i64 0, .int .i64 0, .int .i64 0] 36 (0, 0))) := Lib.hid ((hal.block (S + 3) (ltb HX3_8.out)).trans HX3_8.out)
      clear hal HB_8 HX3_8
      have HP13_9 : Hid ((w8.alloc (.cells #[.int .i64 8, .int .i64 ep, .int .i64 0, .int .i64 0, .int .i64 0, .int .i64 0, .int .i64 0, .int .i64 0, .int .i64 0, .int .i64 0, .int .i64 0, .int .i64 0, .int .i64 0, .int .i64 0, .int .i64 0, .int .i64 (v 15), .int .i64 (v 16), .slice none 0 0, .int .i64 y.a, .int .i64 y.b, .int .i64 y.c] 36)).heap[P13]? = some (.cells #[.int .i64 8, .int .i64 ep, .int .i64 0, .int .i64 0, .int .i64 0, .int .i64 0, .int .i64 0, .int .i64 0, .int .i64 0, .int .i64 0, .int .i64 0, .int .i64 0, .int .i64 0, .int .i64 0, .int .i64 0, .int .i64 (v 15), .int .i64 (v 16), .slice none 0 0, .int .i64 y.a, .int .i64 y.b, .int .i64 y.c] 36 (0, 0))) := Lib.hid hnew
      clear hnew
      go_upto_region 17 with (refine wpList_store_row rfl 36 (.tmp 13) (.tmp 75) rfl w8.heap.size _ rfl rfl 36 _ (heap_alloc_new w8 _) (by kernel_rfl) rfl (by simp [Value.oneCell']) ?_; rw [World.setRow_alloc_new])
      rw [← hP13]
      clear hP13
      generalize w8.alloc (.cells #[.int .i64 8, .int .i64 ep, .int .i64 0, .int .i64 0, .int .i64 0, .int .i64 0, .int .i64 0, .int .i64 0, .int .i64 0, .int .i64 0, .int .i64 0, .int .i64 0, .int .i64 0, .int .i64 0, .int .i64 0, .int .i64 (v 15), .int .i64 (v 16), .slice none 0 0, .int .i64 y.a, .int .i64 y.b, .int .i64 y.c] 36) = w9 at HB_9 HX3_9 HP13_9 ⊢
      have d0 : w9.drew.heap[P13]? = some (.cells #[.int .i64 8, .int .i64 ep, .int .i64 0, .int .i64 0, .int .i64 0, .int .i64 0, .int .i64 0, .int .i64 0, .int .i64 0, .int .i64 0, .int .i64 0, .int .i64 0, .int .i64 0, .int .i64 0, .int .i64 0, .int .i64 (v 15), .int .i64 (v 16), .slice none 0 0, .int .i64 y.a, .int .i64 y.b, .int .i64 y.c] 36 (0, 0)) := HP13_9.out
      have HQd : Hid (w9.drew.heap[S + 3]? = some (.cells #[.int .i64 0, .int .i64 0, .int .i64 0, .int .i64 0, .int .i64 0, .int .i64 0, .int .i64 0, .int .i64 0, .int .i64 0, .int .i64 0, .int .i64 0, .int .i64 0, .int .i64 0, .int .i64 0, .int .i64 0, .int .i64 0, .int .i64 0, .slice none 0 0, .int .i64 0, .int .i64 0, .int .i64 0] 36 (0, 0))) := HX3_9
      refine wp_region_noPanic ?_
      refine wp_region_held_drew (S := fun w' => w'.heap[P13]? = some (.cells #[.int .i64 8, .int .i64 ep, .int .i64 0, .int .i64 0, .int .i64 0, .int .i64 0, .int .i64 0, .int .i64 0, .int .i64 0, .int .i64 0, .int .i64 0, .int .i64 0, .int .i64 0, .int .i64 0, .int .i64 0, .int .i64 (v 15), .int .i64 (v 16), .slice none 0 0, .int .i64 y.a, .int .i64 y.b, .int .i64 y.c] 36 (0, 0))) (by kernel_rfl) ?_ (fun hHeld => ?_)
      · try dsimp only
        (refine ?_ <;> (first | with_reducible assumption))
      refine wpAnyH_take (i := 0) (v := ?_) (by (simp only [List.getElem?_toArray, List.getElem?_cons_zero]; rfl)) (by kernel_rfl) (by kernel_rfl) (by kernel_rfl) (fun _ _ _ h => h) (Or.inl ⟨by rfl, ?_⟩) (by assumption) ?_
      rotate_left
      · intro w hSw
        try dsimp only at hSw
        refine take_load (x := .tmp 13) (ty := 36) ?_ P13 ?_ 36 _ (0, 0) _ hSw Try.underlying36 rfl (by kernel_rfl)
        all_goals rfl
      try simp only [Act.put, List.setIfInBounds_toArray, List.set_cons_zero, List.set_cons_succ]
      refine wpAnyH_take (i := 1) (v := ?_) (by (simp only [List.getElem?_toArray, List.getElem?_cons_succ, List.getElem?_cons_zero]; rfl)) (by kernel_rfl) (by kernel_rfl) (by kernel_rfl) (fun _ _ _ h => h) (Or.inl ⟨by rfl, ?_⟩) (by assumption) ?_
      rotate_left
      · (intro w hSw; (try dsimp only at hSw); go_simp; try with_reducible rfl)
      try simp only [Act.put, List.setIfInBounds_toArray, List.set_cons_zero, List.set_cons_succ]
      refine wpAnyH_ready (rs := [2]) (by kernel_rfl) (by simp) ?_
      refine AllReadyH.cons (by (simp only [List.getElem?_toArray, List.getElem?_cons_succ, List.getElem?_cons_zero]; rfl)) (fun K hK => ?_) AllReadyH.nil
      refine wp_store_row 36 (.tmp 9) (.tmp 80) rfl (S + 3) _ rfl rfl 36 _ HQd.out (by kernel_rfl) rfl (by simp [Value.oneCell']) ?_
      have y0 : (w9.drew.setRow (S + 3) #[.int .i64 8, .int .i64 ep, .int .i64 0, .int .i64 0, .int .i64 0, .int .i64 0, .int .i64 0, .int .i64 0, .int .i64 0, .int .i64 0, .int .i64 0, .int .i64 0, .int .i64 0, .int .i64 0, .int .i64 0, .int .i64 (v 15), .int .i64 (v 16), .slice none 0 0, .int .i64 y.a, .int .i64 y.b, .int .i64 y.c]).heap[P13]? = some (.cells #[.int .i64 8, .int .i64 ep, .int .i64 0, .int .i64 0, .int .i64 0, .int .i64 0, .int .i64 0, .int .i64 0, .int .i64 0, .int .i64 0, .int .i64 0, .int .i64 0, .int .i64 0, .int .i64 0, .int .i64 0, .int .i64 (v 15), .int .i64 (v 16), .slice none 0 0, .int .i64 y.a, .int .i64 y.b, .int .i64 y.c] 36 (0, 0)) := (setRow_other _ _ _ _ (by omega)).trans d0
      refine hK.out _ _ ?_ (fun hHeld => ?_)
      · try dsimp only
        (refine ?_ <;> (first | with_reducible assumption))
      clear hK K
      try simp only [Act.put]
      refine wpAnyH_done (by kernel_rfl) ?_ _
      refine NoPanic.normal ?_
      clear hHeld d0 y0
      have HRET := Lib.hid (setRow_heap w9.drew (S + 3) _ #[.int .i64 8, .int .i64 ep, .int .i64 0, .int .i64 0, .int .i64 0, .int .i64 0, .int .i64 0, .int .i64 0, .int .i64 0, .int .i64 0, .int .i64 0, .int .i64 0, .int .i64 0, .int .i64 0, .int .i64 0, .int .i64 (v 15), .int .i64 (v 16), .slice none 0 0, .int .i64 y.a, .int .i64 y.b, .int .i64 y.c] _ _ HQd.out)
      have HBF := Lib.hid (below_setRow (g := S + 3) HB_9.out.drew (by have := HS.out; omega) #[.int .i64 8, .int .i64 ep, .int .i64 0, .int .i64 0, .int .i64 0, .int .i64 0, .int .i64 0, .int .i64 0, .int .i64 0, .int .i64 0, .int .i64 0, .int .i64 0, .int .i64 0, .int .i64 0, .int .i64 0, .int .i64 (v 15), .int .i64 (v 16), .slice none 0 0, .int .i64 y.a, .int .i64 y.b, .int .i64 y.c])
      go_wp2_with fail
      refine bodyPost_ret (v := .tuple #[.int .i64 1, .agg #[.int .i64 8, .int .i64 ep, .int .i64 0, .int .i64 0, .int .i64 0, .int .i64 0, .int .i64 0, .int .i64 0, .int .i64 0, .int .i64 0, .int .i64 0, .int .i64 0, .int .i64 0, .int .i64 0, .int .i64 0, .int .i64 (v 15), .int .i64 (v 16), .slice none 0 0, .int .i64 y.a, .int .i64 y.b, .int .i64 y.c]]) (results_lk Try.results11 _ _ (S + 3) _ rfl HRET.out rfl) rfl ⟨?_, HBF.out⟩
      unfold LookPost; rw [if_pos HE.out, ← HY.out]
      rw [HW.out]
      rw [if_neg (by have := HQ.out; show ¬ y.q < v 16; omega), if_neg (by have := HQ.out; show ¬ v 16 < y.q; omega)]
      exact ⟨true, by simpa [kp] using HK.out, rfl⟩
set_option maxRecDepth 100000 in
set_option maxHeartbeats 8000000 in
theorem rlook_ok (ep : Int) (base : Nat) (A : Option Addr) (n c : Nat) (L : List Ke) (v : Nat → Int) (Bm : Option Addr) (nb cb : Nat) (last a b d : Int) (w : World) (h : LAt w base A n c L) (hn : n ≤ 1000) (h0 : v 0 = 7) (hok : OkL [⟨1, 0, 1099511627776⟩, ⟨15, 1, 16⟩, ⟨16, 1, 1099511627776⟩] v nb 4096) :
    Calls Try.prog 11 #[.agg #[.int .i64 ep, .slice A n c], .agg #[.int .i64 (v 0), .int .i64 (v 1), .int .i64 (v 2), .int .i64 (v 3), .int .i64 (v 4), .int .i64 (v 5), .int .i64 (v 6), .int .i64 (v 7), .int .i64 (v 8), .int .i64 (v 9), .int .i64 (v 10), .int .i64 (v 11), .int .i64 (v 12), .int .i64 (v 13), .int .i64 (v 14), .int .i64 (v 15), .int .i64 (v 16), .slice Bm nb cb, .int .i64 (v 18), .int .i64 (v 19), .int .i64 (v 20)], .int .i64 last, .agg #[.int .i64 a, .int .i64 b, .int .i64 d]] w fun e w' => LookPost ep (lookK (kp (lk L (v 15))) last a b d) v e ∧ Below w.heap.size w w' := by
  by_cases he : v 1 = ep
  · by_cases h1 : (lk L (v 15)).q < v 16
    · by_cases h2 : last < v 16
      · exact rlook_do ep base A n c L v Bm nb cb last a b d w h hn h0 hok he ⟨h1, h2⟩
      · exact rlook_b ep base A n c L v Bm nb cb last a b d w h hn h0 hok he ⟨h1, h2⟩
    · exact rlook_a ep base A n c L v Bm nb cb last a b d w h hn h0 hok he h1
  · exact rlook_ne ep base A n c L v Bm nb cb last a b d w h hn h0 hok he
end Go.Proofs.Ytlcbpodjmafoeaa
