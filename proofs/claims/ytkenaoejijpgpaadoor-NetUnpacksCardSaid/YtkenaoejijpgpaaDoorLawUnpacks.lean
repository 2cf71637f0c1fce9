/- Any bytes are unpacked as told, or refused. -/
import Derived.Test.YtkenaoejijpgpaaDoorAwk18
import Derived.Test.YtkenaoejijpgpaaDoorRUnp
import Derived.Test.YtkenaoejijpgpaaDoorSame18
namespace Go.Proofs.YtkenaoejijpgpaaDoor
open Go.RowKit

theorem ld21u {w : World} {S n c : Nat} {v : Nat → Int} {A : Option Addr} (h : MAt w S v A n c) : w.heap[S]? = some (.cells #[.int .i64 (v 0), .int .i64 (v 1), .int .i64 (v 2), .int .i64 (v 3), .int .i64 (v 4), .int .i64 (v 5), .int .i64 (v 6), .int .i64 (v 7), .int .i64 (v 8), .int .i64 (v 9), .int .i64 (v 10), .int .i64 (v 11), .int .i64 (v 12), .int .i64 (v 13), .int .i64 (v 14), .int .i64 (v 15), .int .i64 (v 16), .slice A n c, .int .i64 (v 18), .int .i64 (v 19), .int .i64 (v 20)] 29 (0, 0)) := h
set_option maxRecDepth 100000 in
set_option maxHeartbeats 4000000 in
theorem law_unpacks (A : Option Addr) (c n : Nat) (l : List UInt8) (w : World) (hb : BytesIn w w.heap.size A c l) (hn : n = l.length) (h0 : 0 < w.heap.size) (hh : Hal w) :
    Calls Tryd.prog 4 #[.slice A n c] w fun e w' => e = .returned (.bool true) ∧ Below w.heap.size w w' := by
  have HAW := Lib.hid (awake_any w h0 hh)
  have HY := Lib.hid hb
  have HH := Lib.hid hh
  have HN := Lib.hid hn
  obtain ⟨S, hS⟩ : ∃ S, S = w.heap.size := ⟨_, rfl⟩
  rw [← hS] at HY HAW h0 ⊢
  have HSW := Lib.hid hS
  clear hb hn hh hS
  go_enter Tryd.func4, Tryd.ntmps4
  go_wp2_with fail
  refine HAW.out.mono ?_
  clear HAW
  rintro e w1 ⟨rfl, hb⟩
  have HB1 := Lib.hid hb
  have HY1 := Lib.hid (HY.out.below hb (Nat.le_refl _))
  have HH1 := Lib.hid (HH.out.below hb h0)
  have hs1 : S ≤ w1.heap.size := by have := HSW.out; have := hb.size; omega
  clear hb HY HH
  by_cases h6 : 6000 < n
  · have hq : (6000 : Int) < (n : Int) := by omega
    go_wp2_with fail
    go_ret
    exact ⟨rfl, HB1.out⟩
  have hq : ¬ (6000 : Int) < (n : Int) := by omega
  go_wp2_with fail
  clear hq
  refine (unpack_any A n c l w1 (HY1.out.more hs1) HN.out (by omega) HH1.out (by omega)).mono ?_
  rintro e w2 ⟨A4, c4, rfl, hy, hb⟩
  obtain ⟨n4, hn4⟩ : ∃ n, n = (outT l).length := ⟨_, rfl⟩
  obtain ⟨v, hv⟩ : ∃ v, v = outV l := ⟨_, rfl⟩
  obtain ⟨ue, hue⟩ : ∃ u, u = upE l := ⟨_, rfl⟩
  rw [← hn4, ← hv, ← hue]
  have HN4 := Lib.hid hn4
  have HV := Lib.hid hv
  have HUE := Lib.hid hue
  have HT2 := Lib.hid hy
  have HB2 := Lib.hid (HB1.out.trans (hb.mono hs1))
  have HY2 := Lib.hid (HY1.out.below (hb.mono hs1) (Nat.le_refl _))
  have hs2 : S ≤ w2.heap.size := Nat.le_trans hs1 hb.size
  clear hb hy hn4 hv hue HB1 HY1 HH1
  obtain ⟨X, hX⟩ : ∃ x, x = w2.heap.size := ⟨_, rfl⟩
  obtain ⟨w3, hw3⟩ : ∃ y, y = w2.alloc (.cells #[.int .i64 (v 0), .int .i64 (v 1), .int .i64 (v 2), .int .i64 (v 3), .int .i64 (v 4), .int .i64 (v 5), .int .i64 (v 6), .int .i64 (v 7), .int .i64 (v 8), .int .i64 (v 9), .int .i64 (v 10), .int .i64 (v 11), .int .i64 (v 12), .int .i64 (v 13), .int .i64 (v 14), .int .i64 (v 15), .int .i64 (v 16), .slice A4 n4 c4, .int .i64 (v 18), .int .i64 (v 19), .int .i64 (v 20)] 29) := ⟨_, rfl⟩
  have hal : Below w2.heap.size w2 w3 := by rw [hw3]; exact (Below.refl _ _).alloc (Nat.le_refl _) _
  have hx5 : MAt w3 X v A4 n4 c4 := by rw [hw3, hX]; exact heap_alloc_new w2 _
  have HX := Lib.hid hx5
  have HB3 := Lib.hid (HB2.out.trans (hal.mono hs2))
  have HY3 := Lib.hid (HY2.out.below (hal.mono hs2) (Nat.le_refl _))
  have HT3 := Lib.hid ((HT2.out.below hal (Nat.le_refl _)).more hal.size)
  have hs3 : S ≤ w3.heap.size := Nat.le_trans hs2 hal.size
  have hlX : X < w3.heap.size := ltb hx5
  go_upto_region 7 with (refine wpList_store_row rfl 29 (.tmp 4) (.tmp 17) rfl w2.heap.size _ rfl rfl 29 _ (heap_alloc_new w2 _) (by kernel_rfl) rfl (by simp [Value.oneCell']) ?_; rw [World.setRow_alloc_new])
  rw [← hw3, ← hX]
  clear hal hx5 hw3 hX
  clear HB2 HY2 HT2
  go_wp2_with fail
  refine (runpack_any A n c l w3 (HY3.out.more hs3) HN.out).mono ?_
  rintro e w4 ⟨A5, c5, rfl, hy, hb⟩
  rw [← HN4.out, ← HV.out, ← HUE.out]
  have HU4 := Lib.hid hy
  have HX4 := Lib.hid (HX.out.below hb hlX)
  have HB4 := Lib.hid (HB3.out.trans (hb.mono hs3))
  have HT4 := Lib.hid ((HT3.out.below hb (Nat.le_refl _)).more hb.size)
  have hs4 : S ≤ w4.heap.size := Nat.le_trans hs3 hb.size
  have hlX4 : X < w4.heap.size := Nat.lt_of_lt_of_le hlX hb.size
  clear hb hy HX HB3 HT3 HY3
  obtain ⟨Y, hX⟩ : ∃ x, x = w4.heap.size := ⟨_, rfl⟩
  obtain ⟨w5, hw3⟩ : ∃ y, y = w4.alloc (.cells #[.int .i64 (v 0), .int .i64 (v 1), .int .i64 (v 2), .int .i64 (v 3), .int .i64 (v 4), .int .i64 (v 5), .int .i64 (v 6), .int .i64 (v 7), .int .i64 (v 8), .int .i64 (v 9), .int .i64 (v 10), .int .i64 (v 11), .int .i64 (v 12), .int .i64 (v 13), .int .i64 (v 14), .int .i64 (v 15), .int .i64 (v 16), .slice A5 n4 c5, .int .i64 (v 18), .int .i64 (v 19), .int .i64 (v 20)] 29) := ⟨_, rfl⟩
  have hal : Below w4.heap.size w4 w5 := by rw [hw3]; exact (Below.refl _ _).alloc (Nat.le_refl _) _
  have hx5 : MAt w5 Y v A5 n4 c5 := by rw [hw3, hX]; exact heap_alloc_new w4 _
  have HY := Lib.hid hx5
  have HX5 := Lib.hid (HX4.out.below hal hlX4)
  have HB5 := Lib.hid (HB4.out.trans (hal.mono hs4))
  have HT5 := Lib.hid ((HT4.out.below hal (Nat.le_refl _)).more hal.size)
  have HU5 := Lib.hid ((HU4.out.below hal (Nat.le_refl _)).more hal.size)
  have hs5 : S ≤ w5.heap.size := Nat.le_trans hs4 hal.size
  have hlY : Y < w5.heap.size := ltb hx5
  go_upto_region 8 with (refine wpList_store_row rfl 29 (.tmp 6) (.tmp 22) rfl w4.heap.size _ rfl rfl 29 _ (heap_alloc_new w4 _) (by kernel_rfl) rfl (by simp [Value.oneCell']) ?_; rw [World.setRow_alloc_new])
  rw [← hw3, ← hX]
  clear hal hx5 hw3 hX
  clear HX4 HB4 HT4 HU4
  have HMX := Lib.hid (ld21u HX5.out)
  have HMY := Lib.hid (ld21u HY.out)
  go_wp2_with (first | (refine wpList_load_g rfl 29 (.tmp 4) rfl X rfl 29 _ (0, 0) _ HMX.out Tryd.underlying29 rfl (by kernel_rfl) ?_) | (refine wpList_load_g rfl 29 (.tmp 6) rfl Y rfl 29 _ (0, 0) _ HMY.out Tryd.underlying29 rfl (by kernel_rfl) ?_))
  clear HMX HMY
  refine (same_eq v A4 A5 n4 c4 c5 (outT l) w5 HT5.out HU5.out HN4.out).mono ?_
  rintro e w6 ⟨rfl, hb⟩
  have HB6 := Lib.hid (HB5.out.trans (hb.mono hs5))
  clear hb
  go_wp2_with fail
  go_ret
  exact ⟨rfl, HB6.out⟩
end Go.Proofs.YtkenaoejijpgpaaDoor
