/- What is packed is unpacked. -/
import Derived.Test.YtkenaoejijpgpaaDoorAwk18
import Derived.Test.YtkenaoejijpgpaaDoorBackP
import Derived.Test.YtkenaoejijpgpaaDoorSame18
namespace Go.Proofs.YtkenaoejijpgpaaDoor
open Go.RowKit

theorem ld21 {w : World} {S n c : Nat} {v : Nat → Int} {A : Option Addr} (h : MAt w S v A n c) : w.heap[S]? = some (.cells #[.int .i64 (v 0), .int .i64 (v 1), .int .i64 (v 2), .int .i64 (v 3), .int .i64 (v 4), .int .i64 (v 5), .int .i64 (v 6), .int .i64 (v 7), .int .i64 (v 8), .int .i64 (v 9), .int .i64 (v 10), .int .i64 (v 11), .int .i64 (v 12), .int .i64 (v 13), .int .i64 (v 14), .int .i64 (v 15), .int .i64 (v 16), .slice A n c, .int .i64 (v 18), .int .i64 (v 19), .int .i64 (v 20)] 29 (0, 0)) := h
set_option maxRecDepth 100000 in
set_option maxHeartbeats 8000000 in
theorem law_back (v : Nat → Int) (A : Option Addr) (n c : Nat) (t : List UInt8) (w : World) (hb : BytesIn w w.heap.size A c t) (hn : n = t.length) (h0 : 0 < w.heap.size) (hh : Hal w) :
    Calls Tryd.prog 5 #[.agg #[.int .i64 (v 0), .int .i64 (v 1), .int .i64 (v 2), .int .i64 (v 3), .int .i64 (v 4), .int .i64 (v 5), .int .i64 (v 6), .int .i64 (v 7), .int .i64 (v 8), .int .i64 (v 9), .int .i64 (v 10), .int .i64 (v 11), .int .i64 (v 12), .int .i64 (v 13), .int .i64 (v 14), .int .i64 (v 15), .int .i64 (v 16), .slice A n c, .int .i64 (v 18), .int .i64 (v 19), .int .i64 (v 20)]] w fun e w' => e = .returned (.bool true) ∧ Below w.heap.size w w' := by
  obtain ⟨S, hS⟩ : ∃ S, S = w.heap.size := ⟨_, rfl⟩
  obtain ⟨w0, hw0⟩ : ∃ y, y = w.alloc (.cells #[.int .i64 (v 0), .int .i64 (v 1), .int .i64 (v 2), .int .i64 (v 3), .int .i64 (v 4), .int .i64 (v 5), .int .i64 (v 6), .int .i64 (v 7), .int .i64 (v 8), .int .i64 (v 9), .int .i64 (v 10), .int .i64 (v 11), .int .i64 (v 12), .int .i64 (v 13), .int .i64 (v 14), .int .i64 (v 15), .int .i64 (v 16), .slice A n c, .int .i64 (v 18), .int .i64 (v 19), .int .i64 (v 20)] 29) := ⟨_, rfl⟩
  have hal : Below w.heap.size w w0 := by rw [hw0]; exact (Below.refl w.heap.size w).alloc (Nat.le_refl _) _
  have hm : MAt w0 S v A n c := by rw [hw0, hS]; exact heap_alloc_new w _
  have HM0 := Lib.hid hm
  rw [← hS] at hal hb h0 ⊢
  have HB0 := Lib.hid hal
  have HT0 := Lib.hid (hb.below hal (Nat.le_refl _))
  have HH0 := Lib.hid (hh.below hal h0)
  have HW0 := Lib.hid hw0
  have HSW := Lib.hid hS
  have hs0 : S < w0.heap.size := ltb hm
  have HN := Lib.hid hn
  clear hw0 hal hm hb hn hh hS
  go_enter Tryd.func5, Tryd.ntmps5
  go_upto_region 1 with fail
  rw [← HSW.out, ← HW0.out]
  clear HW0 HSW
  go_wp2_with fail
  refine (awake_any w0 (by omega) HH0.out).mono ?_
  rintro e w1 ⟨rfl, hb⟩
  have HM1 := Lib.hid (HM0.out.below hb hs0)
  have HB1 := Lib.hid (HB0.out.trans (hb.mono (Nat.le_of_lt hs0)))
  have HT1 := Lib.hid (HT0.out.below (hb.mono (Nat.le_of_lt hs0)) (Nat.le_refl _))
  have HH1 := Lib.hid (HH0.out.below hb (by omega))
  have hs1 : S < w1.heap.size := Nat.lt_of_lt_of_le hs0 hb.size
  clear hb HM0 HB0 HT0 HH0 hs0
  have m17 := cellb (i := 17) HM1.out rfl
  by_cases h5 : 5000 < n
  · have hq : (5000 : Int) < (n : Int) := by omega
    go_wp2_with fail
    go_ret
    exact ⟨rfl, HB1.out⟩
  have hq : ¬ (5000 : Int) < (n : Int) := by omega
  have HMU := Lib.hid (ld21 HM1.out)
  go_wp2_with (refine wpList_load_row rfl 29 _ rfl S rfl 29 _ (0, 0) _ HMU.out Tryd.underlying29 rfl (by kernel_rfl) ?_)
  clear m17 hq HMU
  by_cases hok : OkM v n
  · have HOK := Lib.hid hok
    clear hok
    refine (pack_ok v A n c t w1 (HT1.out.more (Nat.le_of_lt hs1)) HN.out HH1.out (by omega) HOK.out).mono ?_
    rintro e w2 ⟨A2, c2, rfl, ho, hb⟩
    obtain ⟨F, hF⟩ : ∃ F, F = frameOf (bodyV v t) := ⟨_, rfl⟩
    obtain ⟨m, hm⟩ : ∃ m, m = (bodyV v t).length + 8 := ⟨_, rfl⟩
    have hml : m = F.length := by rw [hF, hm, frameOf_length]
    rw [← hF, ← hm] at ho
    rw [← hm]
    have HO2 := Lib.hid ho
    have HML := Lib.hid hml
    have hfl := bodyV_len (t := t) (HN.out ▸ HOK.out)
    have hm8 : m ≤ 100000000 := by omega
    have hun := pack_unp (t := t) (HN.out ▸ HOK.out)
    rw [← hF] at hun
    have HUN := Lib.hid hun
    have HM2 := Lib.hid (HM1.out.below hb hs1)
    have HB2 := Lib.hid (HB1.out.trans (hb.mono (Nat.le_of_lt hs1)))
    have HT2 := Lib.hid (HT1.out.below (hb.mono (Nat.le_of_lt hs1)) (Nat.le_refl _))
    have HH2 := Lib.hid (HH1.out.below hb (by omega))
    have hs2 : S < w2.heap.size := Nat.lt_of_lt_of_le hs1 hb.size
    clear hb HM1 HB1 HT1 HH1 ho hF hm hml hun hfl
    have HMU := Lib.hid (ld21 HM2.out)
    go_wp2_with (refine wpList_load_row rfl 29 _ rfl S rfl 29 _ (0, 0) _ HMU.out Tryd.underlying29 rfl (by kernel_rfl) ?_)
    clear HMU
    refine (check_any v A n c w2).mono ?_
    rintro e w3 ⟨b, rfl, hbk, hb⟩
    obtain rfl : b = true := hbk.2 HOK.out
    have HO3 : Hid (w3.ownsRow w1.heap.size 5 1 (.slice A2 m c2) m (cells8 F)) := Lib.hid (HO2.out.kept (grown_of_below hb none) (by cases A2 <;> simp [Value.ownBlock]))
    have HM3 := Lib.hid (HM2.out.below hb hs2)
    have HB3 := Lib.hid (HB2.out.trans (hb.mono (Nat.le_of_lt hs2)))
    have HT3 := Lib.hid (HT2.out.below (hb.mono (Nat.le_of_lt hs2)) (Nat.le_refl _))
    have HH3 := Lib.hid (HH2.out.below hb (by omega))
    have hs3 : S < w3.heap.size := Nat.lt_of_lt_of_le hs2 hb.size
    clear hb hbk HM2 HB2 HT2 HH2 HO2
    go_wp2_with fail
    refine (unpack_any A2 m c2 F w3 (bytesIn_of_own HO3.out).2 HML.out hm8 HH3.out (by omega)).mono ?_
    rintro e w4 ⟨A4, c4, rfl, hy, hb⟩
    rw [HUN.out.1, HUN.out.2.1]
    rw [HUN.out.2.1] at hy
    rw [HUN.out.2.2 0 (by omega) (by omega), HUN.out.2.2 1 (by omega) (by omega), HUN.out.2.2 2 (by omega) (by omega), HUN.out.2.2 3 (by omega) (by omega), HUN.out.2.2 4 (by omega) (by omega), HUN.out.2.2 5 (by omega) (by omega), HUN.out.2.2 6 (by omega) (by omega), HUN.out.2.2 7 (by omega) (by omega), HUN.out.2.2 8 (by omega) (by omega), HUN.out.2.2 9 (by omega) (by omega), HUN.out.2.2 10 (by omega) (by omega), HUN.out.2.2 11 (by omega) (by omega), HUN.out.2.2 12 (by omega) (by omega), HUN.out.2.2 13 (by omega) (by omega), HUN.out.2.2 14 (by omega) (by omega), HUN.out.2.2 15 (by omega) (by omega), HUN.out.2.2 16 (by omega) (by omega), HUN.out.2.2 18 (by omega) (by omega), HUN.out.2.2 19 (by omega) (by omega), HUN.out.2.2 20 (by omega) (by omega)]
    rw [← HN.out]
    have HM4 := Lib.hid (HM3.out.below hb hs3)
    have HB4 := Lib.hid (HB3.out.trans (hb.mono (Nat.le_of_lt hs3)))
    have HT4 := Lib.hid (HT3.out.below (hb.mono (Nat.le_of_lt hs3)) (Nat.le_refl _))
    have HY4 := Lib.hid hy
    have hs4 : S < w4.heap.size := Nat.lt_of_lt_of_le hs3 hb.size
    clear hb hy HM3 HB3 HT3 HH3 HO3 HUN
    obtain ⟨X, hX⟩ : ∃ x, x = w4.heap.size := ⟨_, rfl⟩
    obtain ⟨w5, hw5⟩ : ∃ y, y = w4.alloc (.cells #[.int .i64 (v 0), .int .i64 (v 1), .int .i64 (v 2), .int .i64 (v 3), .int .i64 (v 4), .int .i64 (v 5), .int .i64 (v 6), .int .i64 (v 7), .int .i64 (v 8), .int .i64 (v 9), .int .i64 (v 10), .int .i64 (v 11), .int .i64 (v 12), .int .i64 (v 13), .int .i64 (v 14), .int .i64 (v 15), .int .i64 (v 16), .slice A4 n c4, .int .i64 (v 18), .int .i64 (v 19), .int .i64 (v 20)] 29) := ⟨_, rfl⟩
    have hal : Below w4.heap.size w4 w5 := by rw [hw5]; exact (Below.refl _ _).alloc (Nat.le_refl _) _
    have hx5 : MAt w5 X v A4 n c4 := by rw [hw5, hX]; exact heap_alloc_new w4 _
    have HX5 := Lib.hid hx5
    have HM5 := Lib.hid (HM4.out.below hal hs4)
    have HB5 := Lib.hid (HB4.out.trans (hal.mono (Nat.le_of_lt hs4)))
    have HT5 := Lib.hid ((HT4.out.below (hal.mono (Nat.le_of_lt hs4)) (Nat.le_refl _)).more (Nat.le_trans (Nat.le_of_lt hs4) hal.size))
    have HY5 := Lib.hid ((HY4.out.below hal (Nat.le_refl _)).more hal.size)
    have hs5 : S < w5.heap.size := Nat.lt_of_lt_of_le hs4 hal.size
    clear hal hx5 HM4 HB4 HT4 HY4
    go_upto_region 10 with (refine wpList_store_row rfl 29 (.tmp 5) (.tmp 25) rfl w4.heap.size _ rfl rfl 29 _ (heap_alloc_new w4 _) (by kernel_rfl) rfl (by simp [Value.oneCell']) ?_; rw [World.setRow_alloc_new])
    rw [← hw5, ← hX]
    clear hw5 hX
    have HMU := Lib.hid (ld21 HM5.out)
    have HMX := Lib.hid (ld21 HX5.out)
    go_wp2_with (first | (refine wpList_load_g rfl 29 (.tmp 5) rfl X rfl 29 _ (0, 0) _ HMX.out Tryd.underlying29 rfl (by kernel_rfl) ?_) | (refine wpList_load_g rfl 29 (.tmp 1) rfl S rfl 29 _ (0, 0) _ HMU.out Tryd.underlying29 rfl (by kernel_rfl) ?_))
    clear HMU HMX
    refine (same_eq v A4 A n c4 c t w5 HY5.out HT5.out HN.out).mono ?_
    rintro e w6 ⟨rfl, hb⟩
    have HB6 := Lib.hid (HB5.out.trans (hb.mono (Nat.le_of_lt hs5)))
    clear hb
    go_wp2_with fail
    go_ret
    exact ⟨rfl, HB6.out⟩
  · have HOK := Lib.hid hok
    clear hok
    refine (pack_no v A n c t w1 (HT1.out.more (Nat.le_of_lt hs1)) HN.out HH1.out (by omega) HOK.out).mono ?_
    rintro e w2 ⟨rfl, hb⟩
    have HM2 := Lib.hid (HM1.out.below hb hs1)
    have HB2 := Lib.hid (HB1.out.trans (hb.mono (Nat.le_of_lt hs1)))
    have hs2 : S < w2.heap.size := Nat.lt_of_lt_of_le hs1 hb.size
    clear hb HM1 HB1 HT1 HH1
    have HMU := Lib.hid (ld21 HM2.out)
    go_wp2_with (refine wpList_load_row rfl 29 _ rfl S rfl 29 _ (0, 0) _ HMU.out Tryd.underlying29 rfl (by kernel_rfl) ?_)
    clear HMU
    refine (check_any v A n c w2).mono ?_
    rintro e w3 ⟨b, rfl, hbk, hb⟩
    obtain rfl : b = false := by
      cases b
      · rfl
      · exact absurd (hbk.1 rfl) HOK.out
    have HB3 := Lib.hid (HB2.out.trans (hb.mono (Nat.le_of_lt hs2)))
    clear hb hbk HB2 HM2
    go_wp2_with fail
    go_ret
    exact ⟨rfl, HB3.out⟩
end Go.Proofs.YtkenaoejijpgpaaDoor
