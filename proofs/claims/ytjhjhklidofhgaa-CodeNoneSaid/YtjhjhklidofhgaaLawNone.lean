/- The law CodeNone: the walk. -/
import Derived.Test.YtjhjhklidofhgaaEncN
import Derived.Test.YtjhjhklidofhgaaRdR
namespace Go.Proofs.Ytjhjhklidofhgaa
open Go.RowKit

theorem vt_read (s : List UInt8) (hs : s.length ≤ 100000000) : ruN ⟨vtext s, 0⟩ = s.length ∧ ruS ⟨vtext s, 0⟩ = ⟨s, 0⟩ := ru_put s.length s (by omega)
theorem vt_big (s : List UInt8) (most : Int) (hs : s.length ≤ 100000000) (h : top most < s.length) : rtL ⟨vtext s, 0⟩ most = [] ∧ rtS ⟨vtext s, 0⟩ most = ⟨[], 11⟩ := by
  obtain ⟨h1, h2⟩ := vt_read s hs
  have e : rcS ⟨vtext s, 0⟩ most = ⟨[], 11⟩ := by unfold rcS; rw [h1, if_pos h, h2, rfail_11 _ rfl]
  unfold rtL rtS
  rw [e, if_neg (by simp), if_neg (by simp)]
  exact ⟨rfl, rfl⟩
theorem vt_ok (s t : List UInt8) (most : Int) (hs : s.length ≤ 100000000) (h : ¬ top most < s.length) : rtL ⟨vtext s ++ t, 0⟩ most = s ∧ rtS ⟨vtext s ++ t, 0⟩ most = ⟨t, 0⟩ := by
  obtain ⟨h1, h2⟩ := ru_put s.length (s ++ t) (by omega)
  have e0 : vtext s ++ t = vb s.length ++ (s ++ t) := by unfold vtext; rw [List.append_assoc]
  rw [e0]
  have e1 : rcS ⟨vb s.length ++ (s ++ t), 0⟩ most = ⟨s ++ t, 0⟩ := by unfold rcS; rw [h1, if_neg h, h2]
  have e2 : rcN ⟨vb s.length ++ (s ++ t), 0⟩ most = s.length := by unfold rcN; rw [h1, if_neg h]
  unfold rtL rtS
  rw [e1, e2]
  simp only
  rw [if_pos ⟨trivial, by rw [List.length_append]; omega⟩, if_pos trivial, if_pos (by rw [List.length_append]; omega)]
  simp
theorem rend_nil (e : Int) : rendS ⟨[], e⟩ = ⟨[], e⟩ := rfl

set_option maxHeartbeats 2000000 in
theorem law_none (s : List UInt8) (most : Int) (hm : most ≤ 9223372036854775807) (w : World) (hs : s.length ≤ 9223372036854775807) :
    Calls Try.prog 6 #[.string (str s), .int .i64 most] w fun e w' => e = .returned (.bool true) ∧ Below w.heap.size w w' := by
  have hz : (str s).size = s.length := str_size s
  by_cases hbig : 10000 < s.length
  · go_enter Try.func6, Try.ntmps6
    go_wp2_with fail
    refine (awake_any w).mono ?_
    rintro e w1 ⟨rfl, hb1⟩
    have HB1 := Lib.hid hb1
    clear hb1
    go_wp2_with fail
    go_ret
    exact ⟨rfl, HB1.out⟩
  · have hvt : (vtext s).length ≤ 10010 := by
      unfold vtext
      rw [List.length_append]
      have := vb_len10 s.length (by omega)
      omega
    have HVT := Lib.hid hvt
    have hl8 : s.length ≤ 100000000 := by omega
    by_cases hbad : top most < s.length
    · obtain ⟨e1, e2⟩ := vt_big s most hl8 hbad
      have E1 := Lib.hid e1
      have E2 := Lib.hid e2
      clear e1 e2 hvt hs
      by_cases hneg : most < 0
      · have hn0 : 0 < s.length := by rw [top_neg hneg] at hbad; exact hbad
        clear hbad
        go_enter Try.func6, Try.ntmps6
        go_wp2_with fail
        refine (awake_any w).mono ?_
        rintro e w1 ⟨rfl, hb1⟩
        have HB1 := Lib.hid hb1
        have hs1 : w.heap.size ≤ w1.heap.size := hb1.size
        clear hb1
        go_wp2_with fail
        refine (fail_nil 11 w1).mono ?_
        rintro e w' ⟨rfl, rfl⟩
        go_wp2_with fail
        refine (ru_nil w1).mono ?_
        rintro e w' ⟨rfl, rfl⟩
        go_wp2_with fail
        refine (ri_nil w1).mono ?_
        rintro e w' ⟨rfl, rfl⟩
        go_wp2_with fail
        refine (rt_nil 5 (by omega) w1).mono ?_
        rintro e w' ⟨rfl, rfl⟩
        go_wp2_with fail
        refine (rl_nil 5 (by omega) w1).mono ?_
        rintro e w' ⟨rfl, rfl⟩
        go_wp2_with fail
        refine (left_nil w1).mono ?_
        rintro e w' ⟨rfl, rfl⟩
        go_wp2_with fail
        refine (err_nil w1).mono ?_
        rintro e w' ⟨rfl, rfl⟩
        go_wp2_with fail
        refine (end_nil w1).mono ?_
        rintro e w' ⟨rfl, rfl⟩
        go_wp2_with fail
        refine (et_nil s w1 hl8).mono ?_
        rintro e w2 ⟨A2, c2, rfl, ho2, hb2⟩
        have HB2 := Lib.hid (HB1.out.trans (hb2.mono hs1))
        have hs2 : w1.heap.size ≤ w2.heap.size := hb2.size
        have HY2 := Lib.hid (bytesIn_of_own ho2).2
        clear ho2 hb2
        go_wp2_with fail
        refine (read_any A2 c2 _ w2.heap.size (vtext s) w2 HY2.out rfl (Nat.le_refl _)).mono ?_
        rintro e w3 ⟨rfl, hr3, hw3⟩
        have HC3 : Hid (Chg NoBlk w2 w3) := by rw [← hw3]; exact (Chg.refl _ _).alloc _
        obtain ⟨g, hg⟩ : ∃ g, g = w2.heap.size := ⟨_, rfl⟩
        rw [← hg] at hr3 ⊢
        have HR3 := Lib.hid hr3
        have hgl : g < w3.heap.size := hr3.glt
        have HB3 : Hid (Below w.heap.size w w3) := Lib.hid (HB2.out.trans (HC3.out.below (by omega) (fun _ _ h => h)))
        have hgw : w.heap.size ≤ g := by omega
        clear hw3 hr3 hg
        go_wp2_with fail
        refine (rt_any g g ⟨vtext s, 0⟩ A2 c2 _ (by omega) w3 HR3.out).mono ?_
        rw [E1.out, E2.out]
        rintro e w4 ⟨rfl, hr4⟩
        have HB4 := Lib.hid (HB3.out.trans (hr4.chg.below (B := w.heap.size) (by omega) (fun k hk e => by omega)))
        obtain ⟨A4, c4, hr5⟩ := hr4.open_
        have HR4 := Lib.hid hr5
        have hgl4 := hr5.glt
        clear hr4 hr5
        go_wp2_with fail
        refine (err_any g g _ A4 c4 w4 HR4.out).mono ?_
        rintro e w' ⟨rfl, rfl⟩
        go_wp2_with fail
        go_ret
        exact ⟨rfl, HB4.out⟩
      · obtain ⟨m, rfl⟩ := Int.eq_ofNat_of_zero_le (show 0 ≤ most by omega)
        have hmn : m < s.length := by rw [top_nat] at hbad; exact hbad
        clear hbad hneg
        go_enter Try.func6, Try.ntmps6
        go_wp2_with fail
        refine (awake_any w).mono ?_
        rintro e w1 ⟨rfl, hb1⟩
        have HB1 := Lib.hid hb1
        have hs1 : w.heap.size ≤ w1.heap.size := hb1.size
        clear hb1
        go_wp2_with fail
        refine (fail_nil 11 w1).mono ?_
        rintro e w' ⟨rfl, rfl⟩
        go_wp2_with fail
        refine (ru_nil w1).mono ?_
        rintro e w' ⟨rfl, rfl⟩
        go_wp2_with fail
        refine (ri_nil w1).mono ?_
        rintro e w' ⟨rfl, rfl⟩
        go_wp2_with fail
        refine (rt_nil 5 (by omega) w1).mono ?_
        rintro e w' ⟨rfl, rfl⟩
        go_wp2_with fail
        refine (rl_nil 5 (by omega) w1).mono ?_
        rintro e w' ⟨rfl, rfl⟩
        go_wp2_with fail
        refine (left_nil w1).mono ?_
        rintro e w' ⟨rfl, rfl⟩
        go_wp2_with fail
        refine (err_nil w1).mono ?_
        rintro e w' ⟨rfl, rfl⟩
        go_wp2_with fail
        refine (end_nil w1).mono ?_
        rintro e w' ⟨rfl, rfl⟩
        go_wp2_with fail
        refine (et_nil s w1 hl8).mono ?_
        rintro e w2 ⟨A2, c2, rfl, ho2, hb2⟩
        have HB2 := Lib.hid (HB1.out.trans (hb2.mono hs1))
        have hs2 : w1.heap.size ≤ w2.heap.size := hb2.size
        have HY2 := Lib.hid (bytesIn_of_own ho2).2
        clear ho2 hb2
        go_wp2_with fail
        refine (read_any A2 c2 _ w2.heap.size (vtext s) w2 HY2.out rfl (Nat.le_refl _)).mono ?_
        rintro e w3 ⟨rfl, hr3, hw3⟩
        have HC3 : Hid (Chg NoBlk w2 w3) := by rw [← hw3]; exact (Chg.refl _ _).alloc _
        obtain ⟨g, hg⟩ : ∃ g, g = w2.heap.size := ⟨_, rfl⟩
        rw [← hg] at hr3 ⊢
        have HR3 := Lib.hid hr3
        have hgl : g < w3.heap.size := hr3.glt
        have HB3 : Hid (Below w.heap.size w w3) := Lib.hid (HB2.out.trans (HC3.out.below (by omega) (fun _ _ h => h)))
        have hgw : w.heap.size ≤ g := by omega
        clear hw3 hr3 hg
        go_wp2_with fail
        refine (rt_any g g ⟨vtext s, 0⟩ A2 c2 _ (by omega) w3 HR3.out).mono ?_
        rw [E1.out, E2.out]
        rintro e w4 ⟨rfl, hr4⟩
        have HB4 := Lib.hid (HB3.out.trans (hr4.chg.below (B := w.heap.size) (by omega) (fun k hk e => by omega)))
        obtain ⟨A4, c4, hr5⟩ := hr4.open_
        have HR4 := Lib.hid hr5
        have hgl4 := hr5.glt
        clear hr4 hr5
        go_wp2_with fail
        refine (err_any g g _ A4 c4 w4 HR4.out).mono ?_
        rintro e w' ⟨rfl, rfl⟩
        go_wp2_with fail
        go_ret
        exact ⟨rfl, HB4.out⟩
    · obtain ⟨e1, e2⟩ := vt_ok s [] most hl8 hbad
      rw [List.append_nil] at e1 e2
      have E1 := Lib.hid e1
      have E2 := Lib.hid e2
      clear e1 e2 hvt hs
      by_cases hneg : most < 0
      · have hn0 : ¬ 0 < s.length := by rw [top_neg hneg] at hbad; exact hbad
        clear hbad
        go_enter Try.func6, Try.ntmps6
        go_wp2_with fail
        refine (awake_any w).mono ?_
        rintro e w1 ⟨rfl, hb1⟩
        have HB1 := Lib.hid hb1
        have hs1 : w.heap.size ≤ w1.heap.size := hb1.size
        clear hb1
        go_wp2_with fail
        refine (fail_nil 11 w1).mono ?_
        rintro e w' ⟨rfl, rfl⟩
        go_wp2_with fail
        refine (ru_nil w1).mono ?_
        rintro e w' ⟨rfl, rfl⟩
        go_wp2_with fail
        refine (ri_nil w1).mono ?_
        rintro e w' ⟨rfl, rfl⟩
        go_wp2_with fail
        refine (rt_nil 5 (by omega) w1).mono ?_
        rintro e w' ⟨rfl, rfl⟩
        go_wp2_with fail
        refine (rl_nil 5 (by omega) w1).mono ?_
        rintro e w' ⟨rfl, rfl⟩
        go_wp2_with fail
        refine (left_nil w1).mono ?_
        rintro e w' ⟨rfl, rfl⟩
        go_wp2_with fail
        refine (err_nil w1).mono ?_
        rintro e w' ⟨rfl, rfl⟩
        go_wp2_with fail
        refine (end_nil w1).mono ?_
        rintro e w' ⟨rfl, rfl⟩
        go_wp2_with fail
        refine (et_nil s w1 hl8).mono ?_
        rintro e w2 ⟨A2, c2, rfl, ho2, hb2⟩
        have HB2 := Lib.hid (HB1.out.trans (hb2.mono hs1))
        have hs2 : w1.heap.size ≤ w2.heap.size := hb2.size
        have HY2 := Lib.hid (bytesIn_of_own ho2).2
        clear ho2 hb2
        go_wp2_with fail
        refine (read_any A2 c2 _ w2.heap.size (vtext s) w2 HY2.out rfl (Nat.le_refl _)).mono ?_
        rintro e w3 ⟨rfl, hr3, hw3⟩
        have HC3 : Hid (Chg NoBlk w2 w3) := by rw [← hw3]; exact (Chg.refl _ _).alloc _
        obtain ⟨g, hg⟩ : ∃ g, g = w2.heap.size := ⟨_, rfl⟩
        rw [← hg] at hr3 ⊢
        have HR3 := Lib.hid hr3
        have hgl : g < w3.heap.size := hr3.glt
        have HB3 : Hid (Below w.heap.size w w3) := Lib.hid (HB2.out.trans (HC3.out.below (by omega) (fun _ _ h => h)))
        have hgw : w.heap.size ≤ g := by omega
        clear hw3 hr3 hg
        go_wp2_with fail
        refine (rt_any g g ⟨vtext s, 0⟩ A2 c2 _ (by omega) w3 HR3.out).mono ?_
        rw [E1.out, E2.out]
        rintro e w4 ⟨rfl, hr4⟩
        have HB4 := Lib.hid (HB3.out.trans (hr4.chg.below (B := w.heap.size) (by omega) (fun k hk e => by omega)))
        obtain ⟨A4, c4, hr5⟩ := hr4.open_
        have HR4 := Lib.hid hr5
        have hgl4 := hr5.glt
        clear hr4 hr5
        go_wp2_with fail
        refine (end_any g g _ A4 c4 w4 HR4.out).mono ?_
        rw [rend_nil]
        rintro e w5 ⟨rfl, hr5⟩
        have HB5 := Lib.hid (HB4.out.trans (hr5.chg.below (B := w.heap.size) (by omega) (fun k hk e => by omega)))
        clear hr5
        go_wp2_with fail
        go_ret
        exact ⟨rfl, HB5.out⟩
      · obtain ⟨m, rfl⟩ := Int.eq_ofNat_of_zero_le (show 0 ≤ most by omega)
        have hmn : ¬ m < s.length := by rw [top_nat] at hbad; exact hbad
        clear hbad hneg
        go_enter Try.func6, Try.ntmps6
        go_wp2_with fail
        refine (awake_any w).mono ?_
        rintro e w1 ⟨rfl, hb1⟩
        have HB1 := Lib.hid hb1
        have hs1 : w.heap.size ≤ w1.heap.size := hb1.size
        clear hb1
        go_wp2_with fail
        refine (fail_nil 11 w1).mono ?_
        rintro e w' ⟨rfl, rfl⟩
        go_wp2_with fail
        refine (ru_nil w1).mono ?_
        rintro e w' ⟨rfl, rfl⟩
        go_wp2_with fail
        refine (ri_nil w1).mono ?_
        rintro e w' ⟨rfl, rfl⟩
        go_wp2_with fail
        refine (rt_nil 5 (by omega) w1).mono ?_
        rintro e w' ⟨rfl, rfl⟩
        go_wp2_with fail
        refine (rl_nil 5 (by omega) w1).mono ?_
        rintro e w' ⟨rfl, rfl⟩
        go_wp2_with fail
        refine (left_nil w1).mono ?_
        rintro e w' ⟨rfl, rfl⟩
        go_wp2_with fail
        refine (err_nil w1).mono ?_
        rintro e w' ⟨rfl, rfl⟩
        go_wp2_with fail
        refine (end_nil w1).mono ?_
        rintro e w' ⟨rfl, rfl⟩
        go_wp2_with fail
        refine (et_nil s w1 hl8).mono ?_
        rintro e w2 ⟨A2, c2, rfl, ho2, hb2⟩
        have HB2 := Lib.hid (HB1.out.trans (hb2.mono hs1))
        have hs2 : w1.heap.size ≤ w2.heap.size := hb2.size
        have HY2 := Lib.hid (bytesIn_of_own ho2).2
        clear ho2 hb2
        go_wp2_with fail
        refine (read_any A2 c2 _ w2.heap.size (vtext s) w2 HY2.out rfl (Nat.le_refl _)).mono ?_
        rintro e w3 ⟨rfl, hr3, hw3⟩
        have HC3 : Hid (Chg NoBlk w2 w3) := by rw [← hw3]; exact (Chg.refl _ _).alloc _
        obtain ⟨g, hg⟩ : ∃ g, g = w2.heap.size := ⟨_, rfl⟩
        rw [← hg] at hr3 ⊢
        have HR3 := Lib.hid hr3
        have hgl : g < w3.heap.size := hr3.glt
        have HB3 : Hid (Below w.heap.size w w3) := Lib.hid (HB2.out.trans (HC3.out.below (by omega) (fun _ _ h => h)))
        have hgw : w.heap.size ≤ g := by omega
        clear hw3 hr3 hg
        go_wp2_with fail
        refine (rt_any g g ⟨vtext s, 0⟩ A2 c2 _ (by omega) w3 HR3.out).mono ?_
        rw [E1.out, E2.out]
        rintro e w4 ⟨rfl, hr4⟩
        have HB4 := Lib.hid (HB3.out.trans (hr4.chg.below (B := w.heap.size) (by omega) (fun k hk e => by omega)))
        obtain ⟨A4, c4, hr5⟩ := hr4.open_
        have HR4 := Lib.hid hr5
        have hgl4 := hr5.glt
        clear hr4 hr5
        go_wp2_with fail
        refine (end_any g g _ A4 c4 w4 HR4.out).mono ?_
        rw [rend_nil]
        rintro e w5 ⟨rfl, hr5⟩
        have HB5 := Lib.hid (HB4.out.trans (hr5.chg.below (B := w.heap.size) (by omega) (fun k hk e => by omega)))
        clear hr5
        go_wp2_with fail
        go_ret
        exact ⟨rfl, HB5.out⟩
end Go.Proofs.Ytjhjhklidofhgaa
