/- The law CodeOne: the walk. -/
import Derived.Test.YtjhjhklidofhgaaEncN
import Derived.Test.YtjhjhklidofhgaaRdR
import Derived.IntWalk
namespace Go.Proofs.Ytjhjhklidofhgaa
open Go.RowKit

set_option maxHeartbeats 2000000 in
theorem law_one (A : Option Addr) (c n : Nat) (l : List UInt8) (w : World) (h : BytesIn w w.heap.size A c l) (hn : n = l.length) :
    Calls Try.prog 3 #[.slice A n c] w fun e w' => e = .returned (.bool true) ∧ Below w.heap.size w w' := by
  have hc1 := h.cap
  have hnc : n ≤ c := by have := h.le; omega
  have HN := Lib.hid hn
  have HB := Lib.hid h
  clear h hn
  go_enter Try.func3, Try.ntmps3
  go_wp2_with fail
  refine (awake_any w).mono ?_
  rintro e w1 ⟨rfl, hb1⟩
  have HB1 := Lib.hid hb1
  have hs1 : w.heap.size ≤ w1.heap.size := hb1.size
  clear hb1
  by_cases hbig : 10000 < n
  · go_wp2_with fail
    go_ret
    exact ⟨rfl, HB1.out⟩
  · go_wp2_with fail
    have HY1 := Lib.hid (HB.out.below HB1.out (Nat.le_refl _))
    refine (read_any A c n w.heap.size l w1 HY1.out HN.out hs1).mono ?_
    rintro e w2 ⟨rfl, hr2, hw2⟩
    have hgl : w1.heap.size < w2.heap.size := hr2.glt
    have HC2 : Hid (Chg NoBlk w1 w2) := by rw [← hw2]; exact (Chg.refl _ _).alloc _
    obtain ⟨g, hg⟩ : ∃ g, g = w1.heap.size := ⟨_, rfl⟩
    rw [← hg] at hr2 hgl ⊢
    have HR2 := Lib.hid hr2
    have HB2 : Hid (Below w.heap.size w w2) := Lib.hid (HB1.out.trans (HC2.out.below hs1 (fun _ _ h => h)))
    have hgw : w.heap.size ≤ g := by omega
    clear hw2 hr2 hg
    go_wp2_with fail
    refine (ru_any w.heap.size g ⟨l, 0⟩ A c w2 HR2.out).mono ?_
    rintro e w3 ⟨rfl, hr3⟩
    obtain ⟨A3, c3, hr4⟩ := hr3.open_
    have HR3 := Lib.hid hr4
    have HB3 := Lib.hid (HB2.out.trans (hr3.chg.below (B := w.heap.size) (by omega) (fun k hk e => by omega)))
    have hs3 : w2.heap.size ≤ w3.heap.size := hr3.chg.size
    clear hr3 hr4
    go_wp2_with fail
    refine (err_any w.heap.size g _ A3 c3 w3 HR3.out).mono ?_
    rintro e w' ⟨rfl, rfl⟩
    by_cases he : (ruS ⟨l, 0⟩).e = 0
    · have hl := ru_ok he
      obtain ⟨x, hx⟩ : ∃ x, x = ruN ⟨l, 0⟩ := ⟨_, rfl⟩
      have hxl : x < 18446744073709551616 := by rw [hx]; exact ruN_lt _
      have hri : riN ⟨l, 0⟩ = unzz x := by rw [hx]; rfl
      obtain ⟨t, ht⟩ : ∃ t, t = (ruS ⟨l, 0⟩).l := ⟨_, rfl⟩
      rw [← hx, ← ht] at hl
      have hub := unzz_bd x hxl
      have hzz : zz (unzz x) = x := zz_unzz x
      have HX := Lib.hid hx
      have HXL := Lib.hid hxl
      have HT := Lib.hid ht
      have HL := Lib.hid hl
      have HE := Lib.hid he
      rw [he, ← hx]
      have HRI := Lib.hid hri
      have HZZ := Lib.hid hzz
      have HUB := Lib.hid hub
      clear hx hxl ht hl he hri hzz hub
      go_wp2_with fail
      refine (eu_nil x w3 HXL.out).mono ?_
      rintro e w4 ⟨A4, c4, rfl, ho4, hb4⟩
      obtain ⟨m, hm⟩ : ∃ m, m = (vb x).length := ⟨_, rfl⟩
      rw [← hm] at ho4 ⊢
      have hs4 : w3.heap.size ≤ w4.heap.size := hb4.size
      have HM := Lib.hid hm
      have HO4 := Lib.hid ho4
      have HB4 := Lib.hid (HB3.out.trans (hb4.mono (by omega)))
      have HR4 := Lib.hid (HR3.out.chg0 (Chg.of_below hb4))
      have HY4 := Lib.hid (HB.out.below HB4.out (Nat.le_refl _))
      clear hm ho4 hb4
      go_wp2_with fail
      refine (read_any A c n w.heap.size l w4 HY4.out HN.out (by omega)).mono ?_
      rintro e w5 ⟨rfl, hr5, hw5⟩
      have hgl5 : w4.heap.size < w5.heap.size := hr5.glt
      have HC5 : Hid (Chg NoBlk w4 w5) := by rw [← hw5]; exact (Chg.refl _ _).alloc _
      obtain ⟨g2, hg2⟩ : ∃ g, g = w4.heap.size := ⟨_, rfl⟩
      rw [← hg2] at hr5 hgl5 ⊢
      have HR5 := Lib.hid hr5
      have HB5 : Hid (Below w.heap.size w w5) := Lib.hid (HB4.out.trans (HC5.out.below (by omega) (fun _ _ h => h)))
      have HO5 := Lib.hid (HC5.out.own HO4.out (fun _ _ h => h))
      have HRr5 := Lib.hid (HR4.out.chg0 HC5.out)
      have hgw2 : w4.heap.size ≤ g2 := by omega
      have hw3g : w3.heap.size ≤ g2 := by omega
      have hgg : g < g2 := by have := HR3.out.glt; omega
      have HOl := Lib.hid (fun k hk => (HO4.out.lt k hk))
      clear hw5 hr5 hg2
      go_wp2_with fail
      refine (ri_any w.heap.size g2 ⟨l, 0⟩ A c w5 HR5.out).mono ?_
      rw [HRI.out]
      rintro e w6 ⟨rfl, hr6⟩
      have HC6 := Lib.hid hr6.chg
      have HB6 := Lib.hid (HB5.out.trans (hr6.chg.below (B := w.heap.size) (by omega) (fun k hk e => by omega)))
      have HO6 := Lib.hid (hr6.chg.own HO5.out (fun k hk e => by have := (HOl.out k hk).2; omega))
      have HRr6 := Lib.hid (HRr5.out.chg HC6.out (by omega) (fun k hk e => by omega))
      have hs6 : w5.heap.size ≤ w6.heap.size := hr6.chg.size
      clear hr6
      go_wp2_with fail
      refine (ei_nil (unzz x) w6 HUB.out).mono ?_
      rw [HZZ.out, ← HM.out]
      rintro e w7 ⟨A7, c7, rfl, ho7, hb7⟩
      have HB7 := Lib.hid (HB6.out.trans (hb7.mono (by omega)))
      have HO7 := Lib.hid ho7
      have HOx := Lib.hid (HO6.out.kept (grown_of_below hb7 none) (by cases A4 <;> simp [Value.ownBlock]))
      have HRr7 := Lib.hid (HRr6.out.chg0 (Chg.of_below hb7))
      have hmn : m ≤ n := by
        have h1 := congrArg List.length HL.out
        rw [List.length_append] at h1
        have := HM.out
        have := HN.out
        omega
      obtain ⟨q, hq⟩ : ∃ q, q = t.length := ⟨_, rfl⟩
      have hnq : n = m + q := by
        have h1 := congrArg List.length HL.out
        rw [List.length_append, ← HM.out, ← HN.out, ← hq] at h1
        exact h1
      have HQ : Hid (q = (ruS ⟨l, 0⟩).l.length) := Lib.hid (by rw [← HT.out]; exact hq)
      have htake : l.take m = vb x := by
        have h1 := HL.out
        rw [h1, HM.out, List.take_left]
      have HY7 := (HB.out.below HB7.out (Nat.le_refl _))
      have z1 : ∀ k, (convert 22 9 (.slice A4 m c4)).run Try.prog (w7.drewN k) = .ok (.string (str (vb x))) (w7.drewN k) := fun k => conv_l (w := w7.drewN k) HOx.out
      have z2 : ∀ k, (convert 22 9 (.slice A7 m c7)).run Try.prog (w7.drewN k) = .ok (.string (str (vb x))) (w7.drewN k) := fun k => conv_l (w := w7.drewN k) HO7.out
      have z3 : ∀ k, (convert 22 9 (.slice A m c)).run Try.prog (w7.drewN k) = .ok (.string (str (vb x))) (w7.drewN k) := fun k => by
        rw [← htake]
        exact conv_b (HY7.drewN k).take (by rw [List.length_take, ← HN.out]; omega)
      have hqs : ((n : Int) - (q : Int)) = (m : Int) := by omega
      have hws : IntKind.i64.wrap ((n : Int) - (q : Int)) = (m : Int) := by rw [hqs]; exact IntWalk.i64_in _ (by omega)
      have HWS := Lib.hid hws
      have hm0 : (0 : Int) ≤ (m : Int) := by omega
      have hmc : (m : Int) ≤ (c : Int) := by omega
      have hmc2 : m ≤ c := by omega
      have hqn : q ≤ n := by omega
      clear hnq hq htake HY7 ho7 hb7 hqs hws
      go_wp2_with fail
      have hws := HWS.out
      go_quiet (first | (go_at_call 13; exact quiet_eq (left_any w.heap.size g _ A3 c3 q _ (HRr7.out.drewN _) HQ.out)))
      clear hws
      go_wp2_with fail
      go_ret
      exact ⟨rfl, below_dn HB7.out⟩
    · have ht := ru_bad rfl he
      have hx : ruN ⟨l, 0⟩ = 0 := ruN_err _ he
      have q1 : ((ruS ⟨l, 0⟩).e != 0) = true := by rw [bne_iff_ne]; exact he
      have HT : Hid (0 = (ruS ⟨l, 0⟩).l.length) := Lib.hid (by rw [ht]; rfl)
      rw [hx]
      generalize (ruS ⟨l, 0⟩).e = E at q1
      clear ht hx he
      go_wp2_with fail
      refine (left_any w.heap.size g _ A3 c3 0 w3 HR3.out HT.out).mono ?_
      rintro e w' ⟨rfl, rfl⟩
      go_wp2_with fail
      go_ret
      exact ⟨rfl, HB3.out⟩
end Go.Proofs.Ytjhjhklidofhgaa
