/- The document's reader takes texts and rows, and ends. -/
import Derived.Test.YtkenaoejijpgpaaDoorRdC
namespace Go.Proofs.YtkenaoejijpgpaaDoor
open Go.RowKit

theorem ruN_err (s : Rd) (h : ¬ (ruS s).e = 0) : ruN s = 0 := by
  unfold ruS at h
  unfold ruN
  by_cases he : s.e = 0
  · rw [if_pos he] at h ⊢
    rcases rdGo_err s.l 0 0 with h1 | ⟨_, h1⟩
    · exact absurd (by simpa using h1) h
    · rw [h1]
  · rw [if_neg he]
theorem rcN_err (s : Rd) (most : Int) (h : ¬ (ruS s).e = 0) : rcN s most = 0 ∧ rcS s most = ruS s := by
  have h0 := ruN_err s h
  unfold rcN rcS
  rw [h0, if_neg (by omega), if_neg (by omega)]
  exact ⟨rfl, rfl⟩
theorem rfail_11 (s : Rd) (h : s.e = 0) : rfail s 11 = ⟨[], 11⟩ := by unfold rfail; rw [if_pos ⟨h, by omega⟩]
theorem rfail_10 (s : Rd) (h : s.e = 0) : rfail s 10 = ⟨[], 10⟩ := by unfold rfail; rw [if_pos ⟨h, by omega⟩]

set_option maxRecDepth 100000 in
set_option maxHeartbeats 1000000 in
/-- The next text, as the document has it. -/
theorem rrt_any (B g : Nat) (s : Rd) (A : Option Addr) (c : Nat) (most : Int) (hm : most ≤ 9223372036854775807) (w : World) (h : RdAt 83 w B g s A c) :
    Calls Tryd.prog 49 #[.pointer (some ⟨g, 0, none⟩), .int .i64 most] w fun x w' => x = .returned (.string (str (rtL s most))) ∧ RdTo 83 B g (rtS s most) w w' := by
  have hl := h.glt
  obtain ⟨n, hn⟩ : ∃ n, n = ruN s := ⟨_, rfl⟩
  obtain ⟨s1, hs1⟩ : ∃ s1, s1 = ruS s := ⟨_, rfl⟩
  have HN := Lib.hid hn
  have HS := Lib.hid hs1
  have HD := Lib.hid h
  clear h hn hs1
  by_cases he : s1.e = 0
  · by_cases hbad : top most < n
    · have E0 : rcS s most = ⟨[], 11⟩ := by unfold rcS; rw [← HN.out, if_pos hbad, ← HS.out, rfail_11 s1 he]
      have E1 : Hid (rtL s most = []) := Lib.hid (by unfold rtL; rw [E0, if_neg (by simp)])
      have E2 : Hid (rtS s most = ⟨[], 11⟩) := Lib.hid (by unfold rtS; rw [E0, if_neg (by simp)])
      have HF := Lib.hid (rfail_11 s1 he)
      clear E0
      by_cases hneg : most < 0
      · have hn1 : 0 < n := by rw [top_neg hneg] at hbad; exact hbad
        clear hbad
        go_enter Tryd.func49, Tryd.ntmps49
        go_wp2_with fail
        refine (rru_any B g s A c w HD.out).mono ?_
        rw [← HN.out, ← HS.out]
        rintro e w1 ⟨rfl, hr'⟩
        have HR1 := Lib.hid hr'
        obtain ⟨A1, c1, hr1⟩ := hr'.open_
        have k1 := hr1.c1
        rw [he] at k1
        have hl1 := hr1.glt
        have HD1 := Lib.hid hr1
        clear hr' hr1 he
        go_wp2_with fail
        refine (rrfail_any B g s1 A1 c1 11 w1 HD1.out).mono ?_
        rw [HF.out]
        rintro e w2 ⟨rfl, hr2⟩
        have HR2 := Lib.hid (HR1.out.trans hr2)
        obtain ⟨A2, c2, hr3⟩ := hr2.open_
        have k3 := hr3.c1
        have hl3 := hr3.glt
        clear hr2 hr3
        go_wp2_with fail
        go_ret
        exact ⟨by rw [E1.out]; rfl, by rw [E2.out]; exact HR2.out⟩
      · obtain ⟨m, rfl⟩ := Int.eq_ofNat_of_zero_le (show 0 ≤ most by omega)
        have hm2 : m ≤ 9223372036854775807 := by omega
        have hmn : m < n := by rw [top_nat] at hbad; exact hbad
        clear hbad hneg hm
        go_enter Tryd.func49, Tryd.ntmps49
        go_wp2_with fail
        refine (rru_any B g s A c w HD.out).mono ?_
        rw [← HN.out, ← HS.out]
        rintro e w1 ⟨rfl, hr'⟩
        have HR1 := Lib.hid hr'
        obtain ⟨A1, c1, hr1⟩ := hr'.open_
        have k1 := hr1.c1
        rw [he] at k1
        have hl1 := hr1.glt
        have HD1 := Lib.hid hr1
        clear hr' hr1 he
        go_wp2_with fail
        refine (rrfail_any B g s1 A1 c1 11 w1 HD1.out).mono ?_
        rw [HF.out]
        rintro e w2 ⟨rfl, hr2⟩
        have HR2 := Lib.hid (HR1.out.trans hr2)
        obtain ⟨A2, c2, hr3⟩ := hr2.open_
        have k3 := hr3.c1
        have hl3 := hr3.glt
        clear hr2 hr3
        go_wp2_with fail
        go_ret
        exact ⟨by rw [E1.out]; rfl, by rw [E2.out]; exact HR2.out⟩
    · have E0 : rcS s most = s1 := by unfold rcS; rw [← HN.out, if_neg hbad, HS.out]
      have E3 : rcN s most = n := by unfold rcN; rw [← HN.out, if_neg hbad]
      have hn2 : n ≤ 9223372036854775807 := by have := top_le most hm; omega
      obtain ⟨m, hm3, hm4⟩ : ∃ m : Nat, n ≤ m ∧ m = top most := ⟨_, by omega, rfl⟩
      have hmax : (most < 0 ∧ n = 0) ∨ most = (m : Int) := by
        by_cases h : most < 0
        · left; rw [top_neg h] at hm4; omega
        · right; rw [hm4]; unfold top; omega
      by_cases hlen : n ≤ s1.l.length
      · have E1 : Hid (rtL s most = s1.l.take n) := Lib.hid (by unfold rtL; rw [E0, E3, if_pos ⟨he, hlen⟩])
        have E2 : Hid (rtS s most = ⟨s1.l.drop n, 0⟩) := Lib.hid (by unfold rtS; rw [E0, E3, if_pos he, if_pos hlen])
        clear E0 E3 hbad hm4
        rcases hmax with ⟨hneg, hn0⟩ | hmax
        · have hn1 : ¬ 0 < n := by omega
          clear hn0
          go_enter Tryd.func49, Tryd.ntmps49
          go_wp2_with fail
          refine (rru_any B g s A c w HD.out).mono ?_
          rw [← HN.out, ← HS.out]
          rintro e w1 ⟨rfl, hr'⟩
          have HR1 := Lib.hid hr'
          obtain ⟨A1, c1, hr1⟩ := hr'.open_
          have k0 := hr1.c0
          have k1 := hr1.c1
          rw [he] at k1
          obtain ⟨N, hN⟩ : ∃ N, N = s1.l.length := ⟨_, rfl⟩
          have hN2 := hr1.by_.le
          have hN3 := hr1.by_.cap
          have hl1 := hr1.glt
          have f0 := hr1.fz 0
          have hstr : (convert 24 9 (.slice A1 n c1)).run Tryd.prog w1 = .ok (.string (str (s1.l.take n))) w1 := run_string (l := s1.l.take n) hr1.by_.take (by rw [List.length_take]; omega) 24 5 9 Tryd.underlying24 Tryd.underlying5 Tryd.underlying9
          rw [← hN] at k0 hN2 hlen
          have HD1 := Lib.hid hr1
          have HN1 := Lib.hid hN
          have HE := Lib.hid he
          clear hr' hr1 hN he
          go_wp2_with fail
          all_goals
            go_ret
            exact ⟨by rw [E1.out]; rfl, by rw [E2.out]; exact HR1.out.trans ⟨_, _, rd_dropO HD1.out (by have := HN1.out; omega) _ _ _ HN1.out (by omega) (by omega) (by first | exact .inl ⟨rfl, by omega⟩ | exact .inr rfl) 0 HE.out, chg_g g 0 w1 _⟩⟩
        · subst hmax
          have hm2 : m ≤ 9223372036854775807 := by omega
          clear hm
          go_enter Tryd.func49, Tryd.ntmps49
          go_wp2_with fail
          refine (rru_any B g s A c w HD.out).mono ?_
          rw [← HN.out, ← HS.out]
          rintro e w1 ⟨rfl, hr'⟩
          have HR1 := Lib.hid hr'
          obtain ⟨A1, c1, hr1⟩ := hr'.open_
          have k0 := hr1.c0
          have k1 := hr1.c1
          rw [he] at k1
          obtain ⟨N, hN⟩ : ∃ N, N = s1.l.length := ⟨_, rfl⟩
          have hN2 := hr1.by_.le
          have hN3 := hr1.by_.cap
          have hl1 := hr1.glt
          have f0 := hr1.fz 0
          have hstr : (convert 24 9 (.slice A1 n c1)).run Tryd.prog w1 = .ok (.string (str (s1.l.take n))) w1 := run_string (l := s1.l.take n) hr1.by_.take (by rw [List.length_take]; omega) 24 5 9 Tryd.underlying24 Tryd.underlying5 Tryd.underlying9
          rw [← hN] at k0 hN2 hlen
          have HD1 := Lib.hid hr1
          have HN1 := Lib.hid hN
          have HE := Lib.hid he
          clear hr' hr1 hN he
          go_wp2_with fail
          all_goals
            go_ret
            exact ⟨by rw [E1.out]; rfl, by rw [E2.out]; exact HR1.out.trans ⟨_, _, rd_dropO HD1.out (by have := HN1.out; omega) _ _ _ HN1.out (by omega) (by omega) (by first | exact .inl ⟨rfl, by omega⟩ | exact .inr rfl) 0 HE.out, chg_g g 0 w1 _⟩⟩
      · have E1 : Hid (rtL s most = []) := Lib.hid (by unfold rtL; rw [E0, E3, if_neg (by omega)])
        have E2 : Hid (rtS s most = ⟨[], 10⟩) := Lib.hid (by unfold rtS; rw [E0, E3, if_pos he, if_neg hlen])
        have HF := Lib.hid (rfail_10 s1 he)
        clear E0 E3 hbad hm4
        rcases hmax with ⟨hneg, hn0⟩ | hmax
        · omega
        · subst hmax
          have hm2 : m ≤ 9223372036854775807 := by omega
          clear hm
          go_enter Tryd.func49, Tryd.ntmps49
          go_wp2_with fail
          refine (rru_any B g s A c w HD.out).mono ?_
          rw [← HN.out, ← HS.out]
          rintro e w1 ⟨rfl, hr'⟩
          have HR1 := Lib.hid hr'
          obtain ⟨A1, c1, hr1⟩ := hr'.open_
          have k0 := hr1.c0
          have k1 := hr1.c1
          rw [he] at k1
          obtain ⟨N, hN⟩ : ∃ N, N = s1.l.length := ⟨_, rfl⟩
          have hN2 := hr1.by_.le
          have hN3 := hr1.by_.cap
          have hl1 := hr1.glt
          have f0 := hr1.fz 0
          rw [← hN] at k0 hN2 hlen
          have HD1 := Lib.hid hr1
          clear hr' hr1 hN he
          go_wp2_with fail
          refine (rrfail_any B g s1 A1 c1 10 w1 HD1.out).mono ?_
          rw [HF.out]
          rintro e w2 ⟨rfl, hr2⟩
          have HR2 := Lib.hid (HR1.out.trans hr2)
          obtain ⟨A2, c2, hr3⟩ := hr2.open_
          have k3 := hr3.c1
          have hl3 := hr3.glt
          clear hr2 hr3
          go_wp2_with fail
          go_ret
          exact ⟨by rw [E1.out]; rfl, by rw [E2.out]; exact HR2.out⟩
  · obtain ⟨E0, E3⟩ := rcN_err s most (by rw [← HS.out]; exact he)
    rw [← HS.out] at E3
    have hn0 : n = 0 := by rw [HN.out]; exact ruN_err s (by rw [← HS.out]; exact he)
    have E1 : Hid (rtL s most = []) := Lib.hid (by unfold rtL; rw [E0, E3, if_neg (by omega)])
    have E2 : Hid (rtS s most = s1) := Lib.hid (by unfold rtS; rw [E3, if_neg he])
    have q : (s1.e == 0) = false := by rw [beq_eq_false_iff_ne]; exact he
    have q2 : (s1.e != 0) = true := by rw [bne_iff_ne]; exact he
    clear E0 E3 he
    subst hn0
    go_enter Tryd.func49, Tryd.ntmps49
    go_wp2_with fail
    refine (rru_any B g s A c w HD.out).mono ?_
    rw [← HN.out, ← HS.out]
    rintro e w1 ⟨rfl, hr'⟩
    have HR1 := Lib.hid hr'
    obtain ⟨A1, c1, hr1⟩ := hr'.open_
    have k1 := hr1.c1
    have hl1 := hr1.glt
    clear hr' hr1
    generalize hE : s1.e = E at k1 q q2
    clear hE
    go_wp2_with fail
    go_ret
    exact ⟨by rw [E1.out]; rfl, by rw [E2.out]; exact HR1.out⟩

set_option maxRecDepth 100000 in
set_option maxHeartbeats 400000 in
theorem rend_any (B g : Nat) (s : Rd) (A : Option Addr) (c : Nat) (w : World) (h : RdAt 83 w B g s A c) (hz : ¬ s.e = 0 → s.l = []) :
    Calls Tryd.prog 50 #[.pointer (some ⟨g, 0, none⟩)] w fun x w' => x = .returned (.int .i64 (rendS s).e) ∧ RdTo 83 B g (rendS s) w w' := by
  have hl := h.glt
  have k0 := h.c0
  have k1 := h.c1
  obtain ⟨n, hn⟩ : ∃ n, n = s.l.length := ⟨_, rfl⟩
  rw [← hn] at k0
  have hn2 : n ≤ 9223372036854775807 := by have := h.by_.cap; have := h.by_.le; omega
  have HN := Lib.hid hn
  have HD := Lib.hid h
  clear h hn
  by_cases he : s.e = 0
  · rw [he] at k1
    by_cases h0 : 0 < n
    · have E1 : Hid (rendS s = ⟨[], 11⟩) := Lib.hid (by unfold rendS; rw [if_pos (by rw [← HN.out]; exact h0), rfail_11 s he])
      have HF := Lib.hid (rfail_11 s he)
      clear he hz
      go_enter Tryd.func50, Tryd.ntmps50
      go_wp2_with fail
      refine (rrfail_any B g s A c 11 w HD.out).mono ?_
      rw [HF.out]
      rintro e w2 ⟨rfl, hr2⟩
      have HR2 := Lib.hid hr2
      obtain ⟨A2, c2, hr3⟩ := hr2.open_
      have k3 := hr3.c1
      have hl3 := hr3.glt
      clear hr2 hr3
      go_wp2_with fail
      go_ret
      exact ⟨by rw [E1.out]; rfl, by rw [E1.out]; exact HR2.out⟩
    · have E1 : Hid (rendS s = s) := Lib.hid (by unfold rendS; rw [if_neg (by rw [← HN.out]; exact h0)])
      have HE := Lib.hid he
      obtain rfl : n = 0 := by omega
      clear h0 he hz
      go_enter Tryd.func50, Tryd.ntmps50
      go_wp2_with fail
      go_ret
      exact ⟨by rw [E1.out, HE.out]; rfl, A, c, by rw [E1.out]; exact HD.out, Chg.refl _ _⟩
  · have E1 : Hid (rendS s = s) := Lib.hid (by unfold rendS; rw [if_neg (by rw [hz he]; simp)])
    have q : (s.e == 0) = false := by rw [beq_eq_false_iff_ne]; exact he
    clear he hz
    generalize hE : s.e = E at k1 q
    have HE := Lib.hid hE
    clear hE
    go_enter Tryd.func50, Tryd.ntmps50
    go_wp2_with fail
    go_ret
    exact ⟨by rw [E1.out, HE.out]; rfl, A, c, by rw [E1.out]; exact HD.out, Chg.refl _ _⟩
end Go.Proofs.YtkenaoejijpgpaaDoor
