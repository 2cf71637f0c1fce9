/- A reader takes how many there are; a text. -/
import Derived.Test.YtkenaoejijpgpaaDoorRdI
namespace Go.Proofs.YtkenaoejijpgpaaDoor
open Go.RowKit

theorem RdTo.open_ {T : TypeId} {B g : Nat} {s : Rd} {w w' : World} (h : RdTo T B g s w w') : ∃ A c, RdAt T w' B g s A c := by
  obtain ⟨A, c, h, _⟩ := h
  exact ⟨A, c, h⟩
theorem RdTo.trans {T : TypeId} {B g : Nat} {s s' : Rd} {w w' w'' : World} (h : RdTo T B g s w w') (h' : RdTo T B g s' w' w'') : RdTo T B g s' w w'' := by
  obtain ⟨_, _, _, hc⟩ := h
  obtain ⟨A, c, hr, hc'⟩ := h'
  exact ⟨A, c, hr, hc.trans hc'⟩
theorem RdTo.chg {T : TypeId} {B g : Nat} {s : Rd} {w w' : World} (h : RdTo T B g s w w') : Chg (fun k => k = g) w w' := by
  obtain ⟨_, _, _, hc⟩ := h
  exact hc
theorem top_neg {most : Int} (h : most < 0) : top most = 0 := by unfold top; omega
theorem top_nat (m : Nat) : top (m : Int) = m := by unfold top; omega
theorem conv_u64 (m : Nat) (h : m ≤ 9223372036854775807) : IntKind.u64.wrap (m : Int) = (m : Int) := by rw [IntKind.wrap_u64]; omega

theorem rd_dropO {T : TypeId} {w : World} {B g c n k : Nat} {A : Option Addr} {s : Rd} (h : RdAt T w B g s A c) (hk : k ≤ s.l.length) (A' : Option Addr) (n' c' : Nat) (hn : n = s.l.length) (hn' : n' = n - k) (hc' : c' = c - k)
    (hA : (A' = A ∧ c ≤ k) ∨ A' = A.map (·.add k)) (e : Int) (he : s.e = e) : RdAt T (w.setCell ⟨g, 0, none⟩ (.slice A' n' c')) B g ⟨s.l.drop k, e⟩ A' c' := by
  have h0 : BytesIn w B A c s.l := h.by_
  have h1 := h0.le
  have h2 := h0.cap
  rw [← he]
  refine rd_set h A' n' c' (s.l.drop k) (by rw [List.length_drop]; omega) ?_
  subst hc'
  by_cases hck : c ≤ k
  · rw [List.drop_eq_nil_of_le (by omega)]
    exact .emp (by omega)
  · rcases hA with ⟨_, h⟩ | rfl
    · exact absurd h hck
    · have := h0.drop hk
      rwa [if_neg (by omega)] at this
set_option maxHeartbeats 400000 in
theorem count_any (B g : Nat) (s : Rd) (A : Option Addr) (c : Nat) (most : Int) (hm : most ≤ 9223372036854775807) (w : World) (h : RdAt 108 w B g s A c) :
    Calls Tryd.prog 70 #[.pointer (some ⟨g, 0, none⟩), .int .i64 most] w fun x w' => x = .returned (.int .i64 (rcN s most : Int)) ∧ RdTo 108 B g (rcS s most) w w' := by
  have hl := h.glt
  obtain ⟨n, hn⟩ : ∃ n, n = ruN s := ⟨_, rfl⟩
  have HN := Lib.hid hn
  have HD := Lib.hid h
  clear h hn
  by_cases hneg : most < 0
  · by_cases hn0 : n = 0
    · have E1 : Hid (rcN s most = 0) := Lib.hid (by unfold rcN; rw [top_neg hneg, ← HN.out, if_neg (by omega), hn0])
      have E2 : Hid (rcS s most = ruS s) := Lib.hid (by unfold rcS; rw [top_neg hneg, ← HN.out, if_neg (by omega)])
      subst hn0
      go_enter Tryd.func70, Tryd.ntmps70
      go_wp2_with fail
      refine (ru_any B g s A c w HD.out).mono ?_
      rintro e w' ⟨rfl, hr'⟩
      have HR' := Lib.hid hr'
      clear hr'
      rw [← HN.out]
      go_wp2_with fail
      go_ret
      exact ⟨by rw [E1.out]; rfl, by rw [E2.out]; exact HR'.out⟩
    · have E1 : Hid (rcN s most = 0) := Lib.hid (by unfold rcN; rw [top_neg hneg, ← HN.out, if_pos (by omega)])
      have E2 : Hid (rcS s most = rfail (ruS s) 11) := Lib.hid (by unfold rcS; rw [top_neg hneg, ← HN.out, if_pos (by omega)])
      have hn1 : 0 < n := by omega
      clear hn0
      go_enter Tryd.func70, Tryd.ntmps70
      go_wp2_with fail
      refine (ru_any B g s A c w HD.out).mono ?_
      rintro e w' ⟨rfl, hr'⟩
      have HR' := Lib.hid hr'
      clear hr'
      rw [← HN.out]
      go_wp2_with fail
      obtain ⟨A1, c1, hr1⟩ := HR'.out.open_
      refine (fail_any B g (ruS s) A1 c1 11 w' hr1).mono ?_
      rintro e w2 ⟨rfl, hr2⟩
      have HR2 := Lib.hid (HR'.out.trans hr2)
      clear hr2 hr1
      go_wp2_with fail
      go_ret
      exact ⟨by rw [E1.out]; rfl, by rw [E2.out]; exact HR2.out⟩
  · obtain ⟨m, rfl⟩ := Int.eq_ofNat_of_zero_le (show 0 ≤ most by omega)
    have hm2 : m ≤ 9223372036854775807 := by omega
    clear hneg hm
    by_cases hlt : m < n
    · have E1 : Hid (rcN s m = 0) := Lib.hid (by unfold rcN; rw [top_nat, ← HN.out, if_pos hlt])
      have E2 : Hid (rcS s m = rfail (ruS s) 11) := Lib.hid (by unfold rcS; rw [top_nat, ← HN.out, if_pos hlt])
      go_enter Tryd.func70, Tryd.ntmps70
      go_wp2_with fail
      refine (ru_any B g s A c w HD.out).mono ?_
      rintro e w' ⟨rfl, hr'⟩
      have HR' := Lib.hid hr'
      clear hr'
      rw [← HN.out]
      go_wp2_with fail
      obtain ⟨A1, c1, hr1⟩ := HR'.out.open_
      refine (fail_any B g (ruS s) A1 c1 11 w' hr1).mono ?_
      rintro e w2 ⟨rfl, hr2⟩
      have HR2 := Lib.hid (HR'.out.trans hr2)
      clear hr2 hr1
      go_wp2_with fail
      go_ret
      exact ⟨by rw [E1.out]; rfl, by rw [E2.out]; exact HR2.out⟩
    · have E1 : Hid (rcN s m = n) := Lib.hid (by unfold rcN; rw [top_nat, ← HN.out, if_neg hlt])
      have E2 : Hid (rcS s m = ruS s) := Lib.hid (by unfold rcS; rw [top_nat, ← HN.out, if_neg hlt])
      go_enter Tryd.func70, Tryd.ntmps70
      go_wp2_with fail
      refine (ru_any B g s A c w HD.out).mono ?_
      rintro e w' ⟨rfl, hr'⟩
      have HR' := Lib.hid hr'
      clear hr'
      rw [← HN.out]
      go_wp2_with fail
      go_ret
      exact ⟨by rw [E1.out]; rfl, by rw [E2.out]; exact HR'.out⟩

theorem count_nil (most : Int) (hm : most ≤ 9223372036854775807) (w : World) : Calls Tryd.prog 70 #[.pointer none, .int .i64 most] w fun x w' => x = .returned (.int .i64 0) ∧ w = w' := by
  by_cases hneg : most < 0
  · go_enter Tryd.func70, Tryd.ntmps70
    go_wp2_with fail
    refine (ru_nil w).mono ?_
    rintro e w' ⟨rfl, rfl⟩
    go_wp2_with fail
    go_ret
    exact ⟨rfl, rfl⟩
  · obtain ⟨m, rfl⟩ := Int.eq_ofNat_of_zero_le (show 0 ≤ most by omega)
    have hm2 : m ≤ 9223372036854775807 := by omega
    clear hneg hm
    go_enter Tryd.func70, Tryd.ntmps70
    go_wp2_with fail
    refine (ru_nil w).mono ?_
    rintro e w' ⟨rfl, rfl⟩
    go_wp2_with fail
    go_ret
    exact ⟨rfl, rfl⟩

theorem rcN_le (s : Rd) (most : Int) : rcN s most ≤ top most := by
  unfold rcN
  split <;> omega
theorem top_le (most : Int) (hm : most ≤ 9223372036854775807) : top most ≤ 9223372036854775807 := by unfold top; omega

set_option maxHeartbeats 400000 in
set_option maxRecDepth 100000 in
/-- The next text. -/
theorem rt_any (B g : Nat) (s : Rd) (A : Option Addr) (c : Nat) (most : Int) (hm : most ≤ 9223372036854775807) (w : World) (h : RdAt 108 w B g s A c) :
    Calls Tryd.prog 45 #[.pointer (some ⟨g, 0, none⟩), .int .i64 most] w fun x w' => x = .returned (.string (str (rtL s most))) ∧ RdTo 108 B g (rtS s most) w w' := by
  have hl := h.glt
  have hC := count_any B g s A c most hm w h
  have HC := Lib.hid hC
  obtain ⟨n, hn⟩ : ∃ n, n = rcN s most := ⟨_, rfl⟩
  obtain ⟨s1, hs1⟩ : ∃ s1, s1 = rcS s most := ⟨_, rfl⟩
  have hn2 : n ≤ 9223372036854775807 := by have := rcN_le s most; have := top_le most hm; omega
  have HN := Lib.hid hn
  have HS := Lib.hid hs1
  clear h hn hs1 hC hm
  by_cases he : s1.e = 0
  · by_cases hlen : n ≤ s1.l.length
    · have E1 : Hid (rtL s most = s1.l.take n) := Lib.hid (by unfold rtL; rw [← HN.out, ← HS.out, if_pos ⟨he, hlen⟩])
      have E2 : Hid (rtS s most = ⟨s1.l.drop n, 0⟩) := Lib.hid (by unfold rtS; rw [← HN.out, ← HS.out, if_pos he, if_pos hlen])
      go_enter Tryd.func45, Tryd.ntmps45
      go_wp2_with fail
      refine HC.out.mono ?_
      rw [← HN.out, ← HS.out]
      rintro e w' ⟨rfl, hr'⟩
      have HR' := Lib.hid hr'
      obtain ⟨A1, c1, hr1⟩ := hr'.open_
      have k0 := hr1.c0
      have k1 := hr1.c1
      rw [he] at k1
      obtain ⟨N, hN⟩ : ∃ N, N = s1.l.length := ⟨_, rfl⟩
      have hN2 := hr1.by_.le
      have hN3 := hr1.by_.cap
      have hl1 := hr1.glt
      have f0 := hr1.fz 0
      have hstr : (convert 24 9 (.slice A1 n c1)).run Tryd.prog w' = .ok (.string (str (s1.l.take n))) w' := run_string (l := s1.l.take n) hr1.by_.take (by rw [List.length_take]; omega) 24 5 9 Tryd.underlying24 Tryd.underlying5 Tryd.underlying9
      rw [← hN] at k0 hN2 hlen
      have HD1 := Lib.hid hr1
      have HN1 := Lib.hid hN
      have HE := Lib.hid he
      clear hr' hr1 hN he
      go_wp2_with fail
      all_goals
        go_ret
        exact ⟨by rw [E1.out]; rfl, by rw [E2.out]; exact HR'.out.trans ⟨_, _, rd_dropO HD1.out (by have := HN1.out; omega) _ _ _ HN1.out (by omega) (by omega) (by first | exact .inl ⟨rfl, by omega⟩ | exact .inr rfl) 0 HE.out, chg_g g 0 w' _⟩⟩
    · have E1 : Hid (rtL s most = []) := Lib.hid (by unfold rtL; rw [← HN.out, ← HS.out, if_neg (by omega)])
      have E2 : Hid (rtS s most = ⟨[], 10⟩) := Lib.hid (by unfold rtS; rw [← HN.out, ← HS.out, if_pos he, if_neg hlen])
      go_enter Tryd.func45, Tryd.ntmps45
      go_wp2_with fail
      refine HC.out.mono ?_
      rw [← HN.out, ← HS.out]
      rintro e w' ⟨rfl, hr'⟩
      have HR' := Lib.hid hr'
      obtain ⟨A1, c1, hr1⟩ := hr'.open_
      have k0 := hr1.c0
      have k1 := hr1.c1
      rw [he] at k1
      obtain ⟨N, hN⟩ : ∃ N, N = s1.l.length := ⟨_, rfl⟩
      have hN3 : N ≤ 9223372036854775807 := by have := hr1.by_.cap; have := hr1.by_.le; omega
      have hl1 := hr1.glt
      rw [← hN] at k0 hlen
      have HF : Hid (rfail s1 10 = ⟨[], 10⟩) := Lib.hid (by unfold rfail; rw [if_pos ⟨he, by omega⟩])
      have HD1 := Lib.hid hr1
      clear hr' hr1 hN he
      go_wp2_with fail
      refine (fail_any B g s1 A1 c1 10 w' HD1.out).mono ?_
      rintro e w2 ⟨rfl, hr2⟩
      have HR2 := Lib.hid (HR'.out.trans hr2)
      clear hr2
      go_wp2_with fail
      go_ret
      exact ⟨by rw [E1.out]; rfl, by rw [E2.out, ← HF.out]; exact HR2.out⟩
  · have E1 : Hid (rtL s most = []) := Lib.hid (by unfold rtL; rw [← HN.out, ← HS.out, if_neg (by omega)])
    have E2 : Hid (rtS s most = s1) := Lib.hid (by unfold rtS; rw [← HN.out, ← HS.out, if_neg he])
    go_enter Tryd.func45, Tryd.ntmps45
    go_wp2_with fail
    refine HC.out.mono ?_
    rw [← HN.out, ← HS.out]
    rintro e w' ⟨rfl, hr'⟩
    have HR' := Lib.hid hr'
    obtain ⟨A1, c1, hr1⟩ := hr'.open_
    have k1 := hr1.c1
    have hl1 := hr1.glt
    have q : (s1.e != 0) = true := by rw [bne_iff_ne]; exact he
    clear hr' hr1 he
    generalize hE : s1.e = E at k1 q
    clear hE
    go_wp2_with fail
    go_ret
    exact ⟨by rw [E1.out]; rfl, by rw [E2.out]; exact HR'.out⟩
theorem rt_nil (most : Int) (hm : most ≤ 9223372036854775807) (w : World) : Calls Tryd.prog 45 #[.pointer none, .int .i64 most] w fun x w' => x = .returned (.string (str [])) ∧ w = w' := by
  go_enter Tryd.func45, Tryd.ntmps45
  go_wp2_with fail
  refine (count_nil most hm w).mono ?_
  rintro e w' ⟨rfl, rfl⟩
  go_wp2_with fail
  go_ret
  exact ⟨rfl, rfl⟩

set_option maxHeartbeats 400000 in
theorem end_any (B g : Nat) (s : Rd) (A : Option Addr) (c : Nat) (w : World) (h : RdAt 108 w B g s A c) :
    Calls Tryd.prog 46 #[.pointer (some ⟨g, 0, none⟩)] w fun x w' => x = .returned (.int .i64 (rendS s).e) ∧ RdTo 108 B g (rendS s) w w' := by
  have hl := h.glt
  obtain ⟨n, hn⟩ : ∃ n, n = s.l.length := ⟨_, rfl⟩
  have HN := Lib.hid hn
  have HD := Lib.hid h
  clear h hn
  by_cases h0 : 0 < n
  · have E1 : Hid (rendS s = rfail s 11) := Lib.hid (by unfold rendS; rw [if_pos (by rw [← HN.out]; exact h0)])
    go_enter Tryd.func46, Tryd.ntmps46
    go_wp2_with fail
    refine (left_any B g s A c n w HD.out HN.out).mono ?_
    rintro e w' ⟨rfl, rfl⟩
    go_wp2_with fail
    refine (fail_any B g s A c 11 w HD.out).mono ?_
    rintro e w2 ⟨rfl, hr2⟩
    have HR2 := Lib.hid hr2
    obtain ⟨A1, c1, hr1⟩ := hr2.open_
    have HD2 := Lib.hid hr1
    have hl2 := hr1.glt
    clear hr2 hr1
    go_wp2_with fail
    refine (err_any B g (rfail s 11) A1 c1 w2 HD2.out).mono ?_
    rintro e w' ⟨rfl, rfl⟩
    go_wp2_with fail
    go_ret
    exact ⟨by rw [E1.out]; rfl, by rw [E1.out]; exact HR2.out⟩
  · have E1 : Hid (rendS s = s) := Lib.hid (by unfold rendS; rw [if_neg (by rw [← HN.out]; exact h0)])
    obtain rfl : n = 0 := by omega
    clear h0
    go_enter Tryd.func46, Tryd.ntmps46
    go_wp2_with fail
    refine (left_any B g s A c 0 w HD.out HN.out).mono ?_
    rintro e w' ⟨rfl, rfl⟩
    go_wp2_with fail
    refine (err_any B g s A c w HD.out).mono ?_
    rintro e w' ⟨rfl, rfl⟩
    go_wp2_with fail
    go_ret
    exact ⟨by rw [E1.out]; rfl, A, c, by rw [E1.out]; exact HD.out, Chg.refl _ _⟩
theorem end_nil (w : World) : Calls Tryd.prog 46 #[.pointer none] w fun x w' => x = .returned (.int .i64 1) ∧ w = w' := by
  go_enter Tryd.func46, Tryd.ntmps46
  go_wp2_with fail
  refine (left_nil w).mono ?_
  rintro e w' ⟨rfl, rfl⟩
  go_wp2_with fail
  refine (err_nil w).mono ?_
  rintro e w' ⟨rfl, rfl⟩
  go_wp2_with fail
  go_ret
  exact ⟨rfl, rfl⟩
end Go.Proofs.YtkenaoejijpgpaaDoor
