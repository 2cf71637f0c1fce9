/- The document's reader takes a row of numbers. -/
import Derived.Test.YtjhjhklidofhgaaRdR
namespace Go.Proofs.Ytjhjhklidofhgaa
open Go.RowKit

set_option maxHeartbeats 1000000 in
theorem rrl_any (B g : Nat) (s : Rd) (A : Option Addr) (c : Nat) (most : Int) (hm : most ≤ 9223372036854775807) (w : World) (h : RdAt 47 w B g s A c) (hlen : s.l.length ≤ 100000000) (hok : (ruS s).e = 0) (hin : ruN s ≤ top most) :
    Calls Try.prog 29 #[.pointer (some ⟨g, 0, none⟩), .int .i64 most] w fun x w' => ∃ Ao co, x = .returned (.slice Ao (rsL s most).length co) ∧ w'.ownsRow w.heap.size 3 1 (.slice Ao (rsL s most).length co) (rsL s most).length (cellsI (rsL s most)) ∧ RdTo 47 B g (rsS s most) w w' := by
  obtain ⟨i3, hi, hz0, hz1, hz2⟩ := info_parts Try.info3
  have hl := h.glt
  have E0 : rcS s most = ruS s := by unfold rcS; rw [if_neg (by omega)]
  have E3 : rcN s most = ruN s := by unfold rcN; rw [if_neg (by omega)]
  obtain ⟨n, hn⟩ : ∃ n, n = rcN s most := ⟨_, rfl⟩
  obtain ⟨s1, hs1⟩ : ∃ s1, s1 = rcS s most := ⟨_, rfl⟩
  have hn2 : n ≤ 9223372036854775807 := by have := rcN_le s most; have := top_le most hm; omega
  have hlen1 : s1.l.length ≤ 100000000 := by have := rcS_len s most; rw [hs1]; omega
  have HN := Lib.hid hn
  have HS := Lib.hid hs1
  have HNu : Hid (n = ruN s) := Lib.hid (by rw [hn, E3])
  have HSu : Hid (s1 = ruS s) := Lib.hid (by rw [hs1, E0])
  have HD := Lib.hid h
  have he1 : s1.e = 0 := by rw [HSu.out]; exact hok
  have hw : Hid (∀ w1, RdTo 47 B g (ruS s) w w1 → w1.cell? ⟨g, 1, none⟩ = some (.int .i64 0) ∧ g < w1.heap.size) := Lib.hid (fun w1 h1 => by
    obtain ⟨A1, c1, hr1⟩ := h1.open_
    have k1 := hr1.c1
    rw [hok] at k1
    exact ⟨k1, hr1.glt⟩)
  have HT : Hid (n ≤ top most) := Lib.hid (by rw [HNu.out]; exact hin)
  clear h hn hs1 hlen E0 E3 he1 hok hin
  have hmax : (most < 0 ∧ ¬ 0 < n) ∨ ∃ m : Nat, most = (m : Int) ∧ n ≤ m ∧ m ≤ 9223372036854775807 := by
    by_cases h : most < 0
    · left; have := HT.out; rw [top_neg h] at this; omega
    · right
      refine ⟨most.toNat, by omega, ?_, by omega⟩
      have := HT.out
      unfold top at this
      omega
  rcases hmax with ⟨hneg, hn0⟩ | ⟨m, hmm, hnm, hm2⟩
  · have q0 : decide (0 < n) = false := by rw [decide_eq_false_iff_not]; omega
    go_enter Try.func29, Try.ntmps29
    go_wp2_with fail
    refine (rru_any B g s A c w HD.out).mono ?_
    rw [← HNu.out]
    rintro e w1 ⟨rfl, hr'⟩
    obtain ⟨k1, hl1⟩ := hw.out w1 hr'
    rw [← HSu.out] at hr'
    have HR1 := Lib.hid hr'
    clear hr'
    go_wp2_with fail
    go_loopw [6, 7] (fun v i wr => ∃ (k : Nat) (xs : List Int) (sk : Rd) (Ao : Option Addr) (co : Nat), k ≤ n ∧ i = .int .u64 (k : Int) ∧ v = .slice Ao k co ∧ k ≤ 100000001 ∧ Hid (k = xs.length) ∧ Hid (sk.e = 0 → k + sk.l.length ≤ 100000000) ∧ Hid (rrL n s1 = xs ++ rrL (n - k) sk) ∧ Hid (rrS n s1 = rrS (n - k) sk) ∧ Hid (wr.ownsRow w.heap.size 3 1 (.slice Ao k co) k (cellsI xs)) ∧ Hid (RdTo 47 B g sk w wr)) (fun _ i _ => n - (intOf i).toNat)
    case atStart => exact ⟨0, [], s1, none, 0, by omega, rfl, rfl, by omega, rfl, Lib.hid (fun _ => by omega), Lib.hid (by simp), Lib.hid (by simp), Lib.hid (World.ownsRow_nil _ _ _ _), HR1⟩
    case round =>
      obtain ⟨k, xs, sk, Ao, co, hk, rfl, rfl, hk1, HK, HB, HL, HSS, HO, HR⟩ := hrel
      obtain ⟨A1, c1, hr1⟩ := HR.out.open_
      have k1 := hr1.c1
      have hl1 := hr1.glt
      have HD := Lib.hid hr1
      clear hr1
      by_cases he : sk.e = 0
      · rw [he] at k1
        by_cases hkn : k < n
        · exact absurd hkn (by omega)
        · have hkn' : k = n := by omega
          have E1 : Hid (rsL s most = xs) := Lib.hid (by
            have e1 : rsS s most = sk := by rw [rsS, ← HN.out, ← HS.out, HSS.out, hkn', Nat.sub_self]; rfl
            rw [rsL, e1, if_pos he, ← HN.out, ← HS.out, HL.out, hkn', Nat.sub_self]; simp [rrL])
          have E2 : Hid (rsS s most = sk) := Lib.hid (by rw [rsS, ← HN.out, ← HS.out, HSS.out, hkn', Nat.sub_self]; rfl)
          clear hkn' he
          go_wp2_with fail
          go_ret
          rw [E1.out, E2.out, ← HK.out]
          exact ⟨Ao, co, rfl, HO.out, HR.out⟩
      · have E2 : Hid (rsS s most = sk) := Lib.hid (by
          rw [rsS, ← HN.out, ← HS.out, HSS.out]
          cases n - k with
          | zero => rfl
          | succ m => rw [rrS, if_neg he])
        have E1 : Hid (rsL s most = []) := Lib.hid (by rw [rsL, E2.out, if_neg he])
        have q : (sk.e == 0) = false := by rw [beq_eq_false_iff_ne]; exact he
        have q2 : (sk.e != 0) = true := by rw [bne_iff_ne]; exact he
        clear he
        generalize hE : sk.e = E at k1 q q2
        clear hE
        by_cases hkn : k < n
        · exact absurd hkn (by omega)
        · go_wp2_with fail
          go_ret
          rw [E1.out, E2.out]
          exact ⟨none, 0, rfl, World.ownsRow_nil _ _ _ _, HR.out⟩
  · subst hmm
    have q0 : decide (m < n) = false := by rw [decide_eq_false_iff_not]; omega
    go_enter Try.func29, Try.ntmps29
    go_wp2_with fail
    refine (rru_any B g s A c w HD.out).mono ?_
    rw [← HNu.out]
    rintro e w1 ⟨rfl, hr'⟩
    obtain ⟨k1, hl1⟩ := hw.out w1 hr'
    rw [← HSu.out] at hr'
    have HR1 := Lib.hid hr'
    clear hr' hm
    go_wp2_with fail
    go_loopw [6, 7] (fun v i wr => ∃ (k : Nat) (xs : List Int) (sk : Rd) (Ao : Option Addr) (co : Nat), k ≤ n ∧ i = .int .u64 (k : Int) ∧ v = .slice Ao k co ∧ k ≤ 100000001 ∧ Hid (k = xs.length) ∧ Hid (sk.e = 0 → k + sk.l.length ≤ 100000000) ∧ Hid (rrL n s1 = xs ++ rrL (n - k) sk) ∧ Hid (rrS n s1 = rrS (n - k) sk) ∧ Hid (wr.ownsRow w.heap.size 3 1 (.slice Ao k co) k (cellsI xs)) ∧ Hid (RdTo 47 B g sk w wr)) (fun _ i _ => n - (intOf i).toNat)
    case atStart => exact ⟨0, [], s1, none, 0, by omega, rfl, rfl, by omega, rfl, Lib.hid (fun _ => by omega), Lib.hid (by simp), Lib.hid (by simp), Lib.hid (World.ownsRow_nil _ _ _ _), HR1⟩
    case round =>
      obtain ⟨k, xs, sk, Ao, co, hk, rfl, rfl, hk1, HK, HB, HL, HSS, HO, HR⟩ := hrel
      obtain ⟨A1, c1, hr1⟩ := HR.out.open_
      have k1 := hr1.c1
      have hl1 := hr1.glt
      have HD := Lib.hid hr1
      clear hr1
      by_cases he : sk.e = 0
      · rw [he] at k1
        by_cases hkn : k < n
        · have hb := HB.out he
          have hx : sk.l.length < 100000000000 := by omega
          have HLs : Hid (rrL (n - k) sk = riN sk :: rrL (n - (k + 1)) (ruS sk)) := Lib.hid (by rw [show n - k = (n - (k + 1)) + 1 by omega, rrL, if_pos he])
          have HSs : Hid (rrS (n - k) sk = rrS (n - (k + 1)) (ruS sk)) := Lib.hid (by rw [show n - k = (n - (k + 1)) + 1 by omega, rrS, if_pos he])
          have HBs : Hid ((ruS sk).e = 0 → k + 1 + (ruS sk).l.length ≤ 100000000) := Lib.hid (fun h => by have := ruS_less sk he h; omega)
          have hkb : k ≤ 100000000 := by omega
          clear hb hx he
          go_wp2_with fail
          refine (rri_any B g sk A1 c1 wr HD.out).mono ?_
          rintro e w2 ⟨rfl, hr2⟩
          have HR2 := Lib.hid (HR.out.trans hr2)
          have HO2 := Lib.hid (hr2.chg.own HO.out (fun q hq e => by have := (HO.out.lt q hq).1; omega))
          have hs2 : w.heap.size ≤ w2.heap.size := HR2.out.chg.size
          clear hr2 HO
          go_wp2_with (at_builtin; refine wpList_append_row _ rfl (.tmp 36) (.tmp 39) _ rfl w.heap.size 3 i3 _ 1 8 Try.underlying34 hi hz0 hz1 hz2 rfl (by omega) Ao k co (cellsI xs) rfl (HO2.out.alloc _) (w2.heap.size + 1) (some ⟨w2.heap.size, 0, none⟩) 1 1 [.int .i64 (riN sk)] rfl (cellsIn_alloc w2 #[.int .i64 (riN sk)] 3 (0, 0) 1 1 rfl) (by simp [Value.oneCell']) (by unfold maxLen; omega) (by omega) (by simp; omega) ?_; intro A3 c3 w3 hown3 hg3 hat3; have HO3 := Lib.hid hown3; have HG3 := Lib.hid hg3; clear hown3 hg3 hat3)
          have hch : Chg (OneBlk (Value.ownBlock (.slice Ao k co))) w2 w3 := ((Chg.refl _ w2).alloc _).grown HG3.out (fun q hq => .inr hq)
          have hR3 : RdTo 47 B g (ruS sk) w w3 := by
            obtain ⟨A4, c4, hr4, hch4⟩ := HR2.out
            have hno : ∀ q, q ≤ g → ¬ OneBlk (Value.ownBlock (.slice Ao k co)) q := fun q hq hS => by have := (HO2.out.lt q hS).1; omega
            refine ⟨A4, c4, hr4.chg hch (hno g (Nat.le_refl _)) (fun q hq => hno q (by have := hr4.lt; omega)), ?_⟩
            refine ⟨hch.os.trans hch4.os, hch.tape.trans hch4.tape, hch.output.trans hch4.output, Nat.le_trans hch4.size hch.size, fun q hq hS => ?_⟩
            refine (hch.block q (Nat.lt_of_lt_of_le hq hch4.size) (fun h => ?_)).trans (hch4.block q hq hS)
            have := (HO2.out.lt q h).1
            omega
          have HR3 := Lib.hid hR3
          clear hch hR3
          go_roundw
          case rel =>
            have e1 : Hid (rrL n s1 = (xs ++ [riN sk]) ++ rrL (n - (k + 1)) (ruS sk)) := Lib.hid (by rw [HL.out, HLs.out]; simp)
            have e2 : Hid (rrS n s1 = rrS (n - (k + 1)) (ruS sk)) := Lib.hid (by rw [HSS.out, HSs.out])
            have e3 : Hid (w3.ownsRow w.heap.size 3 1 (.slice A3 (k + 1) c3) (k + 1) (cellsI (xs ++ [riN sk]))) := Lib.hid (by rw [cellsI_snoc]; exact HO3.out)
            exact ⟨k + 1, xs ++ [riN sk], ruS sk, A3, c3, by omega, by go_num, rfl, by omega, Lib.hid (by simp [HK.out]), HBs, e1, e2, e3, HR3⟩
          case measure => simp [intOf]; omega
        · have hkn' : k = n := by omega
          have E1 : Hid (rsL s (m : Int) = xs) := Lib.hid (by
            have e1 : rsS s (m : Int) = sk := by rw [rsS, ← HN.out, ← HS.out, HSS.out, hkn', Nat.sub_self]; rfl
            rw [rsL, e1, if_pos he, ← HN.out, ← HS.out, HL.out, hkn', Nat.sub_self]; simp [rrL])
          have E2 : Hid (rsS s (m : Int) = sk) := Lib.hid (by rw [rsS, ← HN.out, ← HS.out, HSS.out, hkn', Nat.sub_self]; rfl)
          clear hkn' he
          go_wp2_with fail
          go_ret
          rw [E1.out, E2.out, ← HK.out]
          exact ⟨Ao, co, rfl, HO.out, HR.out⟩
      · have E2 : Hid (rsS s (m : Int) = sk) := Lib.hid (by
          rw [rsS, ← HN.out, ← HS.out, HSS.out]
          cases n - k with
          | zero => rfl
          | succ m => rw [rrS, if_neg he])
        have E1 : Hid (rsL s (m : Int) = []) := Lib.hid (by rw [rsL, E2.out, if_neg he])
        have q : (sk.e == 0) = false := by rw [beq_eq_false_iff_ne]; exact he
        have q2 : (sk.e != 0) = true := by rw [bne_iff_ne]; exact he
        clear he
        generalize hE : sk.e = E at k1 q q2
        clear hE
        by_cases hkn : k < n
        · go_wp2_with fail
          go_ret
          rw [E1.out, E2.out]
          exact ⟨none, 0, rfl, World.ownsRow_nil _ _ _ _, HR.out⟩
        · go_wp2_with fail
          go_ret
          rw [E1.out, E2.out]
          exact ⟨none, 0, rfl, World.ownsRow_nil _ _ _ _, HR.out⟩

set_option maxHeartbeats 400000 in
theorem rrl_err (B g : Nat) (s : Rd) (A : Option Addr) (c : Nat) (most : Int) (w : World) (h : RdAt 47 w B g s A c) (he : ¬ (ruS s).e = 0) :
    Calls Try.prog 29 #[.pointer (some ⟨g, 0, none⟩), .int .i64 most] w fun x w' => ∃ Ao co, x = .returned (.slice Ao (rsL s most).length co) ∧ w'.ownsRow w.heap.size 3 1 (.slice Ao (rsL s most).length co) (rsL s most).length (cellsI (rsL s most)) ∧ RdTo 47 B g (rsS s most) w w' := by
  have hl := h.glt
  obtain ⟨E0, E3⟩ := rcN_err s most he
  have hn0 : ruN s = 0 := ruN_err s he
  have e2 : rsS s most = ruS s := by rw [rsS, E0, E3]; rfl
  have E1 : Hid (rsL s most = []) := Lib.hid (by unfold rsL; rw [e2, if_neg he])
  have E2 := Lib.hid e2
  have HN := Lib.hid hn0
  have HD := Lib.hid h
  clear E0 E3 h hn0 e2
  go_enter Try.func29, Try.ntmps29
  go_wp2_with fail
  refine (rru_any B g s A c w HD.out).mono ?_
  rw [HN.out]
  rintro e w1 ⟨rfl, hr'⟩
  have HR1 := Lib.hid hr'
  obtain ⟨A1, c1, hr1⟩ := hr'.open_
  have k1 := hr1.c1
  have hl1 := hr1.glt
  have q : ((ruS s).e == 0) = false := by rw [beq_eq_false_iff_ne]; exact he
  have q2 : ((ruS s).e != 0) = true := by rw [bne_iff_ne]; exact he
  clear hr' hr1 he
  generalize hE : (ruS s).e = E at k1 q q2
  clear hE
  go_wp2_with fail
  go_loop [7] (fun i => i = .int .u64 0) (fun _ => 0)
  case atStart => rfl
  case round =>
    subst hrel
    go_wp2_with fail
    go_ret
    rw [E1.out, E2.out]
    exact ⟨none, 0, rfl, World.ownsRow_nil _ _ _ _, HR1.out⟩

set_option maxHeartbeats 400000 in
theorem rrl_big (B g : Nat) (s : Rd) (A : Option Addr) (c : Nat) (most : Int) (hm : most ≤ 9223372036854775807) (w : World) (h : RdAt 47 w B g s A c) (he : (ruS s).e = 0) (hbad : top most < ruN s) :
    Calls Try.prog 29 #[.pointer (some ⟨g, 0, none⟩), .int .i64 most] w fun x w' => ∃ Ao co, x = .returned (.slice Ao (rsL s most).length co) ∧ w'.ownsRow w.heap.size 3 1 (.slice Ao (rsL s most).length co) (rsL s most).length (cellsI (rsL s most)) ∧ RdTo 47 B g (rsS s most) w w' := by
  have hl := h.glt
  obtain ⟨n, hn⟩ : ∃ n, n = ruN s := ⟨_, rfl⟩
  obtain ⟨s1, hs1⟩ : ∃ s1, s1 = ruS s := ⟨_, rfl⟩
  rw [← hn] at hbad
  rw [← hs1] at he
  have HN := Lib.hid hn
  have HS := Lib.hid hs1
  have HD := Lib.hid h
  have E0 : rcS s most = ⟨[], 11⟩ := by unfold rcS; rw [← hn, if_pos hbad, ← hs1, rfail_11 s1 he]
  have E3 : rcN s most = 0 := by unfold rcN; rw [← hn, if_pos hbad]
  have e2 : rsS s most = ⟨[], 11⟩ := by rw [rsS, E0, E3]; rfl
  have E1 : Hid (rsL s most = []) := Lib.hid (by unfold rsL; rw [e2, if_neg (by simp)])
  have E2 := Lib.hid e2
  have HF := Lib.hid (rfail_11 s1 he)
  clear E0 E3 e2 h hn hs1
  by_cases hneg : most < 0
  · have hn1 : 0 < n := by rw [top_neg hneg] at hbad; exact hbad
    clear hbad
    have q0 : decide (0 < n) = true := by rw [decide_eq_true_eq]; omega
    go_enter Try.func29, Try.ntmps29
    go_wp2_with fail
    refine (rru_any B g s A c w HD.out).mono ?_
    rw [← HN.out, ← HS.out]
    rintro e w1 ⟨rfl, hr'⟩
    have HR1 := Lib.hid hr'
    obtain ⟨A1, c1, hr1⟩ := hr'.open_
    have k1 := hr1.c1
    rw [he] at k1
    have hl1 := hr1.glt
    have HD1 := Lib.hid hr1
    clear hr' hr1 he
    go_wp2_with fail
    refine (rrfail_any B g s1 A1 c1 11 w1 HD1.out).mono ?_
    rw [HF.out]
    rintro e w2 ⟨rfl, hr2⟩
    have HR2 := Lib.hid (HR1.out.trans hr2)
    obtain ⟨A2, c2, hr3⟩ := hr2.open_
    have k3 := hr3.c1
    have hl3 := hr3.glt
    clear hr2 hr3
    go_wp2_with fail
    go_loop [7] (fun i => i = .int .u64 0) (fun _ => 0)
    case atStart => rfl
    case round =>
      subst hrel
      go_wp2_with fail
      go_ret
      rw [E1.out, E2.out]
      exact ⟨none, 0, rfl, World.ownsRow_nil _ _ _ _, HR2.out⟩
  · obtain ⟨m, rfl⟩ := Int.eq_ofNat_of_zero_le (show 0 ≤ most by omega)
    have hm2 : m ≤ 9223372036854775807 := by omega
    have hmn : m < n := by rw [top_nat] at hbad; exact hbad
    have q0 : decide (m < n) = true := by rw [decide_eq_true_eq]; omega
    clear hbad hneg hm
    go_enter Try.func29, Try.ntmps29
    go_wp2_with fail
    refine (rru_any B g s A c w HD.out).mono ?_
    rw [← HN.out, ← HS.out]
    rintro e w1 ⟨rfl, hr'⟩
    have HR1 := Lib.hid hr'
    obtain ⟨A1, c1, hr1⟩ := hr'.open_
    have k1 := hr1.c1
    rw [he] at k1
    have hl1 := hr1.glt
    have HD1 := Lib.hid hr1
    clear hr' hr1 he
    go_wp2_with fail
    refine (rrfail_any B g s1 A1 c1 11 w1 HD1.out).mono ?_
    rw [HF.out]
    rintro e w2 ⟨rfl, hr2⟩
    have HR2 := Lib.hid (HR1.out.trans hr2)
    obtain ⟨A2, c2, hr3⟩ := hr2.open_
    have k3 := hr3.c1
    have hl3 := hr3.glt
    clear hr2 hr3
    go_wp2_with fail
    go_loop [7] (fun i => i = .int .u64 0) (fun _ => 0)
    case atStart => rfl
    case round =>
      subst hrel
      go_wp2_with fail
      go_ret
      rw [E1.out, E2.out]
      exact ⟨none, 0, rfl, World.ownsRow_nil _ _ _ _, HR2.out⟩

/-- The next row, as the document has it. -/
theorem rrl_all (B g : Nat) (s : Rd) (A : Option Addr) (c : Nat) (most : Int) (hm : most ≤ 9223372036854775807) (w : World) (h : RdAt 47 w B g s A c) (hlen : s.l.length ≤ 100000000) :
    Calls Try.prog 29 #[.pointer (some ⟨g, 0, none⟩), .int .i64 most] w fun x w' => ∃ Ao co, x = .returned (.slice Ao (rsL s most).length co) ∧ w'.ownsRow w.heap.size 3 1 (.slice Ao (rsL s most).length co) (rsL s most).length (cellsI (rsL s most)) ∧ RdTo 47 B g (rsS s most) w w' := by
  by_cases he : (ruS s).e = 0
  · by_cases hbad : top most < ruN s
    · exact rrl_big B g s A c most hm w h he hbad
    · exact rrl_any B g s A c most hm w h hlen he (by omega)
  · exact rrl_err B g s A c most w h he
end Go.Proofs.Ytjhjhklidofhgaa
