/- A reader takes a row of numbers. -/
import Derived.Test.YtjhjhklidofhgaaRdC
namespace Go.Proofs.Ytjhjhklidofhgaa
open Go.RowKit

theorem rdGo_less (l : List UInt8) (i m : Nat) (h : (rdGo i m l).1 = 0) : (rdGo i m l).2.2.length + 1 ≤ l.length := by
  obtain ⟨n, _, h2, _⟩ := rdGo_ok l i m (rdGo i m l).2.1 (rdGo i m l).2.2 (by rw [← h])
  have := congrArg List.length h2
  rw [List.length_append] at this
  have := vb_pos n
  omega
theorem ruS_less (s : Rd) (h : s.e = 0) (h' : (ruS s).e = 0) : (ruS s).l.length + 1 ≤ s.l.length := by
  unfold ruS at h' ⊢
  rw [if_pos h] at h' ⊢
  exact rdGo_less s.l 0 0 (by simpa using h')
theorem rfail_len (s : Rd) (e : Int) : (rfail s e).l.length ≤ s.l.length := by unfold rfail; split <;> simp
theorem rcS_len (s : Rd) (most : Int) : (rcS s most).l.length ≤ s.l.length := by
  unfold rcS
  have h1 := ruS_len s
  have h2 := rfail_len (ruS s) 11
  split <;> omega
def cellsI (l : List Int) : List Value := l.map fun n => .int .i64 n
theorem cellsI_len (l : List Int) : (cellsI l).length = l.length := by unfold cellsI; simp
theorem cellsI_snoc (l : List Int) (n : Int) : cellsI (l ++ [n]) = cellsI l ++ [.int .i64 n] := by unfold cellsI; simp
theorem Try.info3 : (Try.prog.info? 3).map (fun i => (i.zero, i.size, i.bytes)) = some (some (.int .i64 0), 1, 8) := by kernel_rfl

set_option maxHeartbeats 1000000 in
/-- The next row. -/
theorem rl_any (B g : Nat) (s : Rd) (A : Option Addr) (c : Nat) (most : Int) (hm : most ≤ 9223372036854775807) (w : World) (h : RdAt 60 w B g s A c) (hlen : s.l.length ≤ 100000000) :
    Calls Try.prog 28 #[.pointer (some ⟨g, 0, none⟩), .int .i64 most] w fun x w' => ∃ Ao co, x = .returned (.slice Ao (rsL s most).length co) ∧ w'.ownsRow w.heap.size 3 1 (.slice Ao (rsL s most).length co) (rsL s most).length (cellsI (rsL s most)) ∧ RdTo 60 B g (rsS s most) w w' := by
  obtain ⟨i3, hi, hz0, hz1, hz2⟩ := info_parts Try.info3
  have hl := h.glt
  have hC := count_any B g s A c most hm w h
  have HC := Lib.hid hC
  obtain ⟨n, hn⟩ : ∃ n, n = rcN s most := ⟨_, rfl⟩
  obtain ⟨s1, hs1⟩ : ∃ s1, s1 = rcS s most := ⟨_, rfl⟩
  have hn2 : n ≤ 9223372036854775807 := by have := rcN_le s most; have := top_le most hm; omega
  have hlen1 : s1.l.length ≤ 100000000 := by have := rcS_len s most; rw [hs1]; omega
  have HN := Lib.hid hn
  have HS := Lib.hid hs1
  clear h hn hs1 hC hm hlen
  go_enter Try.func28, Try.ntmps28
  go_wp2_with fail
  refine HC.out.mono ?_
  rw [← HN.out, ← HS.out]
  rintro e w1 ⟨rfl, hr'⟩
  have HR1 := Lib.hid hr'
  clear hr'
  go_wp2_with fail
  go_loopw [6, 7] (fun v i wr => ∃ (k : Nat) (xs : List Int) (sk : Rd) (Ao : Option Addr) (co : Nat), k ≤ n ∧ i = .int .i64 k ∧ v = .slice Ao k co ∧ k ≤ 100000001 ∧ Hid (k = xs.length) ∧ Hid (sk.e = 0 → k + sk.l.length ≤ 100000000) ∧ Hid (rrL n s1 = xs ++ rrL (n - k) sk) ∧ Hid (rrS n s1 = rrS (n - k) sk) ∧ Hid (wr.ownsRow w.heap.size 3 1 (.slice Ao k co) k (cellsI xs)) ∧ Hid (RdTo 60 B g sk w wr)) (fun _ i _ => n - (intOf i).toNat)
  case atStart => exact ⟨0, [], s1, none, 0, by omega, rfl, rfl, by omega, rfl, Lib.hid (fun _ => by omega), Lib.hid (by simp), Lib.hid (by simp), Lib.hid (World.ownsRow_nil _ _ _ _), HR1⟩
  case round =>
    obtain ⟨k, xs, sk, Ao, co, hk, rfl, rfl, hk1, HK, HB, HL, HSS, HO, HR⟩ := hrel
    obtain ⟨A1, c1, hr1⟩ := HR.out.open_
    have k1 := hr1.c1
    have hl1 := hr1.glt
    have HD := Lib.hid hr1
    clear hr1
    by_cases he : sk.e = 0
    · rw [he] at k1
      by_cases hkn : k < n
      · have hb := HB.out he
        have hx : sk.l.length < 100000000000 := by omega
        have HLs : Hid (rrL (n - k) sk = riN sk :: rrL (n - (k + 1)) (ruS sk)) := Lib.hid (by rw [show n - k = (n - (k + 1)) + 1 by omega, rrL, if_pos he])
        have HSs : Hid (rrS (n - k) sk = rrS (n - (k + 1)) (ruS sk)) := Lib.hid (by rw [show n - k = (n - (k + 1)) + 1 by omega, rrS, if_pos he])
        have HBs : Hid ((ruS sk).e = 0 → k + 1 + (ruS sk).l.length ≤ 100000000) := Lib.hid (fun h => by have := ruS_less sk he h; omega)
        have hkb : k ≤ 100000000 := by omega
        clear hb hx he
        go_wp2_with fail
        refine (ri_any B g sk A1 c1 wr HD.out).mono ?_
        rintro e w2 ⟨rfl, hr2⟩
        have HR2 := Lib.hid (HR.out.trans hr2)
        have HO2 := Lib.hid (hr2.chg.own HO.out (fun q hq e => by have := (HO.out.lt q hq).1; omega))
        have hs2 : w.heap.size ≤ w2.heap.size := HR2.out.chg.size
        clear hr2 HO
        go_wp2_with (at_builtin; refine wpList_append_row _ rfl (.tmp 23) (.tmp 26) _ rfl w.heap.size 3 i3 _ 1 8 Try.underlying34 hi hz0 hz1 hz2 rfl (by omega) Ao k co (cellsI xs) rfl (HO2.out.alloc _) (w2.heap.size + 1) (some ⟨w2.heap.size, 0, none⟩) 1 1 [.int .i64 (riN sk)] rfl (cellsIn_alloc w2 #[.int .i64 (riN sk)] 3 (0, 0) 1 1 rfl) (by simp [Value.oneCell']) (by unfold maxLen; omega) (by omega) (by simp; omega) ?_; intro A3 c3 w3 hown3 hg3 hat3; have HO3 := Lib.hid hown3; have HG3 := Lib.hid hg3; clear hown3 hg3 hat3)
        have hch : Chg (OneBlk (Value.ownBlock (.slice Ao k co))) w2 w3 := ((Chg.refl _ w2).alloc _).grown HG3.out (fun q hq => .inr hq)
        have hR3 : RdTo 60 B g (ruS sk) w w3 := by
          obtain ⟨A4, c4, hr4, hch4⟩ := HR2.out
          have hno : ∀ q, q ≤ g → ¬ OneBlk (Value.ownBlock (.slice Ao k co)) q := fun q hq hS => by have := (HO2.out.lt q hS).1; omega
          refine ⟨A4, c4, hr4.chg hch (hno g (Nat.le_refl _)) (fun q hq => hno q (by have := hr4.lt; omega)), ?_⟩
          refine ⟨hch.os.trans hch4.os, hch.tape.trans hch4.tape, hch.output.trans hch4.output, Nat.le_trans hch4.size hch.size, fun q hq hS => ?_⟩
          refine (hch.block q (Nat.lt_of_lt_of_le hq hch4.size) (fun h => ?_)).trans (hch4.block q hq hS)
          have := (HO2.out.lt q h).1
          omega
        have HR3 := Lib.hid hR3
        clear hch hR3
        go_roundw
        case rel =>
          refine ⟨k + 1, xs ++ [riN sk], ruS sk, A3, c3, by omega, by go_num, rfl, by omega, Lib.hid (by simp [HK.out]), HBs, Lib.hid ?_, Lib.hid ?_, Lib.hid ?_, HR3⟩
          · rw [HL.out, HLs.out]; simp
          · rw [HSS.out, HSs.out]
          · rw [cellsI_snoc]; exact HO3.out
        case measure => simp [intOf]; omega
      · have hkn' : k = n := by omega
        have E1 : Hid (rsL s most = xs) := Lib.hid (by
          have e1 : rsS s most = sk := by rw [rsS, ← HN.out, ← HS.out, HSS.out, hkn', Nat.sub_self]; rfl
          rw [rsL, e1, if_pos he, ← HN.out, ← HS.out, HL.out, hkn', Nat.sub_self]; simp [rrL])
        have E2 : Hid (rsS s most = sk) := Lib.hid (by rw [rsS, ← HN.out, ← HS.out, HSS.out, hkn', Nat.sub_self]; rfl)
        clear hkn' he
        go_wp2_with fail
        go_ret
        rw [E1.out, E2.out, ← HK.out]
        exact ⟨Ao, co, rfl, HO.out, HR.out⟩
    · have E2 : Hid (rsS s most = sk) := Lib.hid (by
        rw [rsS, ← HN.out, ← HS.out, HSS.out]
        cases n - k with
        | zero => rfl
        | succ m => rw [rrS, if_neg he])
      have E1 : Hid (rsL s most = []) := Lib.hid (by rw [rsL, E2.out, if_neg he])
      have q : (sk.e == 0) = false := by rw [beq_eq_false_iff_ne]; exact he
      have q2 : (sk.e != 0) = true := by rw [bne_iff_ne]; exact he
      clear he
      generalize hE : sk.e = E at k1 q q2
      clear hE
      by_cases hkn : k < n
      · go_wp2_with fail
        go_ret
        rw [E1.out, E2.out]
        exact ⟨none, 0, rfl, World.ownsRow_nil _ _ _ _, HR.out⟩
      · go_wp2_with fail
        go_ret
        rw [E1.out, E2.out]
        exact ⟨none, 0, rfl, World.ownsRow_nil _ _ _ _, HR.out⟩
theorem rl_nil (most : Int) (hm : most ≤ 9223372036854775807) (w : World) : Calls Try.prog 28 #[.pointer none, .int .i64 most] w fun x w' => x = .returned (.slice none 0 0) ∧ w = w' := by
  go_enter Try.func28, Try.ntmps28
  go_wp2_with fail
  refine (count_nil most hm w).mono ?_
  rintro e w' ⟨rfl, rfl⟩
  go_wp2_with fail
  go_loop [7] (fun i => i = .int .i64 0) (fun _ => 0)
  case atStart => rfl
  case round =>
    subst hrel
    go_wp2_with fail
    go_ret
    exact ⟨rfl, rfl⟩
end Go.Proofs.Ytjhjhklidofhgaa
