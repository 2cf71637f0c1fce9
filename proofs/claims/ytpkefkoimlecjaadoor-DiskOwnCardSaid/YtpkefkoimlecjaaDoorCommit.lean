/- A disk: Commit. -/
import Derived.Test.YtpkefkoimlecjaaDoorChop
import Derived.Test.YtpkefkoimlecjaaDoorRefSum
import Derived.Deep.Cut
import Derived.Deep.RegionWith
namespace Go.Proofs.YtpkefkoimlecjaaDoor
open Go.RowKit

/-- What was staged is the snapshot; nothing is staged. -/
theorem DiskAt.shift {w : World} {g : Nat} {d : Dk} {y : Lay} (h : DiskAt w g d y) :
    DiskAt ((w.setCell ⟨g, 5, none⟩ (.slice y.ta d.staged.length y.tc)).setCell ⟨g, 6, none⟩ (.slice none 0 0)) g { d with snap := d.staged, staged := [] } { y with sa := y.ta, sc := y.tc, ta := none, tc := 0 } := by
  have hcg := (chg_g g 5 w (.slice y.ta d.staged.length y.tc)).trans (chg_g g 6 _ (.slice none 0 0))
  refine ⟨?_, ?_, ?_, own_nil _ _, h.lt, (fun k hk => by cases hk), h.r, h.ll, h.tl, Nat.zero_le _⟩
  · simp [World.setCell, Array.getElem?_modify, h.blk, Dk.cells]
  · exact hcg.own h.l (fun k hk e => by have := (h.l.lt k hk).1; omega)
  · exact hcg.own h.t (fun k hk e => by have := (h.t.lt k hk).1; omega)

/-- What Commit answers, and what the disk is behind it. -/
def cmE (d : Dk) (sum n : Int) : Int := if (crc d.staged : Int) = sum then (if n < 0 ∨ (d.log.length : Int) < n then 151 else 0) else 20
def cmD (d : Dk) (sum n : Int) : Dk := if (crc d.staged : Int) = sum then (if n < 0 ∨ (d.log.length : Int) < n then d else { d with snap := d.staged, staged := [], log := d.log.drop n.toNat }) else d

set_option maxHeartbeats 4000000 in
theorem commit1_any (g pd ps pf : Nat) (d : Dk) (y : Lay) (sum n : Int) (w : World) (h : DiskAt w g d y) (hh : Hal w)
    (hd : w.cell? ⟨pd, 0, none⟩ = some (.pointer (some ⟨g, 0, none⟩))) (hs : w.cell? ⟨ps, 0, none⟩ = some (.int .u32 sum)) (ha : w.cell? ⟨pf, 0, none⟩ = some (.int .i64 n)) (hpd : pd ≠ g) (hpf : pf ≠ g) :
    Calls Tryd.prog 28 #[.pointer (some ⟨pd, 0, none⟩), .pointer (some ⟨ps, 0, none⟩), .pointer (some ⟨pf, 0, none⟩)] w fun e w' => e = .returned (.int .i64 (cmE d sum n)) ∧ ∃ y', DiskAt w' g (cmD d sum n) y' ∧ Foot g y y' w w' := by
  have hl := h.glt
  have hlr := h.r
  have hll := h.ll
  have c6 := h.c6
  have hcrc := Lib.hid (sum_n y.ta y.tc d.staged.length d.staged w.drew w.heap.size ((bytes_own h.t).2.drew) hh rfl)
  have hn1 : Chg NoBlk w w.drew := (Chg.refl _ w).drew
  have HD := Lib.hid (h.chg0 hn1)
  have HF := Lib.hid (Foot.of_no hn1 g y)
  clear h hh hn1
  go_enter Tryd.func28, Tryd.ntmps28
  go_wp2_with fail
  go_region_held3 (fun w' => w'.cell? ⟨pd, 0, none⟩ = some (.pointer (some ⟨g, 0, none⟩)) ∧ w'.cell? ⟨ps, 0, none⟩ = some (.int .u32 sum) ∧ w'.cell? ⟨g, 6, none⟩ = some (.slice y.ta d.staged.length y.tc))
    (refine ⟨?_, ?_, ?_⟩ <;> (first | with_reducible exact hd | with_reducible exact hs | with_reducible exact c6 | with_reducible exact keepD hd | with_reducible exact keepD hs | with_reducible exact keepD c6))
    ((go_at_call 29; refine hcrc.out.mono ?_; rintro e w5 ⟨rfl, rfl⟩))
  have hdW : w.drew.cell? ⟨pd, 0, none⟩ = some (.pointer (some ⟨g, 0, none⟩)) := hd
  have haW : w.drew.cell? ⟨pf, 0, none⟩ = some (.int .i64 n) := ha
  have hlW : g < w.drew.heap.size := hl
  clear hcrc hd hs ha c6 hl
  generalize w.drew = W at HD HF hdW haW hlW ⊢
  have c4 := HD.out.c4
  by_cases hsm : (crc d.staged : Int) = sum
  · have hb : ((crc d.staged : Int) != sum) = false := by rw [hsm]; simp
    by_cases h2 : n < 0 ∨ (d.log.length : Int) < n
    · have e1 : cmE d sum n = 151 := by unfold cmE; rw [if_pos hsm, if_pos h2]
      have e2 : cmD d sum n = d := by unfold cmD; rw [if_pos hsm, if_pos h2]
      have E1 := Lib.hid e1
      have E2 := Lib.hid e2
      clear e1 e2 hsm
      generalize d.log.length = N at *
      rcases h2 with h2 | h2
      · go_wp2_with fail
        go_quiet (fail)
        go_wp2_with fail
        go_ret
        exact ⟨by rw [E1.out]; rfl, y, by rw [E2.out]; exact HD.out.drewN _, HF.out.trans (Foot.of_no ((Chg.refl _ W).drewN _) g y)⟩
      · by_cases h3 : n < 0
        · omega
        have h3' : decide (n < 0) = false := by rw [decide_eq_false_iff_not]; exact h3
        have h2' : decide ((N : Int) < n) = true := by rw [decide_eq_true_eq]; exact h2
        go_wp2_with fail
        go_quiet (fail)
        go_wp2_with fail
        go_ret
        exact ⟨by rw [E1.out]; rfl, y, by rw [E2.out]; exact HD.out.drewN _, HF.out.trans (Foot.of_no ((Chg.refl _ W).drewN _) g y)⟩
    · have e1 : cmE d sum n = 0 := by unfold cmE; rw [if_pos hsm, if_neg h2]
      have e2 : cmD d sum n = { d with snap := d.staged, staged := [], log := d.log.drop n.toNat } := by unfold cmD; rw [if_pos hsm, if_neg h2]
      obtain ⟨k, rfl⟩ := Int.eq_ofNat_of_zero_le (show 0 ≤ n by omega)
      have E1 := Lib.hid e1
      have E2 := Lib.hid (show cmD d sum (k : Int) = { d with snap := d.staged, staged := [], log := d.log.drop k } from e2)
      have hkl : k ≤ d.log.length := by omega
      obtain ⟨N, hN⟩ : ∃ N, N = d.log.length := ⟨_, rfl⟩
      have HN := Lib.hid hN
      have hlcN : N ≤ y.lc := by
        rw [hN]
        rcases HD.out.l.2 with ⟨hv, h0⟩ | ⟨b, cap, cur, hv, hb, hg, h1, _⟩
        · rw [h0]; exact Nat.zero_le _
        · injection hv with e1 e2 e3; rw [e3]; exact h1
      rw [← hN] at c4 hkl hll
      have hn3 : decide ((k : Int) < 0) = false := by rw [decide_eq_false_iff_not]; omega
      have hn4 : decide ((N : Int) < (k : Int)) = false := by rw [decide_eq_false_iff_not]; omega
      have hk1 : (0 : Int) ≤ (k : Int) := by omega
      have hk2 : (k : Int) ≤ (N : Int) := by omega
      clear e1 e2 h2 hN hsm
      go_wp2_with fail
      go_quiet (fail)
      have hn : Chg NoBlk W (W.drewN nq) := (Chg.refl _ W).drewN _
      have HD2 := Lib.hid (HD.out.chg0 hn)
      have HF2 := Lib.hid (HF.out.trans (Foot.of_no hn g y))
      generalize hX : W.drewN nq = X at HD2 HF2 ⊢
      have hd2 : X.cell? ⟨pd, 0, none⟩ = some (.pointer (some ⟨g, 0, none⟩)) := by rw [← hX]; exact hdW
      have ha2 : X.cell? ⟨pf, 0, none⟩ = some (.int .i64 (k : Int)) := by rw [← hX]; exact haW
      have c5 := HD2.out.c5
      have c6 := HD2.out.c6
      have f5 := HD2.out.fz 5
      have f6 := HD2.out.fz 6
      have hlX := HD2.out.glt
      clear hdW haW hlW hn hX c4 HD HF
      go_upto_region 5 with fail
      go_cut [3] from 4 (fun s3 w' => s3 = .int .i64 0 ∧ w'.cell? ⟨pd, 0, none⟩ = some (.pointer (some ⟨g, 0, none⟩)) ∧ w'.cell? ⟨pf, 0, none⟩ = some (.int .i64 (k : Int)) ∧ Hid (DiskAt w' g { d with snap := d.staged, staged := [] } { y with sa := y.ta, sc := y.tc, ta := none, tc := 0 }) ∧ Hid (Foot g y { y with sa := y.ta, sc := y.tc, ta := none, tc := 0 } w w'))
      case first =>
        go_region_law
          (fail)
        all_goals
          go_wp2_with fail
          go_meet
          case rel => exact ⟨rfl, keepS (keepS hd2 hpd) hpd, keepS (keepS ha2 hpf) hpf, Lib.hid (HD2.out.shift.chg0 ((Chg.refl _ _).drew)), Lib.hid (HF2.out.trans ⟨(((chg_g g 5 X _).trans (chg_g g 6 _ _)).drew).mono (fun _ _ hk => .inl hk), fun _ hk => .inl hk⟩)⟩
      case rest =>
        obtain ⟨rfl, hd5, ha5, HD5, HF5⟩ := hcut
        have hl5 := HD5.out.glt
        have c4 := HD5.out.c4
        have hbd := (bytes_own HD5.out.l).2.drop (k := k) (by show k ≤ d.log.length; rw [← HN.out]; exact hkl)
        rw [show ({ d with snap := d.staged, staged := [] } : Dk).log.length = N from HN.out.symm] at c4
        have hbl : N - k = (d.log.drop k).length := by rw [List.length_drop, ← HN.out]
        have hn6 : Chg NoBlk wc wc.drew := (Chg.refl _ wc).drew
        have HBD := Lib.hid (hbd.chg hn6 (fun _ _ _ h => h))
        have HBL := Lib.hid hbl
        have HD6 := Lib.hid (HD5.out.chg0 hn6)
        have HF6 := Lib.hid (HF5.out.trans (Foot.of_no hn6 g _))
        clear hbd hbl hn6
        generalize hZ : (if y.lc = k then y.la else y.la.map (fun x => x.add k)) = Z at HBD
        go_wp2_with fail
        go_region_with
          ((go_at_call 27; refine (copied_any Z (y.lc - k) (N - k) (d.log.drop k) wc.drew HBD.out (by rw [← HBL.out]; omega) HBL.out).mono ?_; rintro e w5 ⟨A5, c5, rfl, ho5, hb5⟩; have HO5 := Lib.hid ho5; have hn5 : Chg NoBlk wc.drew w5 := Chg.of_below hb5; have HN5 := Lib.hid hn5; have HD7 := Lib.hid (HD6.out.chg0 hn5); have e5 : w5.cell? ⟨pd, 0, none⟩ = some (.pointer (some ⟨g, 0, none⟩)) := hn5.cell (w := wc.drew) hd5 (fun h => h); have e6 : w5.cell? ⟨pf, 0, none⟩ = some (.int .i64 (k : Int)) := hn5.cell (w := wc.drew) ha5 (fun h => h); have k4 := HD7.out.c4; have f4 := HD7.out.fz 4; have g4 := HD7.out.glt; clear ho5 hb5 hn5))
        all_goals
          go_wp2_with fail
          go_ret
          rw [E1.out, E2.out]
          refine ⟨rfl, _, HD7.out.setLog A5 c5 (N - k) (d.log.drop k) HBL.out (by show N - k ≤ d.room; omega) (own_low HO5.out (Nat.succ_le_of_lt hl5)) (fun q hq e => ?_) (fun q hq => by cases hq), HF6.out.trans ⟨(HN5.out.mono (fun _ _ hk => hk.elim)).trans ((chg_g g 4 w5 _).mono (fun _ _ hk => .inl hk)), fun q hk => .inr ?_⟩⟩
          · have h1 := (HO5.out.lt q (by rw [ownBlock_map]; exact e)).1
            have h2 := (HD6.out.s.lt q (by rw [ownBlock_map]; exact hq)).2
            exact absurd h2 (Nat.not_lt.2 h1)
          · exact (HO5.out.lt q (by rw [ownBlock_map]; exact hk)).1
  · have e1 : cmE d sum n = 20 := by unfold cmE; rw [if_neg hsm]
    have e2 : cmD d sum n = d := by unfold cmD; rw [if_neg hsm]
    have hb : ((crc d.staged : Int) != sum) = true := by rw [bne_iff_ne]; exact hsm
    have E1 := Lib.hid e1
    have E2 := Lib.hid e2
    clear e1 e2 hsm
    go_wp2_with fail
    go_ret
    exact ⟨by rw [E1.out]; rfl, y, by rw [E2.out]; exact HD.out, HF.out⟩
end Go.Proofs.YtpkefkoimlecjaaDoor
