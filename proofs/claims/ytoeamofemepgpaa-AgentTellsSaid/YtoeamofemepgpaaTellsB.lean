/- Chapter 20: AgentTells, where the wall ends it. -/
import Derived.Test.YtoeamofemepgpaaTellsP
namespace Go.Proofs.Ytoeamofemepgpaa
open Go.RowKit

set_option maxRecDepth 10000 in
set_option maxHeartbeats 16000000 in
theorem tells_wall (w : World) (j tk wl : Int) (hj : 1 ≤ j ∧ j ≤ 100) (ht : 1 ≤ tk ∧ tk ≤ 20) (hw : 1 ≤ wl ∧ wl ≤ 20) (hcase : wl < tk) :
    Calls Try.prog 3 #[.int .i64 j, .int .i64 tk, .int .i64 wl] w fun e w' => e = .returned (.bool true) ∧ Below w.heap.size w w' := by
  have HE := Lib.hid (show EndsT tk wl (3 + wl) 2 from ⟨ht, hw, by omega⟩)
  have HJ := Lib.hid hj
  have HT := Lib.hid ht
  have HW := Lib.hid hw
  have HQ := Lib.hid hcase
  clear hj ht hw hcase
  go_enter Try.func3, Try.ntmps3
  go_upto_region 4 with (go_at_call 8; refine (awake_any w).mono ?_; rintro e w1 ⟨rfl, hb⟩; have HB1 := Lib.hid hb; clear hb)
  have c1 : ¬ j < 1 := by have := HJ.out; omega
  have c2 : ¬ 100 < j := by have := HJ.out; omega
  have c3 : ¬ tk < 1 := by have := HT.out; omega
  have c4 : ¬ 20 < tk := by have := HT.out; omega
  have c5 : ¬ wl < 1 := by have := HW.out; omega
  have c6 : ¬ 20 < wl := by have := HW.out; omega
  go_upto_region 6 with fail
  clear c1 c2 c3 c4 c5 c6
  obtain ⟨w2, hw2⟩ : ∃ y, y = w1.alloc (.cells #[.int .i64 tk] 3) := ⟨_, rfl⟩
  have hb2 : Below w1.heap.size w1 w2 := by rw [hw2]; exact (Below.refl _ w1).alloc (Nat.le_refl _) _
  have hc2 : CellsIn w2 w2.heap.size 1 (some ⟨w1.heap.size, 0, none⟩) 1 (ints [tk]) := by
    have := cellsIn_alloc w1 #[.int .i64 tk] 3 (0, 0) 1 1 rfl
    rw [← hw2] at this
    rw [hw2, World.size_alloc, ← hw2]
    exact this
  have HB2 := Lib.hid (HB1.out.trans (hb2.mono HB1.out.size))
  have HNEW := Lib.hid (new_ok w2 3 gT (some ⟨w1.heap.size, 0, none⟩) 1 1 [tk] (by decide) (by decide) rfl hc2 rfl (by decide) (fun h => by cases h))
  clear hb2 hc2 HB1
  go_upto_region 7 with (rw [← hw2]; go_at_call 9; refine HNEW.out.mono ?_; clear HNEW; rintro e w3 ⟨A, L, rfl, ha, hb, ho⟩; have HL3 : Hid (Lives w w3 A L (sT0 tk)) := Lib.hid ⟨ha, fun k hk => Nat.le_trans HB2.out.size (ho k hk), HB2.out.trans (hb.mono HB2.out.size)⟩; clear ha hb ho)
  clear hw2 HB2
  have HF0 : Hid (Fine (sT0 tk) 0) := Lib.hid (fine_new 3 gT [tk] (Nat.le_of_ble_eq_true rfl))
  have HF1 : Hid (Fine ((sT0 tk).boots 0) 0) := Lib.hid (by rw [← tl1]; exact fine_boot HF0.out)
  have HF2 : Hid (Fine (sT tk 1 false 0 []) 1) := Lib.hid (by rw [← tl2]; exact fine_hear _ _ _ HF1.out)
  go_upto_region 8 with (go_at_call 10; refine (boot_any w3 HL3.out.at_ 0).mono ?_; rintro e w4 ⟨rfl, hl⟩; rw [tl1] at hl; obtain ⟨L4, hl4, _, _⟩ := HL3.out.left hl; have HL4 := Lib.hid hl4; clear hl hl4 HL3)
  go_upto_region 9 with (go_at_call 11; refine (hear_any w4 HL4.out.at_ HF1.out (by decide) 1 (mk 2 2 3 0 1 40 0 0 0 0 0 0 0 0 0) none 0 0 _ rfl).mono ?_; rintro e w5 ⟨⟨r, rfl⟩, hl⟩; rw [tl2] at hl; obtain ⟨L5, hl5, _, _⟩ := HL4.out.left hl; have HL5 := Lib.hid hl5; clear hl hl5 HL4)
  obtain ⟨P, hP⟩ : ∃ x, x = w5.heap.size := ⟨_, rfl⟩
  have hn6 : ¬ L5.own A P := fun ho => by have := HL5.out.at_.own_lt ho; omega
  have hw6 : (w5.alloc (.cells #[.int .i64 3, .int .i64 2, .int .i64 3, .int .i64 0, .int .i64 0, .int .i64 0, .int .i64 j, .int .i64 2, .int .i64 2, .int .i64 wl, .int .i64 0, .int .i64 1, .int .i64 0, .int .i64 0, .int .i64 0, .int .i64 0, .int .i64 0, .slice none 0 0, .int .i64 0, .int .i64 0, .int .i64 0] 35)).heap[P]? = some (.cells #[.int .i64 3, .int .i64 2, .int .i64 3, .int .i64 0, .int .i64 0, .int .i64 0, .int .i64 j, .int .i64 2, .int .i64 2, .int .i64 wl, .int .i64 0, .int .i64 1, .int .i64 0, .int .i64 0, .int .i64 0, .int .i64 0, .int .i64 0, .slice none 0 0, .int .i64 0, .int .i64 0, .int .i64 0] 35 (0, 0)) := by rw [hP]; exact heap_alloc_new w5 _
  have HL6 : Hid (Lives w (w5.alloc (.cells #[.int .i64 3, .int .i64 2, .int .i64 3, .int .i64 0, .int .i64 0, .int .i64 0, .int .i64 j, .int .i64 2, .int .i64 2, .int .i64 wl, .int .i64 0, .int .i64 1, .int .i64 0, .int .i64 0, .int .i64 0, .int .i64 0, .int .i64 0, .slice none 0 0, .int .i64 0, .int .i64 0, .int .i64 0] 35)) A L5 (sT tk 1 false 0 [])) := Lib.hid (HL5.out.below ((Below.refl _ _).alloc (Nat.le_refl _) _))
  have HP6 := Lib.hid hw6
  have HN6 := Lib.hid hn6
  have HPB : Hid (w.heap.size ≤ P) := Lib.hid (by rw [hP]; exact HL5.out.bel.size)
  clear hw6 hn6 HL5
  go_upto_region 10 with (refine wpList_store_row rfl 35 (.tmp 9) (.tmp 58) rfl w5.heap.size _ rfl rfl 35 _ (heap_alloc_new w5 _) (by kernel_rfl) rfl (by simp [Value.oneCell']) ?_; rw [World.setRow_alloc_new])
  rw [← hP]
  generalize w5.alloc (.cells #[.int .i64 3, .int .i64 2, .int .i64 3, .int .i64 0, .int .i64 0, .int .i64 0, .int .i64 j, .int .i64 2, .int .i64 2, .int .i64 wl, .int .i64 0, .int .i64 1, .int .i64 0, .int .i64 0, .int .i64 0, .int .i64 0, .int .i64 0, .slice none 0 0, .int .i64 0, .int .i64 0, .int .i64 0] 35) = w6 at *
  clear hP
  go_upto_region 11 with (first | (refine wpList_load_row rfl 35 (.tmp 9) rfl P rfl 35 #[.int .i64 3, .int .i64 2, .int .i64 3, .int .i64 0, .int .i64 0, .int .i64 0, .int .i64 j, .int .i64 2, .int .i64 2, .int .i64 wl, .int .i64 0, .int .i64 1, .int .i64 0, .int .i64 0, .int .i64 0, .int .i64 0, .int .i64 0, .slice none 0 0, .int .i64 0, .int .i64 0, .int .i64 0] (0, 0) _ HP6.out Try.underlying35 rfl (by kernel_rfl) ?_) | (go_at_call 11; refine (hear_any w6 HL6.out.at_ HF2.out (by decide) 3 (mk 3 2 3 0 0 0 j 2 2 wl 0 1 0 0 0) none 0 0 _ rfl).mono ?_; rintro e w7 ⟨⟨r, rfl⟩, hl⟩; rw [tl3 HJ.out HT.out HW.out] at hl; obtain ⟨L7, hl2, hc2, hg2⟩ := HL6.out.left hl; have HL7 := Lib.hid hl2; have HP7 : Hid (w7.heap[P]? = some (.cells #[.int .i64 3, .int .i64 2, .int .i64 3, .int .i64 0, .int .i64 0, .int .i64 0, .int .i64 j, .int .i64 2, .int .i64 2, .int .i64 wl, .int .i64 0, .int .i64 1, .int .i64 0, .int .i64 0, .int .i64 0, .int .i64 0, .int .i64 0, .slice none 0 0, .int .i64 0, .int .i64 0, .int .i64 0] 35 (0, 0))) := Lib.hid ((hc2.block P (ltb HP6.out) HN6.out).trans HP6.out); have HN7 : Hid (¬ L7.own A P) := Lib.hid (fun ho => (hg2 P ho).elim HN6.out (fun h => by have := ltb HP6.out; omega)); clear hl hl2 hc2 hg2 HL6 HP6 HN6))
  have hw1 : IntKind.i64.wrap (3 + tk) = 3 + tk := IntWalk.i64_in _ (by have := HT.out; omega)
  have hw2 : IntKind.i64.wrap (3 + wl) = 3 + wl := IntWalk.i64_in _ (by have := HW.out; omega)
  have hcq : wl < tk := HQ.out
  go_upto_region 16 with fail
  clear hw1 hw2 hcq
  obtain ⟨E, hE⟩ : ∃ x, x = 3 + wl := ⟨_, rfl⟩
  rw [← hE] at HE ⊢
  clear hE
  have hEb := (endT HE.out).1
  have hEb2 := (endT HE.out).2.1
  have hw3 : IntKind.i64.wrap (E - 1) = E - 1 := IntWalk.i64_in _ (by omega)
  have hw4 : IntKind.i64.wrap (E + 9) = E + 9 := IntWalk.i64_in _ (by omega)
  have hw5 : IntKind.i64.wrap (E + 20) = E + 20 := IntWalk.i64_in _ (by omega)
  have HR1 := Lib.hid (runs1T (j := j) HE.out)
  have HR0 := Lib.hid (runs0T (j := j) HE.out)
  have HR1n : Hid (((sT tk 3 false 0 [pT j tk wl]).runsAt (E - 1)).length = 1) := Lib.hid (by rw [HR1.out]; rfl)
  have HR0n : Hid (((sT tk 3 false 0 [pT j tk wl]).runsAt E).length = 0) := Lib.hid (by rw [HR0.out]; rfl)
  go_upto_region 18 with (first | (go_at_call 12; refine (running_ag w7 HL7.out.at_ (Nat.le_of_ble_eq_true rfl) (E - 1)).mono ?_; rintro e w8 ⟨RA, rc, rfl, hr, hb⟩; rw [HR1n.out]; have HL8 := Lib.hid (HL7.out.below hb); have HP8 : Hid (w8.heap[P]? = some (.cells #[.int .i64 3, .int .i64 2, .int .i64 3, .int .i64 0, .int .i64 0, .int .i64 0, .int .i64 j, .int .i64 2, .int .i64 2, .int .i64 wl, .int .i64 0, .int .i64 1, .int .i64 0, .int .i64 0, .int .i64 0, .int .i64 0, .int .i64 0, .slice none 0 0, .int .i64 0, .int .i64 0, .int .i64 0] 35 (0, 0))) := Lib.hid ((hb.block P (ltb HP7.out)).trans HP7.out); have HN8 := HN7; clear hr hb HL7 HP7 HN7 HR1n) | (go_at_call 12; refine (running_ag w8 HL8.out.at_ (Nat.le_of_ble_eq_true rfl) E).mono ?_; rintro e w9 ⟨RA2, rc2, rfl, hr, hb⟩; rw [HR0n.out]; have HL9 := Lib.hid (HL8.out.below hb); have HP9 : Hid (w9.heap[P]? = some (.cells #[.int .i64 3, .int .i64 2, .int .i64 3, .int .i64 0, .int .i64 0, .int .i64 0, .int .i64 j, .int .i64 2, .int .i64 2, .int .i64 wl, .int .i64 0, .int .i64 1, .int .i64 0, .int .i64 0, .int .i64 0, .int .i64 0, .int .i64 0, .slice none 0 0, .int .i64 0, .int .i64 0, .int .i64 0] 35 (0, 0))) := Lib.hid ((hb.block P (ltb HP8.out)).trans HP8.out); have HN9 := HN8; clear hr hb HL8 HP8 HN8 HR0n))
  clear hw3
  go_wp2_with fail
  have HF9 : Hid (w9.heap.size = w9.heap.size) := Lib.hid rfl
  have HD := Lib.hid (endT HE.out)
  go_loopw [12] (fun v wr => ∃ (i : Nat) (L : Lay) (bt : Bool) (a t0 st : Int), i ≤ 9 ∧ v = .int .i64 (E + i) ∧ Hid (Lives w wr A L (sT tk t0 bt a [qT j tk wl E 2 i])) ∧ Hid (t0 ≤ E + i ∧ 0 ≤ t0 ∧ 0 ≤ a ∧ a ≤ 1000) ∧ Hid (wr.heap[P]? = some (.cells #[.int .i64 3, .int .i64 2, .int .i64 3, .int .i64 0, .int .i64 0, .int .i64 0, .int .i64 j, .int .i64 2, .int .i64 st, .int .i64 wl, .int .i64 0, .int .i64 1, .int .i64 0, .int .i64 0, .int .i64 0, .int .i64 0, .int .i64 0, .slice none 0 0, .int .i64 0, .int .i64 0, .int .i64 0] 35 (0, 0))) ∧ Hid (¬ L.own A P)) (fun v _ => (E + 9 - intOf v).toNat)
  case atStart => exact ⟨0, L7, false, 0, 3, 2, by omega, by simp, HL9, Lib.hid ⟨by simp; omega, by decide, by decide, by decide⟩, HP9, HN9⟩
  case round =>
    obtain ⟨i, L, bt, a, t0, st, hi, rfl, HL, HC, HP, HN⟩ := hrel
    by_cases hi9 : i < 9
    · have hlt : E + (i : Int) < E + 9 := by omega
      have hti : 0 ≤ E + (i : Int) ∧ E + (i : Int) ≤ 1000 := by omega
      have HS := Lib.hid (stepS (tk := tk) (t0 := t0) (a := a) (bt := bt) (t := E + i) HC.out.1 (by omega) (settleT (j := j) HE.out i))
      have HFi : Hid (Fine (sT tk t0 bt a [qT j tk wl E 2 i]) 1) := Lib.hid (fineT ⟨HC.out.2.1, by have := HC.out.1; omega⟩ HC.out.2.2 (fineQ i ⟨hEb, hEb2⟩ (by omega)))
      obtain ⟨b1, hb1⟩ : ∃ x, x = (sT tk t0 bt a [qT j tk wl E 2 i]).beats (E + i) := ⟨_, rfl⟩
      have HS1 : Hid ((sT tk t0 bt a [qT j tk wl E 2 i]).stepA (E + i) = sT tk (E + i) true (if b1 then E + i else a) [qT j tk wl E 2 (i + 1)]) := Lib.hid (by rw [HS.out.1, ← hb1, stepT])
      have HS2 : Hid ((sT tk t0 bt a [qT j tk wl E 2 i]).stepN (E + i) = numT b1 (decide (i % 4 = 0))) := Lib.hid (by rw [HS.out.2.1, ← hb1, tellsT])
      have HS3 : Hid ((sT tk t0 bt a [qT j tk wl E 2 i]).stepO (E + i) = outT b1 (decide (i % 4 = 0)) (rT j tk wl E 2 i)) := Lib.hid (by rw [HS.out.2.2, ← hb1, tellsT])
      clear hb1 HS
      obtain ⟨n, hn⟩ : ∃ x, x = numT b1 (decide (i % 4 = 0)) := ⟨_, rfl⟩
      rw [← hn] at HS2
      have HNn := Lib.hid hn
      have hn2 : n ≤ 2 := by rw [hn]; cases b1 <;> cases decide (i % 4 = 0) <;> simp [numT]
      clear hn
      go_upto_region 22 with (go_at_call 13; refine (step_any wr HL.out.at_ HFi.out (by decide) (E + i)).mono ?_; rintro e wa ⟨SA, sc, rfl, hs, ha, hc⟩; rw [HS2.out] at hs ⊢; rw [HS3.out] at hs; rw [HS1.out] at ha; have HLa := Lib.hid (HL.out.chg ha hc); have HSa := Lib.hid hs; have HPa : Hid (wa.heap[P]? = some (.cells #[.int .i64 3, .int .i64 2, .int .i64 3, .int .i64 0, .int .i64 0, .int .i64 0, .int .i64 j, .int .i64 2, .int .i64 st, .int .i64 wl, .int .i64 0, .int .i64 1, .int .i64 0, .int .i64 0, .int .i64 0, .int .i64 0, .int .i64 0, .slice none 0 0, .int .i64 0, .int .i64 0, .int .i64 0] 35 (0, 0))) := Lib.hid ((hc.block P (ltb HP.out) HN.out).trans HP.out); clear hs ha hc HL HP HFi HS1 HS2 HS3)
      go_wp2_with fail
      go_loopw [14, 15] (fun td iv wi => ∃ k : Nat, k ≤ n ∧ iv = .int .i64 k ∧ td = .int .i64 (cntR b1 k) ∧ wi = wa) (fun _ iv _ => n - (intOf iv).toNat)
      case atStart => exact ⟨0, Nat.zero_le _, rfl, rfl, rfl⟩
      case round =>
        obtain ⟨k, hk, rfl, rfl, rfl⟩ := hrel
        by_cases hkn : k < n
        · have hk0 : (0 : Int) ≤ (k : Int) := by omega
          have hk1 : (k : Int) < (n : Int) := by omega
          obtain ⟨g, hg, _, hgc⟩ := own_cells HSa.out (by omega)
          subst hg
          have HGC := Lib.hid hgc
          have hoa := fun o ho => out_at b1 (decide (i % 4 = 0)) (rT j tk wl E 2 i) k o (by rw [← HNn.out]; exact hkn) ho
          have HOA := Lib.hid hoa
          clear hgc hoa
          cases hr : isRep b1 k
          · have x0 : wr.cell? ⟨g, k * 21, none⟩ = some (.int .i64 1) := by
              have := HGC.out (21 * k + 0) (.int .i64 1) (by rw [HOA.out 0 (by omega), hr]; rfl)
              rwa [show 21 * k + 0 = k * 21 by omega] at this
            clear HGC HOA
            go_wp2_with fail
            go_roundw
            case rel => exact ⟨k + 1, by omega, by go_num, by simp [cntR, hr], trivial⟩
            case measure => simp [intOf]; omega
          · have x0 : wr.cell? ⟨g, k * 21, none⟩ = some (.int .i64 5) := by
              have := HGC.out (21 * k + 0) (.int .i64 5) (by rw [HOA.out 0 (by omega), hr]; rfl)
              rwa [show 21 * k + 0 = k * 21 by omega] at this
            have x2 : wr.cell? ⟨g, k * 21 + 2, none⟩ = some (.int .i64 3) := by
              have := HGC.out (21 * k + 2) (.int .i64 3) (by rw [HOA.out 2 (by omega), hr]; rfl)
              rwa [show 21 * k + 2 = k * 21 + 2 by omega] at this
            have x6 : wr.cell? ⟨g, k * 21 + 6, none⟩ = some (.int .i64 j) := by
              have := HGC.out (21 * k + 6) (.int .i64 j) (by rw [HOA.out 6 (by omega), hr]; rfl)
              rwa [show 21 * k + 6 = k * 21 + 6 by omega] at this
            have x7 : wr.cell? ⟨g, k * 21 + 7, none⟩ = some (.int .i64 2) := by
              have := HGC.out (21 * k + 7) (.int .i64 2) (by rw [HOA.out 7 (by omega), hr]; rfl)
              rwa [show 21 * k + 7 = k * 21 + 7 by omega] at this
            have x10 : wr.cell? ⟨g, k * 21 + 10, none⟩ = some (.int .i64 2) := by
              have := HGC.out (21 * k + 10) (.int .i64 2) (by rw [HOA.out 10 (by omega), hr]; rfl)
              rwa [show 21 * k + 10 = k * 21 + 10 by omega] at this
            have hcw : IntKind.i64.wrap ((cntR b1 k : Int) + 1) = (cntR b1 (k + 1) : Int) := by
              rw [IntWalk.i64_in _ (by have := cnt_le b1 k; omega)]
              simp [cntR, hr]
            clear HGC HOA
            go_wp2_with fail
            go_roundw
            case rel => exact ⟨k + 1, by omega, by go_num, rfl, trivial⟩
            case measure => simp [intOf]; omega
        · obtain rfl : k = n := by omega
          have hcn := cnt_all b1 (decide (i % 4 = 0))
          rw [← HNn.out] at hcn
          rw [hcn]
          have HPc := HPa
          have HLc := HLa
          clear HPa HLa HSa hcn
          have HRX : Hid (∀ tt bb aa x, ((sT tk tt bb aa [qT j tk wl E 2 (i + 1)]).runsAt x).length = 0) := Lib.hid (fun tt bb aa x => by rw [runs_none (by rw [howT]; decide)]; rfl)
          have HHL : Hid ((sT tk (E + i) true (if b1 then E + i else a) [qT j tk wl E 2 (i + 1)]).hears (mk 3 2 3 0 0 0 j 2 (E + i) wl 0 1 0 0 0) 0 (E + i) = sT tk (E + i) true (if b1 then E + i else a) [qT j tk wl E 2 (i + 1)]) := Lib.hid (hearL HJ.out HW.out (Int.le_refl _) hti (by rw [howT]; decide) (keyT _))
          have HA2 : Hid (0 ≤ (if b1 then E + (i : Int) else a) ∧ (if b1 then E + (i : Int) else a) ≤ 1000) := Lib.hid (by split; exact hti; exact HC.out.2.2)
          obtain ⟨a2, ha2⟩ : ∃ x, x = if b1 then E + (i : Int) else a := ⟨_, rfl⟩
          rw [← ha2] at HHL HA2 HLc
          clear ha2
          have HFj : Hid (Fine (sT tk (E + i) true a2 [qT j tk wl E 2 (i + 1)]) 1) := Lib.hid (fineT hti HA2.out (fineQ (i + 1) ⟨hEb, hEb2⟩ (by omega)))
          have hcell8 : wr.cell? ⟨P, 8, none⟩ = some (.int .i64 st) := cellb (i := 8) HPc.out rfl
          have hfr8 : wr.frozen? ⟨P, 8, none⟩ = false := fzb HPc.out 8
          have HPd : Hid ((wr.setCell ⟨P, 8, none⟩ (.int .i64 (E + i))).heap[P]? = some (.cells #[.int .i64 3, .int .i64 2, .int .i64 3, .int .i64 0, .int .i64 0, .int .i64 0, .int .i64 j, .int .i64 2, .int .i64 (E + i), .int .i64 wl, .int .i64 0, .int .i64 1, .int .i64 0, .int .i64 0, .int .i64 0, .int .i64 0, .int .i64 0, .slice none 0 0, .int .i64 0, .int .i64 0, .int .i64 0] 35 (0, 0))) := Lib.hid (set_blk (i := 8) HPc.out _)
          have hcs : Chg (fun k => k = P) wr (wr.setCell ⟨P, 8, none⟩ (.int .i64 (E + i))) := (Chg.refl (fun k => k = P) wr).setCell (p := ⟨P, 8, none⟩) (.inr rfl) _
          have HLd : Hid (Lives w (wr.setCell ⟨P, 8, none⟩ (.int .i64 (E + i))) A L (sT tk (E + i) true a2 [qT j tk wl E 2 (i + 1)])) := Lib.hid ⟨HLc.out.at_.chg hcs (fun k hk ho => HN.out (hk ▸ ho)), HLc.out.low, HLc.out.bel.trans (hcs.below HLc.out.bel.size (fun k hk e => by have := HPB.out; omega))⟩
          have hws : IntKind.i64.wrap (i : Int) = (i : Int) := IntWalk.i64_in _ (by omega)
          have hws2 : IntKind.i64.wrap (E + (i : Int) - E) = (i : Int) := by rw [IntWalk.i64_in _ (by omega)]; omega
          have htm : Int.tmod (i : Int) 4 = ((i % 4 : Nat) : Int) := by rw [Int.tmod_eq_emod_of_nonneg (by omega)]; omega
          clear hcs HLc HPc
          by_cases hi4 : i % 4 = 0
          · have hd4 : decide (i % 4 = 0) = true := by simpa using hi4
            rw [hd4]
            have htm2 : Int.tmod (i : Int) 4 = 0 := by rw [htm, hi4]; rfl
            clear htm
            go_upto_region 34 with fail
            clear hcell8 hfr8
            generalize wr.setCell ⟨P, 8, none⟩ (.int .i64 (E + i)) = wd at *
            go_upto_region 35 with (first | (refine wpList_load_row rfl 35 (.tmp 9) rfl P rfl 35 #[.int .i64 3, .int .i64 2, .int .i64 3, .int .i64 0, .int .i64 0, .int .i64 0, .int .i64 j, .int .i64 2, .int .i64 (E + i), .int .i64 wl, .int .i64 0, .int .i64 1, .int .i64 0, .int .i64 0, .int .i64 0, .int .i64 0, .int .i64 0, .slice none 0 0, .int .i64 0, .int .i64 0, .int .i64 0] (0, 0) _ HPd.out Try.underlying35 rfl (by kernel_rfl) ?_) | (go_at_call 11; refine (hear_any wd HLd.out.at_ HFj.out (by decide) (E + i) (mk 3 2 3 0 0 0 j 2 (E + i) wl 0 1 0 0 0) none 0 0 _ rfl).mono ?_; rintro e we ⟨⟨r, rfl⟩, hl⟩; rw [HHL.out] at hl; obtain ⟨Le, hl2, hc2, hg2⟩ := HLd.out.left hl; have HLe := Lib.hid hl2; have HPe : Hid (we.heap[P]? = some (.cells #[.int .i64 3, .int .i64 2, .int .i64 3, .int .i64 0, .int .i64 0, .int .i64 0, .int .i64 j, .int .i64 2, .int .i64 (E + i), .int .i64 wl, .int .i64 0, .int .i64 1, .int .i64 0, .int .i64 0, .int .i64 0, .int .i64 0, .int .i64 0, .slice none 0 0, .int .i64 0, .int .i64 0, .int .i64 0] 35 (0, 0))) := Lib.hid ((hc2.block P (ltb HPd.out) HN.out).trans HPd.out); have HNe : Hid (¬ Le.own A P) := Lib.hid (fun ho => (hg2 P ho).elim HN.out (fun h => by have := ltb HPd.out; omega)); clear hl hl2 hc2 hg2 HLd HPd HN))
            go_wp2_with (go_at_call 12; refine (running_ag we HLe.out.at_ (Nat.le_of_ble_eq_true rfl) (E + i)).mono ?_; rintro e wf ⟨RA2, rc2, rfl, hr, hb⟩; rw [HRX.out]; have HLf := Lib.hid (HLe.out.below hb); have HPf : Hid (wf.heap[P]? = some (.cells #[.int .i64 3, .int .i64 2, .int .i64 3, .int .i64 0, .int .i64 0, .int .i64 0, .int .i64 j, .int .i64 2, .int .i64 (E + i), .int .i64 wl, .int .i64 0, .int .i64 1, .int .i64 0, .int .i64 0, .int .i64 0, .int .i64 0, .int .i64 0, .slice none 0 0, .int .i64 0, .int .i64 0, .int .i64 0] 35 (0, 0))) := Lib.hid ((hb.block P (ltb HPe.out)).trans HPe.out); clear hr hb HLe HPe)
            go_roundw
            case rel => exact ⟨i + 1, Le, true, a2, E + i, E + i, by omega, by go_num, HLf, Lib.hid ⟨by omega, by omega, HA2.out⟩, HPf, HNe⟩
            case measure => simp [intOf]; omega
          · have hd4 : decide (i % 4 = 0) = false := by simpa using hi4
            rw [hd4]
            have htm2 : ¬ Int.tmod (i : Int) 4 = 0 := by rw [htm]; omega
            clear htm
            go_upto_region 34 with fail
            clear hcell8 hfr8
            generalize wr.setCell ⟨P, 8, none⟩ (.int .i64 (E + i)) = wd at *
            go_upto_region 35 with (first | (refine wpList_load_row rfl 35 (.tmp 9) rfl P rfl 35 #[.int .i64 3, .int .i64 2, .int .i64 3, .int .i64 0, .int .i64 0, .int .i64 0, .int .i64 j, .int .i64 2, .int .i64 (E + i), .int .i64 wl, .int .i64 0, .int .i64 1, .int .i64 0, .int .i64 0, .int .i64 0, .int .i64 0, .int .i64 0, .slice none 0 0, .int .i64 0, .int .i64 0, .int .i64 0] (0, 0) _ HPd.out Try.underlying35 rfl (by kernel_rfl) ?_) | (go_at_call 11; refine (hear_any wd HLd.out.at_ HFj.out (by decide) (E + i) (mk 3 2 3 0 0 0 j 2 (E + i) wl 0 1 0 0 0) none 0 0 _ rfl).mono ?_; rintro e we ⟨⟨r, rfl⟩, hl⟩; rw [HHL.out] at hl; obtain ⟨Le, hl2, hc2, hg2⟩ := HLd.out.left hl; have HLe := Lib.hid hl2; have HPe : Hid (we.heap[P]? = some (.cells #[.int .i64 3, .int .i64 2, .int .i64 3, .int .i64 0, .int .i64 0, .int .i64 0, .int .i64 j, .int .i64 2, .int .i64 (E + i), .int .i64 wl, .int .i64 0, .int .i64 1, .int .i64 0, .int .i64 0, .int .i64 0, .int .i64 0, .int .i64 0, .slice none 0 0, .int .i64 0, .int .i64 0, .int .i64 0] 35 (0, 0))) := Lib.hid ((hc2.block P (ltb HPd.out) HN.out).trans HPd.out); have HNe : Hid (¬ Le.own A P) := Lib.hid (fun ho => (hg2 P ho).elim HN.out (fun h => by have := ltb HPd.out; omega)); clear hl hl2 hc2 hg2 HLd HPd HN))
            go_wp2_with (go_at_call 12; refine (running_ag we HLe.out.at_ (Nat.le_of_ble_eq_true rfl) (E + i)).mono ?_; rintro e wf ⟨RA2, rc2, rfl, hr, hb⟩; rw [HRX.out]; have HLf := Lib.hid (HLe.out.below hb); have HPf : Hid (wf.heap[P]? = some (.cells #[.int .i64 3, .int .i64 2, .int .i64 3, .int .i64 0, .int .i64 0, .int .i64 0, .int .i64 j, .int .i64 2, .int .i64 (E + i), .int .i64 wl, .int .i64 0, .int .i64 1, .int .i64 0, .int .i64 0, .int .i64 0, .int .i64 0, .int .i64 0, .slice none 0 0, .int .i64 0, .int .i64 0, .int .i64 0] 35 (0, 0))) := Lib.hid ((hb.block P (ltb HPe.out)).trans HPe.out); clear hr hb HLe HPe)
            go_roundw
            case rel => exact ⟨i + 1, Le, true, a2, E + i, E + i, by omega, by go_num, HLf, Lib.hid ⟨by omega, by omega, HA2.out⟩, HPf, HNe⟩
            case measure => simp [intOf]; omega
    · obtain rfl : i = 9 := by omega
      have hlt : ¬ E + ((9 : Nat) : Int) < E + 9 := by simp
      have hq9 : (qT j tk wl E 2 9).how ≠ 0 := by rw [howT]; decide
      obtain ⟨qA, hqA⟩ : ∃ x : Pt, x = { qT j tk wl E 2 9 with rep := false } := ⟨_, rfl⟩
      have hAh : qA.how = 2 := by rw [hqA]; exact howT (j := j) (tk := tk) (wl := wl) (E := E) (h := 2) 8
      have hAr : qA.rep = false := by rw [hqA]
      have hAk : qA.job = j ∧ qA.att = 2 := by rw [hqA]; exact keyT (j := j) (tk := tk) (wl := wl) (E := E) (h := 2) 9
      have hAf : qA.d0 = 1 ∧ qA.d1 = 0 ∧ qA.d2 = 0 ∧ qA.d3 = 0 ∧ 0 ≤ qA.at_ ∧ qA.at_ ≤ 1000 := by rw [hqA]; exact fineQ (j := j) (tk := tk) (wl := wl) (E := E) (h := 2) 9 ⟨hEb, hEb2⟩ (by omega)
      have HAH := Lib.hid hAh
      have HAR := Lib.hid hAr
      have HAK := Lib.hid hAk
      have HAF := Lib.hid hAf
      have HFi : Hid (Fine (sT tk t0 bt a [qT j tk wl E 2 9]) 1) := Lib.hid (fineT ⟨HC.out.2.1, by have := HC.out.1; omega⟩ HC.out.2.2 (fineQ 9 ⟨hEb, hEb2⟩ (by omega)))
      have HHA : Hid ((sT tk t0 bt a [qT j tk wl E 2 9]).hears (mk 6 2 3 0 0 0 j 2 0 0 0 0 0 0 0) 0 (E + 9) = sT tk (E + 9) bt a [qA]) := Lib.hid (by rw [hqA]; exact hearA HJ.out (by have := HC.out.1; omega) (by omega) hq9 (keyT (j := j) (tk := tk) (wl := wl) (E := E) (h := 2) 9))
      clear hqA hAh hAr hAk hAf hq9
      go_upto_region 38 with (go_at_call 11; refine (hear_any wr HL.out.at_ HFi.out (by decide) (E + 9) (mk 6 2 3 0 0 0 j 2 0 0 0 0 0 0 0) none 0 0 _ rfl).mono ?_; rintro e wa ⟨⟨r, rfl⟩, hl⟩; rw [HHA.out] at hl; obtain ⟨La, hl2, _, _⟩ := HL.out.left hl; have HLa := Lib.hid hl2; clear hl hl2 HL)
      have HAB : Hid (0 ≤ a ∧ a ≤ 1000) := Lib.hid HC.out.2.2
      clear HP HN HC HFi HHA hlt
      go_wp2_with fail
      go_loopw [17] (fun v wr => ∃ (i : Nat) (L : Lay) (bt : Bool) (a t0 : Int), i ≤ 11 ∧ v = .int .i64 (E + 9 + i) ∧ Hid (Lives w wr A L (sT tk t0 bt a [qA])) ∧ Hid (t0 ≤ E + 9 + i ∧ 0 ≤ t0 ∧ 0 ≤ a ∧ a ≤ 1000)) (fun v _ => (E + 20 - intOf v).toNat)
      case atStart => exact ⟨0, La, bt, a, E + 9, by omega, by simp, HLa, Lib.hid ⟨by simp, by omega, HAB.out⟩⟩
      case round =>
        obtain ⟨i, L, bt, a, t0, hi, rfl, HL, HC⟩ := hrel
        by_cases hi9 : i < 11
        · have hlt : E + 9 + (i : Int) < E + 20 := by omega
          have hti : 0 ≤ E + 9 + (i : Int) ∧ E + 9 + (i : Int) ≤ 1000 := by omega
          have hst : qA.settle 40 (E + 9 + i) = qA := stays (by rw [HAH.out]; decide) _ _
          have htl : qA.tells (E + 9 + i) = false := by unfold Pt.tells; rw [HAR.out]; rfl
          have hsp : qA.step (E + 9 + i) = qA := by unfold Pt.step; rw [htl]; simp
          have HS := Lib.hid (stepS (tk := tk) (t0 := t0) (a := a) (bt := bt) (t := E + 9 + i) HC.out.1 (by omega) hst)
          have HFi : Hid (Fine (sT tk t0 bt a [qA]) 1) := Lib.hid (fineT ⟨HC.out.2.1, by have := HC.out.1; omega⟩ HC.out.2.2 HAF.out)
          obtain ⟨b1, hb1⟩ : ∃ x, x = (sT tk t0 bt a [qA]).beats (E + 9 + i) := ⟨_, rfl⟩
          have HS1 : Hid ((sT tk t0 bt a [qA]).stepA (E + 9 + i) = sT tk (E + 9 + i) true (if b1 then E + 9 + i else a) [qA]) := Lib.hid (by rw [HS.out.1, ← hb1, hsp])
          have HS2 : Hid ((sT tk t0 bt a [qA]).stepN (E + 9 + i) = numT b1 false) := Lib.hid (by rw [HS.out.2.1, ← hb1, htl])
          have HS3 : Hid ((sT tk t0 bt a [qA]).stepO (E + 9 + i) = outT b1 false qA) := Lib.hid (by rw [HS.out.2.2, ← hb1, htl])
          clear hb1 HS hst htl hsp
          obtain ⟨n, hn⟩ : ∃ x, x = numT b1 false := ⟨_, rfl⟩
          rw [← hn] at HS2
          have HNn := Lib.hid hn
          have hn2 : n ≤ 2 := by rw [hn]; cases b1 <;> simp [numT]
          clear hn
          go_upto_region 42 with (go_at_call 13; refine (step_any wr HL.out.at_ HFi.out (by decide) (E + 9 + i)).mono ?_; rintro e wa ⟨SA, sc, rfl, hs, ha, hc⟩; rw [HS2.out] at hs ⊢; rw [HS3.out] at hs; rw [HS1.out] at ha; have HLa := Lib.hid (HL.out.chg ha hc); have HSa := Lib.hid hs; clear hs ha hc HL HFi HS1 HS2 HS3)
          go_wp2_with fail
          go_loopw [19] (fun iv wi => ∃ k : Nat, k ≤ n ∧ iv = .int .i64 k ∧ wi = wa) (fun iv _ => n - (intOf iv).toNat)
          case atStart => exact ⟨0, Nat.zero_le _, rfl, rfl⟩
          case round =>
            obtain ⟨k, hk, rfl, rfl⟩ := hrel
            by_cases hkn : k < n
            · have hk0 : (0 : Int) ≤ (k : Int) := by omega
              have hk1 : (k : Int) < (n : Int) := by omega
              obtain ⟨g, hg, _, hgc⟩ := own_cells HSa.out (by omega)
              subst hg
              have hr : isRep b1 k = false := by
                have hkn2 : k < numT b1 false := by rw [← HNn.out]; exact hkn
                cases b1 <;> simp [numT] at hkn2
                subst hkn2
                rfl
              have x0 : wr.cell? ⟨g, k * 21, none⟩ = some (.int .i64 1) := by
                have := hgc (21 * k + 0) (.int .i64 1) (by rw [out_at b1 false qA k 0 (by rw [← HNn.out]; exact hkn) (by omega), hr]; rfl)
                rwa [show 21 * k + 0 = k * 21 by omega] at this
              clear hgc hr
              go_wp2_with fail
              go_roundw
              case rel => exact ⟨k + 1, by omega, by go_num, trivial⟩
              case measure => simp [intOf]; omega
            · obtain rfl : k = n := by omega
              have HA2 : Hid (0 ≤ (if b1 then E + 9 + (i : Int) else a) ∧ (if b1 then E + 9 + (i : Int) else a) ≤ 1000) := Lib.hid (by split; exact hti; exact HC.out.2.2)
              go_wp2_with fail
              go_roundw
              case rel => exact ⟨i + 1, L, true, _, E + 9 + i, by omega, by go_num, HLa, Lib.hid ⟨by omega, by omega, HA2.out⟩⟩
              case measure => simp [intOf]; omega
        · obtain rfl : i = 11 := by omega
          have hlt : ¬ E + 9 + ((11 : Nat) : Int) < E + 20 := by omega
          have hqh : qA.how ≠ 0 := by rw [HAH.out]; decide
          obtain ⟨qK, hqK⟩ : ∃ x : Pt, x = qA.over qA.how := ⟨_, rfl⟩
          have hKh : qK.how = 2 := by rw [hqK]; exact HAH.out
          have hKr : qK.rep = true := by rw [hqK]; rfl
          have hKs : qK.sent = false := by rw [hqK]; rfl
          have hKf : qK.d0 = 1 ∧ qK.d1 = 0 ∧ qK.d2 = 0 ∧ qK.d3 = 0 ∧ 0 ≤ qK.at_ ∧ qK.at_ ≤ 1000 := by rw [hqK]; exact HAF.out
          have HFi : Hid (Fine (sT tk t0 bt a [qA]) 1) := Lib.hid (fineT ⟨HC.out.2.1, by have := HC.out.1; omega⟩ HC.out.2.2 HAF.out)
          have HFk : Hid (Fine (sT tk (E + 20) bt a [qK]) 1) := Lib.hid (fineT (by omega) HC.out.2.2 hKf)
          have HHK : Hid ((sT tk t0 bt a [qA]).hears (mk 4 2 3 0 0 0 j 2 0 0 0 0 0 0 0) 0 (E + 20) = sT tk (E + 20) bt a [qK]) := Lib.hid (by rw [hqK]; exact hearK HJ.out (by have := HC.out.1; omega) (by omega) hqh HAR.out HAK.out)
          have hst : qK.settle 40 (E + 20) = qK := stays (by rw [hKh]; decide) _ _
          have htl : qK.tells (E + 20) = true := by unfold Pt.tells; rw [hKr, hKs]; rfl
          have HS := Lib.hid (stepS (tk := tk) (t0 := E + 20) (a := a) (bt := bt) (t := E + 20) (Int.le_refl _) (by omega) hst)
          obtain ⟨b1, hb1⟩ : ∃ x, x = (sT tk (E + 20) bt a [qK]).beats (E + 20) := ⟨_, rfl⟩
          have HS2 : Hid ((sT tk (E + 20) bt a [qK]).stepN (E + 20) = numT b1 true) := Lib.hid (by rw [HS.out.2.1, ← hb1, htl])
          have HS3 : Hid ((sT tk (E + 20) bt a [qK]).stepO (E + 20) = outT b1 true qK) := Lib.hid (by rw [HS.out.2.2, ← hb1, htl])
          have HKH := Lib.hid hKh
          clear hb1 HS hst htl hqK hKh hKr hKs hKf hqh
          go_upto_region 48 with (go_at_call 11; refine (hear_any wr HL.out.at_ HFi.out (by decide) (E + 20) (mk 4 2 3 0 0 0 j 2 0 0 0 0 0 0 0) none 0 0 _ rfl).mono ?_; rintro e wa ⟨⟨r, rfl⟩, hl⟩; rw [HHK.out] at hl; obtain ⟨Lb, hl2, _, _⟩ := HL.out.left hl; have HLb := Lib.hid hl2; clear hl hl2 HL)
          go_upto_region 49 with (go_at_call 13; refine (step_any wa HLb.out.at_ HFk.out (by decide) (E + 20)).mono ?_; rintro e wb ⟨SA, sc, rfl, hs, ha, hc⟩; rw [HS2.out] at hs ⊢; rw [HS3.out] at hs; have HLc := Lib.hid (HLb.out.chg ha hc); have HSa := Lib.hid hs; clear hs ha hc HLb)
          cases b1
          · obtain ⟨g, hg, _, hgc⟩ := own_cells HSa.out (by decide)
            subst hg
            have x0 : wb.cell? ⟨g, 0, none⟩ = some (.int .i64 5) := hgc 0 _ rfl
            have x1 : wb.cell? ⟨g, 10, none⟩ = some (.int .i64 2) := by rw [← HKH.out]; exact hgc 10 _ rfl
            have hnn : numT false true = 1 := rfl
            rw [hnn]
            clear hgc HSa
            go_wp2_with fail
            go_ret
            exact ⟨rfl, HLc.out.bel⟩
          · obtain ⟨g, hg, _, hgc⟩ := own_cells HSa.out (by decide)
            subst hg
            have x0 : wb.cell? ⟨g, 21, none⟩ = some (.int .i64 5) := hgc 21 _ rfl
            have x1 : wb.cell? ⟨g, 31, none⟩ = some (.int .i64 2) := by rw [← HKH.out]; exact hgc 31 _ rfl
            have hnn : numT true true = 2 := rfl
            rw [hnn]
            clear hgc HSa
            go_wp2_with fail
            go_ret
            exact ⟨rfl, HLc.out.bel⟩
end Go.Proofs.Ytoeamofemepgpaa
