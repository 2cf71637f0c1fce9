/- The law DiskSnaps: a cut that the sum tells. -/
import Derived.Test.YtpkefkoimlecjaaDoorSnapPre
import Derived.Deep.DrawnRows
namespace Go.Proofs.YtpkefkoimlecjaaDoor
open Go.RowKit
attribute [local go_sem ↓] Go.wp_at_zero Go.wp_at_succ

set_option maxRecDepth 10000 in
set_option maxHeartbeats 4000000 in
theorem snaps_b (A1 A2 : Option Addr) (c1 c2 n1 n2 : Nat) (l1 l2 : List UInt8) (cut at_ : Int) (w : World) (h1 : BytesIn w w.heap.size A1 c1 l1) (hn1 : n1 = l1.length) (h2 : BytesIn w w.heap.size A2 c2 l2) (hn2 : n2 = l2.length) (h0 : 0 < w.heap.size) (hh : Hal w) (hcut1 : thru cut n2 < n2) (hce : ¬ crc (l2.take (thru cut n2)) = crc l2) :
    Calls Tryd.prog 3 #[.slice A1 n1 c1, .slice A2 n2 c2, .agg #[.int .i64 cut, .int .i64 at_, .bool true]] w fun e w' => e = .returned (.bool true) ∧ Below w.heap.size w w' := by
  have HBA := Lib.hid ((Below.refl w.heap.size w).alloc (Nat.le_refl _) (.cells #[.int .i64 cut, .int .i64 at_, .bool true] 24))
  have hc1 := h1.cap
  have hc2 := h2.cap
  have hl1 := h1.le
  have hl2 := h2.le
  rw [← hn1] at hl1
  rw [← hn2] at hl2
  have HA1 := Lib.hid h1
  have HA2 := Lib.hid h2
  have HN1 := Lib.hid hn1
  have HN2 := Lib.hid hn2
  have HH := Lib.hid hh
  clear h1 h2 hn1 hn2 hh
  go_enter Tryd.func3, Tryd.ntmps3
  go_wp2_with fail
  refine (awake_any _).mono ?_
  rintro e w1 ⟨rfl, hbel1⟩
  have HB1 := Lib.hid (HBA.out.trans (hbel1.mono (by simp)))
  clear hbel1
  by_cases hbig : 2000 < n1 ∨ 2000 < n2
  · by_cases hb1 : 2000 < n1
    · go_wp2_with fail
      go_ret
      exact ⟨rfl, HB1.out⟩
    · have hb2 : 2000 < n2 := by omega
      clear hbig
      go_wp2_with fail
      go_ret
      exact ⟨rfl, HB1.out⟩
  have hb1 : ¬ 2000 < n1 := by omega
  have hb2 : ¬ 2000 < n2 := by omega
  clear hbig
  have hnew := new_any 4000 w1
  obtain ⟨g, hg⟩ : ∃ g, g = w1.heap.size := ⟨_, rfl⟩
  rw [← hg] at hnew
  have HW := Lib.hid hnew
  have hgw : w.heap.size ≤ g := by rw [hg]; exact HB1.out.size
  clear hnew hg
  go_wp2_with fail
  refine HW.out.mono ?_
  clear HW
  rintro e w2 ⟨rfl, hd2, hb2'⟩
  have HB2 := Lib.hid (HB1.out.trans (hb2'.mono hgw))
  have hsw := swap_any g (fresh 4000) Lay.none ⟨0, 0, 0⟩ ⟨1, 0, 0⟩ w2 hd2
  rw [show swapE (fresh 4000).c ⟨0, 0, 0⟩ ⟨1, 0, 0⟩ = 0 from by decide, show ({ fresh 4000 with c := swapC (fresh 4000).c ⟨0, 0, 0⟩ ⟨1, 0, 0⟩ } : Dk) = ⟨4000, ⟨1, 0, 0⟩, [], [], [], false, 0⟩ from by decide] at hsw
  have HS := Lib.hid hsw
  have hg2 := hd2.glt
  clear hsw hd2 hb2'
  go_wp2_with fail
  refine HS.out.mono ?_
  clear HS
  rintro e w3 ⟨rfl, hd3, hch3⟩
  have HB3 := Lib.hid (HB2.out.trans (hch3.below (B := w.heap.size) (by omega) (fun k hk e => by omega)))
  have hap := append_any g n1 ⟨4000, ⟨1, 0, 0⟩, [], [], [], false, 0⟩ Lay.none 1 0 A1 c1 l1 w3 hd3 HN1.out ((HA1.out.below HB3.out (Nat.le_refl _)).more HB3.out.size) (HA1.out.off hgw)
  have hap1 : apD ⟨4000, ⟨1, 0, 0⟩, [], [], [], false, 0⟩ 1 0 l1 = ⟨4000, ⟨1, 0, 0⟩, l1, [], [], false, 0⟩ := by
    have := HN1.out
    have hf : ¬ 4000 < l1.length := by omega
    unfold apD appD
    simp [took, hf]
  rw [hap1] at hap
  have HAP := Lib.hid hap
  have hg3 := hd3.glt
  have HD3 := Lib.hid hd3
  clear hap hap1 hd3 hch3
  go_wp2_with fail
  refine HAP.out.mono ?_
  clear HAP
  rintro e w4 ⟨rfl, y4, hd4, hf4⟩
  have HB4 := Lib.hid (HB3.out.trans (hf4.below hgw HD3.out))
  have HD4 := Lib.hid hd4
  have hg4 := hd4.glt
  clear hd4 hf4 HD3
  have hat : at_ < 0 ∨ (0 ≤ at_ ∧ at_ ≤ n1) ∨ (n1 : Int) < at_ := by omega
  go_upto_region 12 with fail
  go_cut [46] from 14 (fun s46 w' => w' = w4 ∧ s46 = .bool (decide (at_ < 0) || decide ((n1 : Int) < at_)))
  case first =>
    rcases hat with hat | ⟨hat, hat'⟩ | hat
    · have b1 : (decide (at_ < 0) || decide ((n1 : Int) < at_)) = true := by simp [hat]
      have B1 := Lib.hid b1
      clear b1
      go_wp2_with fail
      go_meet
      case rel => exact ⟨rfl, by (rw [B1.out]; try (simp; omega))⟩
    · have hd1 : ¬ at_ < 0 := by omega
      have b1 : (decide (at_ < 0) || decide ((n1 : Int) < at_)) = false := by simp; omega
      have B1 := Lib.hid b1
      clear b1
      go_wp2_with fail
      go_meet
      case rel => exact ⟨rfl, by (rw [B1.out]; try (simp; omega))⟩
    · have hd1 : ¬ at_ < 0 := by omega
      have b1 : (decide (at_ < 0) || decide ((n1 : Int) < at_)) = true := by simp [hat]
      have B1 := Lib.hid b1
      clear b1
      go_wp2_with fail
      go_meet
      case rel => exact ⟨rfl, by (rw [B1.out]; try (simp; omega))⟩
  case rest =>
    obtain ⟨rfl, rfl⟩ := hcut
    obtain ⟨bb, hbb⟩ : ∃ bb, bb = (decide (at_ < 0) || decide ((n1 : Int) < at_)) := ⟨_, rfl⟩
    have hk0 : bb = false → 0 ≤ at_ ∧ at_ ≤ n1 := by
      intro h; rw [hbb] at h; simp at h; omega
    rw [← hbb]
    have HK0 := Lib.hid hk0
    clear hbb hk0 hat
    go_upto_if 46 with fail
    go_cut [7] from 14 (fun s7 w' => w' = wc ∧ ∃ k : Nat, k ≤ n1 ∧ s7 = .int .i64 (k : Int))
    case first =>
      cases bb
      · have hk1 := HK0.out rfl
        go_wp2_with fail
        go_meet
        case rel => exact ⟨rfl, at_.toNat, by omega, by congr 1; omega⟩
      · go_wp2_with fail
        go_meet
        case rel => exact ⟨rfl, n1, Nat.le_refl _, rfl⟩
    case rest =>
      obtain ⟨rfl, k, hk, rfl⟩ := hcut
      clear HK0
      have hk1 : (0 : Int) ≤ (k : Int) := by omega
      have hk2 : (k : Int) ≤ (n1 : Int) := by omega
      have hcu := cut_any g ⟨4000, ⟨1, 0, 0⟩, l1, [], [], false, 0⟩ y4 cut wc HD4.out
      have HCU := Lib.hid hcu
      have hgc := HD4.out.glt
      clear hcu
      go_wp2_with fail
      refine HCU.out.mono ?_
      clear HCU
      rintro e wd ⟨rfl, hdd, hchd⟩
      have HBd := Lib.hid (HB4.out.trans (hchd.below (B := w.heap.size) (by omega) (fun k hk e => by omega)))
      have HDd := Lib.hid (show DiskAt wd g ⟨4000, ⟨1, 0, 0⟩, l1, [], [], true, cut⟩ y4 from hdd)
      have hgd' := hdd.glt
      have hst := stage_any g n2 ⟨4000, ⟨1, 0, 0⟩, l1, [], [], true, cut⟩ y4 1 A2 c2 l2 wd HDd.out HN2.out ((HA2.out.below HBd.out (Nat.le_refl _)).more HBd.out.size) (HA2.out.off hgw)
      have hst1 : sgE ⟨4000, ⟨1, 0, 0⟩, l1, [], [], true, cut⟩ 1 l2 = 152 := by
        have hf : ¬ 4000 < l2.length := by have := HN2.out; omega
        simp [sgE, stE, tookE, hf]
      have hst2 : sgD ⟨4000, ⟨1, 0, 0⟩, l1, [], [], true, cut⟩ 1 l2 = ⟨4000, ⟨1, 0, 0⟩, l1, [], l2.take (thru cut n2), false, cut⟩ := by
        have hf : ¬ 4000 < l2.length := by have := HN2.out; omega
        simp [sgD, stD, took, hf, thru, HN2.out]
      rw [hst1, hst2] at hst
      have HST := Lib.hid hst
      clear hst hst1 hst2 hdd hchd
      go_wp2_with fail
      refine HST.out.mono ?_
      clear HST
      rintro e w5 ⟨rfl, y5, hd5, hf5⟩
      have HB5 := Lib.hid (HBd.out.trans (hf5.below hgw HDd.out))
      have HD5 := Lib.hid hd5
      have hg5 := hd5.glt
      clear hd5 hf5
      obtain ⟨t, ht⟩ : ∃ t, t = thru cut n2 := ⟨_, rfl⟩
      have htl : t ≤ n2 := by rw [ht]; exact thru_le _ _
      have hmin : min (max cut 0) (n2 : Int) = (t : Int) := by rw [ht]; exact thru_int _ _
      have hmx : decide (max cut 0 < (n2 : Int)) = decide (t < n2) := by rw [ht]; exact decide_eq_decide.2 (thru_lt _ _)
      rw [← ht] at HD5
      have ht1 : (0 : Int) ≤ (t : Int) := by omega
      have ht2 : (t : Int) ≤ (c2 : Int) := by omega
      have HR2 := Lib.hid (HA2.out.below HB5.out (Nat.le_refl _))
      have HTL := Lib.hid (show t = (l2.take t).length by rw [List.length_take, ← HN2.out]; omega)
      have htn : t < n2 := by rw [ht]; exact hcut1
      rw [decide_eq_true htn] at hmx
      have hbe : ((crc (l2.take t) : Int) == (crc l2 : Int)) = false := by
        rw [beq_eq_false_iff_ne]
        intro h
        exact hce (by rw [← ht]; omega)
      have hcm := commit_any g ⟨4000, ⟨1, 0, 0⟩, l1, [], l2.take t, false, cut⟩ y5 1 (crc l2 : Int) (k : Int) w5 HD5.out (HH.out.below HB5.out h0) (by omega)
      have hne : ¬ (crc (l2.take t) : Int) = (crc l2 : Int) := by
        intro h
        exact hce (by rw [← ht]; omega)
      have hcm1 : comE ⟨4000, ⟨1, 0, 0⟩, l1, [], l2.take t, false, cut⟩ 1 (crc l2 : Int) (k : Int) = 20 := by
        simp only [comE, cmE, if_true, if_neg hne]
      have hcm2 : comD ⟨4000, ⟨1, 0, 0⟩, l1, [], l2.take t, false, cut⟩ 1 (crc l2 : Int) (k : Int) = ⟨4000, ⟨1, 0, 0⟩, l1, [], l2.take t, false, cut⟩ := by
        simp only [comD, cmD, if_true, if_neg hne]
      rw [hcm1, hcm2] at hcm
      have HCM := Lib.hid hcm
      clear hcm hcm1 hcm2 hne ht hce hcut1
      go_wp2_with fail
      refine (rsum_n A2 c2 t (l2.take t) w5 _ HR2.out.take HTL.out).mono ?_
      rintro e w' ⟨rfl, rfl⟩
      go_wp2_with fail
      refine (rsum_n A2 c2 n2 l2 w5 _ HR2.out HN2.out).mono ?_
      rintro e w' ⟨rfl, rfl⟩
      go_wp2_with fail
      refine (rsum_n A2 c2 n2 l2 w5 _ HR2.out HN2.out).mono ?_
      rintro e w' ⟨rfl, rfl⟩
      go_wp2_with fail
      refine HCM.out.mono ?_
      rintro e w6 ⟨rfl, y6, hd6, hf6⟩
      have HB6 := Lib.hid (HB5.out.trans (hf6.below hgw HD5.out))
      have hn6 : Chg NoBlk w6 w6.drew := (Chg.refl _ w6).drew
      have HD6 := Lib.hid (hd6.chg0 hn6)
      have hg6 := hd6.glt
      have hw6 : w.heap.size ≤ w6.heap.size := HB6.out.size
      have zad : (convert 22 9 (.slice A1 n1 c1)).run Tryd.prog w6.drew = .ok (.string (str l1)) w6.drew := zc (HA1.out.below HB6.out (Nat.le_refl _)).drew HN1.out
      have hlog : Calls Tryd.prog 15 #[.pointer (some ⟨g, 0, none⟩)] w6.drew fun e w' => ∃ A2 c2, e = .returned (.slice A2 n1 c2) ∧ w'.ownsRow w6.drew.heap.size 5 1 (.slice A2 n1 c2) n1 (cells8 l1) ∧ Below w6.drew.heap.size w6.drew w' := by
        rw [HN1.out]; exact log_any g _ y6 w6.drew HD6.out
      have hsnap : ∀ W, DiskAt W g ⟨4000, ⟨1, 0, 0⟩, l1, [], l2.take t, false, cut⟩ y6 → Calls Tryd.prog 16 #[.pointer (some ⟨g, 0, none⟩)] W fun e w' => ∃ A2 c2, e = .returned (.slice A2 0 c2) ∧ w'.ownsRow W.heap.size 5 1 (.slice A2 0 c2) 0 (cells8 []) ∧ Below W.heap.size W w' := by
        intro W hW; exact snap_any g _ y6 W hW
      have HLOG := Lib.hid hlog
      have HSNAP := Lib.hid hsnap
      clear hd6 hf6 hn6 HCM hlog hsnap
      go_wp2_with fail
      refine wp_region_noPanic ?_
      refine wp_region_held_drew (S := fun w' => (convert 22 9 (.slice A1 n1 c1)).run Tryd.prog w' = .ok (.string (str l1)) w') (by kernel_rfl) ?_ (fun hHeld => ?_)
      · try dsimp only
        (refine ?_ <;> (first | with_reducible assumption))
      refine wpAnyH_take (i := 0) (v := ?_) (by (simp only [List.getElem?_toArray, List.getElem?_cons_zero]; rfl)) (by kernel_rfl) (by kernel_rfl) (by kernel_rfl) (fun _ _ _ h => h) (Or.inl ⟨by rfl, ?_⟩) (by assumption) ?_
      rotate_left
      · (intro w hSw; (try dsimp only at hSw); go_simp; try with_reducible rfl)
      try simp only [Act.put, List.setIfInBounds_toArray, List.set_cons_zero, List.set_cons_succ]
      refine wpAnyH_take (i := 1) (v := ?_) (by (simp only [List.getElem?_toArray, List.getElem?_cons_succ, List.getElem?_cons_zero]; rfl)) (by kernel_rfl) (by kernel_rfl) (by kernel_rfl) (fun _ _ _ h => h) (Or.inl ⟨by rfl, ?_⟩) (by assumption) ?_
      rotate_left
      · (intro w hSw; (try dsimp only at hSw); go_simp; try with_reducible rfl)
      try simp only [Act.put, List.setIfInBounds_toArray, List.set_cons_zero, List.set_cons_succ]
      refine wpAnyH_take (i := 2) (v := ?_) (by (simp only [List.getElem?_toArray, List.getElem?_cons_succ, List.getElem?_cons_zero]; rfl)) (by kernel_rfl) (by kernel_rfl) (by kernel_rfl) (fun _ _ _ h => h) (Or.inl ⟨by rfl, ?_⟩) (by assumption) ?_
      rotate_left
      · (intro w hSw; (try dsimp only at hSw); go_simp; try with_reducible rfl)
      try simp only [Act.put, List.setIfInBounds_toArray, List.set_cons_zero, List.set_cons_succ]
      refine wpAnyH_take (i := 3) (v := ?_) (by (simp only [List.getElem?_toArray, List.getElem?_cons_succ, List.getElem?_cons_zero]; rfl)) (by kernel_rfl) (by kernel_rfl) (by kernel_rfl) (fun _ _ _ h => h) (Or.inl ⟨by rfl, ?_⟩) (by assumption) ?_
      rotate_left
      · (intro w hSw; (try dsimp only at hSw); go_simp; try with_reducible rfl)
      try simp only [Act.put, List.setIfInBounds_toArray, List.set_cons_zero, List.set_cons_succ]
      refine wpAnyH_take (i := 6) (v := ?_) (by (simp only [List.getElem?_toArray, List.getElem?_cons_succ, List.getElem?_cons_zero]; rfl)) (by kernel_rfl) (by kernel_rfl) (by kernel_rfl) (fun _ _ _ h => h) (Or.inl ⟨by rfl, ?_⟩) (by assumption) ?_
      rotate_left
      · (intro w hSw; (try dsimp only at hSw); go_simp; try with_reducible rfl)
      try simp only [Act.put, List.setIfInBounds_toArray, List.set_cons_zero, List.set_cons_succ]
      refine wpAnyH_take (i := 7) (v := ?_) (by (simp only [List.getElem?_toArray, List.getElem?_cons_succ, List.getElem?_cons_zero]; rfl)) (by kernel_rfl) (by kernel_rfl) (by kernel_rfl) (fun _ _ _ h => h) (Or.inl ⟨by rfl, ?_⟩) (by assumption) ?_
      rotate_left
      · (intro w hSw; (try dsimp only at hSw); go_simp; try with_reducible rfl)
      try simp only [Act.put, List.setIfInBounds_toArray, List.set_cons_zero, List.set_cons_succ]
      refine wpAnyH_ready (rs := [4]) (by kernel_rfl) (by simp) ?_
      refine AllReadyH.cons (by (simp only [List.getElem?_toArray, List.getElem?_cons_succ, List.getElem?_cons_zero]; rfl)) (fun K hK => ?_) AllReadyH.nil
      go_simp
      refine HLOG.out.mono ?_
      rintro e w7 ⟨A7, c7, rfl, ho7, hb7⟩
      have HD7 := Lib.hid (HD6.out.chg0 (Chg.of_below hb7))
      have hb7' : Below w.heap.size w6 w7 := ((Below.refl w.heap.size w6).drew).trans (hb7.mono hw6)
      have HB7 := Lib.hid (HB6.out.trans hb7')
      have z7 : (convert 22 9 (.slice A7 n1 c7)).run Tryd.prog w7 = .ok (.string (str l1)) w7 := zc (bytes_own ho7).2 HN1.out
      have za7 : (convert 22 9 (.slice A1 n1 c1)).run Tryd.prog w7 = .ok (.string (str l1)) w7 := zc (HA1.out.below HB7.out (Nat.le_refl _)) HN1.out
      have HO7 := Lib.hid ho7
      clear ho7 hb7 hb7'
      refine hK.out _ _ ?_ (fun hHeld => ?_)
      · try dsimp only
        (refine ?_ <;> (first | with_reducible assumption))
      clear hK K
      try simp only [Act.put, List.setIfInBounds_toArray, List.set_cons_zero, List.set_cons_succ]
      refine wpAnyH_weaken (S' := fun w' => ((fun w' => (convert 22 9 (.slice A1 n1 c1)).run Tryd.prog w' = .ok (.string (str l1)) w') w') ∧ ((convert 22 9 (.slice A7 n1 c7)).run Tryd.prog w' = .ok (.string (str l1)) w')) (fun _ h => h.1) ?_
      have hHeld := (show (fun w' => ((fun w' => (convert 22 9 (.slice A1 n1 c1)).run Tryd.prog w' = .ok (.string (str l1)) w') w') ∧ ((convert 22 9 (.slice A7 n1 c7)).run Tryd.prog w' = .ok (.string (str l1)) w')) _ from ⟨hHeld, z7⟩)
      refine wpAnyH_take (i := 5) (v := ?_) (by (simp only [List.getElem?_toArray, List.getElem?_cons_succ, List.getElem?_cons_zero]; rfl)) (by kernel_rfl) (by kernel_rfl) (by kernel_rfl) (fun _ _ _ h => h) (Or.inl ⟨by rfl, ?_⟩) (by assumption) ?_
      rotate_left
      · (intro w hSw; (try dsimp only at hSw); go_simp; try with_reducible rfl)
      try simp only [Act.put, List.setIfInBounds_toArray, List.set_cons_zero, List.set_cons_succ]
      refine wpAnyH_take (i := 8) (v := ?_) (by (simp only [List.getElem?_toArray, List.getElem?_cons_succ, List.getElem?_cons_zero]; rfl)) (by kernel_rfl) (by kernel_rfl) (by kernel_rfl) (fun _ _ _ h => h) (Or.inl ⟨by rfl, ?_⟩) (by assumption) ?_
      rotate_left
      · (intro w hSw; (try dsimp only at hSw); go_simp; try with_reducible rfl)
      try simp only [Act.put, List.setIfInBounds_toArray, List.set_cons_zero, List.set_cons_succ]
      refine wpAnyH_take (i := 9) (v := ?_) (by (simp only [List.getElem?_toArray, List.getElem?_cons_succ, List.getElem?_cons_zero]; rfl)) (by kernel_rfl) (by kernel_rfl) (by kernel_rfl) (fun _ _ _ h => h) (Or.inl ⟨by rfl, ?_⟩) (by assumption) ?_
      rotate_left
      · (intro w hSw; (try dsimp only at hSw); go_simp; try with_reducible rfl)
      try simp only [Act.put, List.setIfInBounds_toArray, List.set_cons_zero, List.set_cons_succ]
      refine wpAnyH_take (i := 10) (v := ?_) (by (simp only [List.getElem?_toArray, List.getElem?_cons_succ, List.getElem?_cons_zero]; rfl)) (by kernel_rfl) (by kernel_rfl) (by kernel_rfl) (fun _ _ _ h => h) (Or.inl ⟨by rfl, ?_⟩) (by assumption) ?_
      rotate_left
      · (intro w hSw; (try dsimp only at hSw); go_simp; try with_reducible rfl)
      try simp only [Act.put, List.setIfInBounds_toArray, List.set_cons_zero, List.set_cons_succ]
      refine wpAnyH_take (i := 11) (v := ?_) (by (simp only [List.getElem?_toArray, List.getElem?_cons_succ, List.getElem?_cons_zero]; rfl)) (by kernel_rfl) (by kernel_rfl) (by kernel_rfl) (fun _ _ _ h => h) (Or.inl ⟨by rfl, ?_⟩) (by assumption) ?_
      rotate_left
      · (intro w hSw; (try dsimp only at hSw); go_simp; try with_reducible rfl)
      try simp only [Act.put, List.setIfInBounds_toArray, List.set_cons_zero, List.set_cons_succ]
      refine wpAnyH_ready (rs := [12]) (by kernel_rfl) (by simp) ?_
      refine AllReadyH.cons (by (simp only [List.getElem?_toArray, List.getElem?_cons_succ, List.getElem?_cons_zero]; rfl)) (fun K hK => ?_) AllReadyH.nil
      go_simp
      refine (HSNAP.out w7 HD7.out).mono ?_
      rintro e w8 ⟨A8, c8, rfl, ho8, hb8⟩
      have HB8 := Lib.hid (HB7.out.trans (hb8.mono HB7.out.size))
      have za8 : (convert 22 9 (.slice A1 n1 c1)).run Tryd.prog w8 = .ok (.string (str l1)) w8 := zc (HA1.out.below HB8.out (Nat.le_refl _)) HN1.out
      have z78 : (convert 22 9 (.slice A7 n1 c7)).run Tryd.prog w8 = .ok (.string (str l1)) w8 := zc ((bytes_own HO7.out).2.below hb8 (Nat.le_refl _)) HN1.out
      clear ho8 hb8
      refine hK.out _ _ ?_ (fun hHeld => ?_)
      · try dsimp only
        (refine ⟨?_, ?_⟩ <;> (first | with_reducible assumption))
      clear hK K
      try simp only [Act.put, List.setIfInBounds_toArray, List.set_cons_zero, List.set_cons_succ]
      refine wpAnyH_take (i := 13) (v := ?_) (by (simp only [List.getElem?_toArray, List.getElem?_cons_succ, List.getElem?_cons_zero]; rfl)) (by kernel_rfl) (by kernel_rfl) (by kernel_rfl) (fun _ _ _ h => h) (Or.inl ⟨by rfl, ?_⟩) (by assumption) ?_
      rotate_left
      · (intro w hSw; (try dsimp only at hSw); go_simp; try with_reducible rfl)
      try simp only [Act.put, List.setIfInBounds_toArray, List.set_cons_zero, List.set_cons_succ]
      refine wpAnyH_take (i := 14) (v := ?_) (by (simp only [List.getElem?_toArray, List.getElem?_cons_succ, List.getElem?_cons_zero]; rfl)) (by kernel_rfl) (by kernel_rfl) (by kernel_rfl) (fun _ _ _ h => h) (Or.inl ⟨by rfl, ?_⟩) (by assumption) ?_
      rotate_left
      · (intro w hSw; (try dsimp only at hSw); go_simp; try with_reducible rfl)
      try simp only [Act.put, List.setIfInBounds_toArray, List.set_cons_zero, List.set_cons_succ]
      refine wpAnyH_take (i := 15) (v := ?_) (by (simp only [List.getElem?_toArray, List.getElem?_cons_succ, List.getElem?_cons_zero]; rfl)) (by kernel_rfl) (by kernel_rfl) (by kernel_rfl) (fun _ _ _ h => h) (Or.inl ⟨by rfl, ?_⟩) (by assumption) ?_
      rotate_left
      · (intro w hSw; (try dsimp only at hSw); go_simp; try with_reducible rfl)
      try simp only [Act.put, List.setIfInBounds_toArray, List.set_cons_zero, List.set_cons_succ]
      refine wpAnyH_take (i := 16) (v := ?_) (by (simp only [List.getElem?_toArray, List.getElem?_cons_succ, List.getElem?_cons_zero]; rfl)) (by kernel_rfl) (by kernel_rfl) (by kernel_rfl) (fun _ _ _ h => h) (Or.inl ⟨by rfl, ?_⟩) (by assumption) ?_
      rotate_left
      · (intro w hSw; (try dsimp only at hSw); go_simp; try with_reducible rfl)
      try simp only [Act.put, List.setIfInBounds_toArray, List.set_cons_zero, List.set_cons_succ]
      refine wpAnyH_done (by kernel_rfl) ?_ _
      refine NoPanic.normal ?_
      go_wp2_with fail
      go_ret
      exact ⟨rfl, HB8.out⟩
end Go.Proofs.YtpkefkoimlecjaaDoor
