/- The law DiskSnaps: a cut whose sum is the whole's. -/
import Derived.Test.YtpkefkoimlecjaaDoorSnapPre
import Derived.Deep.DrawnRows
namespace Go.Proofs.YtpkefkoimlecjaaDoor
open Go.RowKit
attribute [local go_sem ↓] Go.wp_at_zero Go.wp_at_succ

set_option maxRecDepth 10000 in
set_option maxHeartbeats 4000000 in
theorem snaps_a (A1 A2 : Option Addr) (c1 c2 n1 n2 : Nat) (l1 l2 : List UInt8) (cut at_ : Int) (w : World) (h1 : BytesIn w w.heap.size A1 c1 l1) (hn1 : n1 = l1.length) (h2 : BytesIn w w.heap.size A2 c2 l2) (hn2 : n2 = l2.length) (_h0 : 0 < w.heap.size) (hh : Hal w) (hcut1 : thru cut n2 < n2) (hce : crc (l2.take (thru cut n2)) = crc l2) :
    Calls Tryd.prog 3 #[.slice A1 n1 c1, .slice A2 n2 c2, .agg #[.int .i64 cut, .int .i64 at_, .bool true]] w fun e w' => e = .returned (.bool true) ∧ Below w.heap.size w w' := by
  have HBA := Lib.hid ((Below.refl w.heap.size w).alloc (Nat.le_refl _) (.cells #[.int .i64 cut, .int .i64 at_, .bool true] 24))
  have hc1 := h1.cap
  have hc2 := h2.cap
  have hl1 := h1.le
  have hl2 := h2.le
  rw [← hn1] at hl1
  rw [← hn2] at hl2
  have HA1 := Lib.hid h1
  have HA2 := Lib.hid h2
  have HN1 := Lib.hid hn1
  have HN2 := Lib.hid hn2
  have HH := Lib.hid hh
  clear h1 h2 hn1 hn2 hh
  go_enter Tryd.func3, Tryd.ntmps3
  go_wp2_with fail
  refine (awake_any _).mono ?_
  rintro e w1 ⟨rfl, hbel1⟩
  have HB1 := Lib.hid (HBA.out.trans (hbel1.mono (by simp)))
  clear hbel1
  by_cases hbig : 2000 < n1 ∨ 2000 < n2
  · by_cases hb1 : 2000 < n1
    · go_wp2_with fail
      go_ret
      exact ⟨rfl, HB1.out⟩
    · have hb2 : 2000 < n2 := by omega
      clear hbig
      go_wp2_with fail
      go_ret
      exact ⟨rfl, HB1.out⟩
  have hb1 : ¬ 2000 < n1 := by omega
  have hb2 : ¬ 2000 < n2 := by omega
  clear hbig
  have hnew := new_any 4000 w1
  obtain ⟨g, hg⟩ : ∃ g, g = w1.heap.size := ⟨_, rfl⟩
  rw [← hg] at hnew
  have HW := Lib.hid hnew
  have hgw : w.heap.size ≤ g := by rw [hg]; exact HB1.out.size
  clear hnew hg
  go_wp2_with fail
  refine HW.out.mono ?_
  clear HW
  rintro e w2 ⟨rfl, hd2, hb2'⟩
  have HB2 := Lib.hid (HB1.out.trans (hb2'.mono hgw))
  have hsw := swap_any g (fresh 4000) Lay.none ⟨0, 0, 0⟩ ⟨1, 0, 0⟩ w2 hd2
  rw [show swapE (fresh 4000).c ⟨0, 0, 0⟩ ⟨1, 0, 0⟩ = 0 from by decide, show ({ fresh 4000 with c := swapC (fresh 4000).c ⟨0, 0, 0⟩ ⟨1, 0, 0⟩ } : Dk) = ⟨4000, ⟨1, 0, 0⟩, [], [], [], false, 0⟩ from by decide] at hsw
  have HS := Lib.hid hsw
  have hg2 := hd2.glt
  clear hsw hd2 hb2'
  go_wp2_with fail
  refine HS.out.mono ?_
  clear HS
  rintro e w3 ⟨rfl, hd3, hch3⟩
  have HB3 := Lib.hid (HB2.out.trans (hch3.below (B := w.heap.size) (by omega) (fun k hk e => by omega)))
  have hap := append_any g n1 ⟨4000, ⟨1, 0, 0⟩, [], [], [], false, 0⟩ Lay.none 1 0 A1 c1 l1 w3 hd3 HN1.out ((HA1.out.below HB3.out (Nat.le_refl _)).more HB3.out.size) (HA1.out.off hgw)
  have hap1 : apD ⟨4000, ⟨1, 0, 0⟩, [], [], [], false, 0⟩ 1 0 l1 = ⟨4000, ⟨1, 0, 0⟩, l1, [], [], false, 0⟩ := by
    have := HN1.out
    have hf : ¬ 4000 < l1.length := by omega
    unfold apD appD
    simp [took, hf]
  rw [hap1] at hap
  have HAP := Lib.hid hap
  have hg3 := hd3.glt
  have HD3 := Lib.hid hd3
  clear hap hap1 hd3 hch3
  go_wp2_with fail
  refine HAP.out.mono ?_
  clear HAP
  rintro e w4 ⟨rfl, y4, hd4, hf4⟩
  have HB4 := Lib.hid (HB3.out.trans (hf4.below hgw HD3.out))
  have HD4 := Lib.hid hd4
  have hg4 := hd4.glt
  clear hd4 hf4 HD3
  have hat : at_ < 0 ∨ (0 ≤ at_ ∧ at_ ≤ n1) ∨ (n1 : Int) < at_ := by omega
  go_upto_region 12 with fail
  go_cut [46] from 14 (fun s46 w' => w' = w4 ∧ s46 = .bool (decide (at_ < 0) || decide ((n1 : Int) < at_)))
  case first =>
    rcases hat with hat | ⟨hat, hat'⟩ | hat
    · have b1 : (decide (at_ < 0) || decide ((n1 : Int) < at_)) = true := by simp [hat]
      have B1 := Lib.hid b1
      clear b1
      go_wp2_with fail
      go_meet
      case rel => exact ⟨rfl, by (rw [B1.out]; try (simp; omega))⟩
    · have hd1 : ¬ at_ < 0 := by omega
      have b1 : (decide (at_ < 0) || decide ((n1 : Int) < at_)) = false := by simp; omega
      have B1 := Lib.hid b1
      clear b1
      go_wp2_with fail
      go_meet
      case rel => exact ⟨rfl, by (rw [B1.out]; try (simp; omega))⟩
    · have hd1 : ¬ at_ < 0 := by omega
      have b1 : (decide (at_ < 0) || decide ((n1 : Int) < at_)) = true := by simp [hat]
      have B1 := Lib.hid b1
      clear b1
      go_wp2_with fail
      go_meet
      case rel => exact ⟨rfl, by (rw [B1.out]; try (simp; omega))⟩
  case rest =>
    obtain ⟨rfl, rfl⟩ := hcut
    obtain ⟨bb, hbb⟩ : ∃ bb, bb = (decide (at_ < 0) || decide ((n1 : Int) < at_)) := ⟨_, rfl⟩
    have hk0 : bb = false → 0 ≤ at_ ∧ at_ ≤ n1 := by
      intro h; rw [hbb] at h; simp at h; omega
    rw [← hbb]
    have HK0 := Lib.hid hk0
    clear hbb hk0 hat
    go_upto_if 46 with fail
    go_cut [7] from 14 (fun s7 w' => w' = wc ∧ ∃ k : Nat, k ≤ n1 ∧ s7 = .int .i64 (k : Int))
    case first =>
      cases bb
      · have hk1 := HK0.out rfl
        go_wp2_with fail
        go_meet
        case rel => exact ⟨rfl, at_.toNat, by omega, by congr 1; omega⟩
      · go_wp2_with fail
        go_meet
        case rel => exact ⟨rfl, n1, Nat.le_refl _, rfl⟩
    case rest =>
      obtain ⟨rfl, k, hk, rfl⟩ := hcut
      clear HK0
      have hk1 : (0 : Int) ≤ (k : Int) := by omega
      have hk2 : (k : Int) ≤ (n1 : Int) := by omega
      have hcu := cut_any g ⟨4000, ⟨1, 0, 0⟩, l1, [], [], false, 0⟩ y4 cut wc HD4.out
      have HCU := Lib.hid hcu
      have hgc := HD4.out.glt
      clear hcu
      go_wp2_with fail
      refine HCU.out.mono ?_
      clear HCU
      rintro e wd ⟨rfl, hdd, hchd⟩
      have HBd := Lib.hid (HB4.out.trans (hchd.below (B := w.heap.size) (by omega) (fun k hk e => by omega)))
      have HDd := Lib.hid (show DiskAt wd g ⟨4000, ⟨1, 0, 0⟩, l1, [], [], true, cut⟩ y4 from hdd)
      have hgd' := hdd.glt
      have hst := stage_any g n2 ⟨4000, ⟨1, 0, 0⟩, l1, [], [], true, cut⟩ y4 1 A2 c2 l2 wd HDd.out HN2.out ((HA2.out.below HBd.out (Nat.le_refl _)).more HBd.out.size) (HA2.out.off hgw)
      have hst1 : sgE ⟨4000, ⟨1, 0, 0⟩, l1, [], [], true, cut⟩ 1 l2 = 152 := by
        have hf : ¬ 4000 < l2.length := by have := HN2.out; omega
        simp [sgE, stE, tookE, hf]
      have hst2 : sgD ⟨4000, ⟨1, 0, 0⟩, l1, [], [], true, cut⟩ 1 l2 = ⟨4000, ⟨1, 0, 0⟩, l1, [], l2.take (thru cut n2), false, cut⟩ := by
        have hf : ¬ 4000 < l2.length := by have := HN2.out; omega
        simp [sgD, stD, took, hf, thru, HN2.out]
      rw [hst1, hst2] at hst
      have HST := Lib.hid hst
      clear hst hst1 hst2 hdd hchd
      go_wp2_with fail
      refine HST.out.mono ?_
      clear HST
      rintro e w5 ⟨rfl, y5, hd5, hf5⟩
      have HB5 := Lib.hid (HBd.out.trans (hf5.below hgw HDd.out))
      have HD5 := Lib.hid hd5
      have hg5 := hd5.glt
      clear hd5 hf5
      obtain ⟨t, ht⟩ : ∃ t, t = thru cut n2 := ⟨_, rfl⟩
      have htl : t ≤ n2 := by rw [ht]; exact thru_le _ _
      have hmin : min (max cut 0) (n2 : Int) = (t : Int) := by rw [ht]; exact thru_int _ _
      have hmx : decide (max cut 0 < (n2 : Int)) = decide (t < n2) := by rw [ht]; exact decide_eq_decide.2 (thru_lt _ _)
      rw [← ht] at HD5
      have ht1 : (0 : Int) ≤ (t : Int) := by omega
      have ht2 : (t : Int) ≤ (c2 : Int) := by omega
      have HR2 := Lib.hid (HA2.out.below HB5.out (Nat.le_refl _))
      have HTL := Lib.hid (show t = (l2.take t).length by rw [List.length_take, ← HN2.out]; omega)
      have htn : t < n2 := by rw [ht]; exact hcut1
      rw [decide_eq_true htn] at hmx
      have hbe : ((crc (l2.take t) : Int) == (crc l2 : Int)) = true := by rw [beq_iff_eq, ht, hce]
      clear ht
      go_wp2_with fail
      refine (rsum_n A2 c2 t (l2.take t) w5 _ HR2.out.take HTL.out).mono ?_
      rintro e w' ⟨rfl, rfl⟩
      go_wp2_with fail
      refine (rsum_n A2 c2 n2 l2 w5 _ HR2.out HN2.out).mono ?_
      rintro e w' ⟨rfl, rfl⟩
      go_wp2_with fail
      go_ret
      exact ⟨rfl, HB5.out⟩
end Go.Proofs.YtpkefkoimlecjaaDoor
