/- Telling the bodies: the loop, and Scan itself. -/
import Derived.Test.YthocckhpkfcemaaDoorScan
namespace Go.Proofs.YthocckhpkfcemaaDoor
open Go.RowKit

theorem scanL_ok {l : List UInt8} (h : lookE l = 0) : scanL l = bodyOf l :: scanL (l.drop (num4 l + 8)) := by rw [scanL, dif_pos h]
theorem scanL_no {l : List UInt8} (h : ¬ lookE l = 0) : scanL l = [] := by rw [scanL, dif_neg h]
theorem scanAt_ok {l : List UInt8} (h : lookE l = 0) : scanAt l = num4 l + 8 + scanAt (l.drop (num4 l + 8)) := by rw [scanAt, dif_pos h]
theorem scanAt_no {l : List UInt8} (h : ¬ lookE l = 0) : scanAt l = 0 := by rw [scanAt, dif_neg h]
theorem lookN_ok {l : List UInt8} (h : lookE l = 0) : lookN l = num4 l + 4 := by unfold lookN; rw [if_pos h]
theorem bodyOf_length {l : List UInt8} (h : lookE l = 0) : (bodyOf l).length = num4 l := by
  have := lookE_ok h
  unfold bodyOf; rw [List.length_take, List.length_drop]; omega

set_option maxHeartbeats 1000000 in
theorem each_any (A : Option Addr) (c n : Nat) (l : List UInt8) (w : World) (base g B : Nat) (h : BytesIn w B A c l) (hB : B ≤ base) (hB0 : 0 < B) (hh : Hal w) (hn : n = l.length) (hl : n ≤ 100000000) (hst : ScanSt w base g []) (hbase : base ≤ w.heap.size) :
    Calls Tryd.prog 21 #[.slice A n c, .func (.func 22) #[] #[.pointer (some ⟨g, 0, none⟩)]] w fun e w' => e = .returned (.int .i64 (scanAt l : Int)) ∧ ScanSt w' base g (scanL l) ∧ Below base w w' := by
  have hc1 := h.cap
  have hc2 := h.le
  have hnc : n ≤ c := by omega
  have HN := Lib.hid hn; clear hn
  have HB := Lib.hid h; clear h
  have HH := Lib.hid hh; clear hh
  have HS := Lib.hid hst; clear hst
  go_enter Tryd.func21, Tryd.ntmps21
  go_wp2
  go_loopw [5] (fun i wr => ∃ (k : Nat) (ls : List (List UInt8)), k ≤ n ∧ i = .int .i64 k ∧ ls.length ≤ k ∧ Hid (scanL l = ls ++ scanL (l.drop k)) ∧ Hid (scanAt l = k + scanAt (l.drop k)) ∧ Hid (ScanSt wr base g ls) ∧ Hid (Below base w wr)) (fun i _ => n - (intOf i).toNat)
  case atStart => exact ⟨0, [], Nat.zero_le _, rfl, Nat.le_refl _, Lib.hid (by simp), Lib.hid (by simp), HS, Lib.hid (Below.refl _ _)⟩
  case round =>
    obtain ⟨k, ls, hk, rfl, hls, HL, HA, HW, HBl⟩ := hrel
    have hbw : base ≤ wr.heap.size := Nat.le_trans hbase HBl.out.size
    by_cases hkn : k < n
    · obtain ⟨b, off, rfl, hb, _⟩ := HB.out.at_ (show 0 < l.length by have := HN.out; omega)
      have hbd : BytesIn wr B (some ⟨b, off + k, none⟩) (c - k) (l.drop k) := (HB.out.below HBl.out hB).dropLit (by have := HN.out; omega) (by omega)
      have HBD := Lib.hid hbd; clear hbd
      have HHW : Hid (Hal wr) := Lib.hid (HH.out.below HBl.out (by omega))
      have HND : Hid (n - k = (l.drop k).length) := Lib.hid (by rw [List.length_drop, ← HN.out])
      obtain ⟨ld, hld⟩ : ∃ ld, ld = l.drop k := ⟨_, rfl⟩
      rw [← hld] at HBD HND HL HA
      have HLD := Lib.hid hld; clear hld
      go_wp2_with fail
      refine (look_any _ _ _ ld wr B HBD.out HHW.out HND.out).mono ?_
      rintro e w' ⟨rfl, k1, rfl⟩
      by_cases hE : lookE ld = 0
      · have hok := lookE_ok hE
        rw [hE, lookN_ok hE]
        have hnd := HND.out
        obtain ⟨m, hm⟩ : ∃ m, m = num4 ld := ⟨_, rfl⟩
        rw [← hm] at hok ⊢
        have HM := Lib.hid hm; clear hm
        have HE := Lib.hid hE; clear hE
        have hmn : k + m + 8 ≤ n := by omega
        have hm6 : m ≤ 65536 := hok.2.1
        clear hok hnd
        have hbb : BytesIn (wr.drewN k1) B (some ⟨b, off + (k + 4), none⟩) (c - (k + 4)) (bodyOf ld) := by
          have h1 : BytesIn (wr.drewN k1) B (some ⟨b, off + (k + 4), none⟩) (c - (k + 4)) (l.drop (k + 4)) := ((HB.out.below HBl.out hB).drewN k1).dropLit (by have := HN.out; omega) (by omega)
          have h2 := h1.take (k := m)
          unfold bodyOf
          rw [← HM.out, HLD.out, List.drop_drop]
          exact h2
        have HBB := Lib.hid hbb; clear hbb
        have HLB : Hid (k + (m + 4) - (k + 4) = (bodyOf ld).length) := Lib.hid (by rw [bodyOf_length HE.out, ← HM.out]; omega)
        have HWd : Hid (ScanSt (wr.drewN k1) base g ls) := HW
        go_wp2_with fail
        refine (scan1_any _ _ _ (bodyOf ld) (wr.drewN k1) base g ls B HBB.out hB HLB.out (by omega) (by omega) HWd.out hbw).mono ?_
        rintro e w2 ⟨rfl, hst2, hb2⟩
        have HS2 := Lib.hid hst2; clear hst2
        have HB2 : Hid (Below base w w2) := Lib.hid (HBl.out.trans (below_of_dn hb2))
        clear hb2
        go_wp2_with fail
        go_roundw
        case rel =>
          refine ⟨k + (m + 8), ls ++ [bodyOf ld], by omega, by go_num, by simp; omega, Lib.hid ?_, Lib.hid ?_, HS2, HB2⟩
          · rw [HL.out, scanL_ok HE.out, ← HM.out, HLD.out, List.drop_drop]; simp
          · rw [HA.out, scanAt_ok HE.out, ← HM.out, HLD.out, List.drop_drop]; omega
        case measure => simp [intOf]; omega
      · have hE2 : ((lookE ld : Int) != 0) = true := by rw [bne_iff_ne]; omega
        have HX : Hid (scanL l = ls) := Lib.hid (by rw [HL.out, scanL_no hE]; simp)
        have HY : Hid (scanAt l = k) := Lib.hid (by rw [HA.out, scanAt_no hE]; omega)
        have HWd : Hid (ScanSt (wr.drewN k1) base g ls) := HW
        have HBd : Hid (Below base w (wr.drewN k1)) := Lib.hid (below_dn HBl.out)
        clear hE
        go_wp2_with fail
        go_ret
        exact ⟨by rw [HY.out]; rfl, by rw [HX.out]; exact HWd.out, HBd.out⟩
    · have hkn' : k = n := by omega
      have hd : l.drop k = [] := List.drop_eq_nil_of_le (by have := HN.out; omega)
      rw [hd] at HL HA
      have HX : Hid (scanL l = ls) := Lib.hid (by rw [HL.out, scanL_no (by decide)]; simp)
      have HY : Hid (scanAt l = k) := Lib.hid (by rw [HA.out, scanAt_no (by decide)]; omega)
      have HHW : Hid (Hal wr) := Lib.hid (HH.out.below HBl.out (by omega))
      have hkc : c - k ≤ 9223372036854775807 := by omega
      clear hd hkn'
      go_wp2_with fail
      all_goals
        refine (look_any _ _ _ [] wr 0 (.emp (by omega)) HHW.out (by simp; omega)).mono ?_
        rintro e w' ⟨rfl, k1, rfl⟩
        rw [show lookE [] = 10 from rfl, show lookN [] = 0 from rfl]
        have HWd : Hid (ScanSt (wr.drewN k1) base g ls) := HW
        have HBd : Hid (Below base w (wr.drewN k1)) := Lib.hid (below_dn HBl.out)
        go_wp2_with fail
        go_ret
        exact ⟨by rw [HY.out]; rfl, by rw [HX.out]; exact HWd.out, HBd.out⟩

set_option maxHeartbeats 1000000 in
theorem scan_any (A : Option Addr) (c n : Nat) (l : List UInt8) (w : World) (h : BytesIn w w.heap.size A c l) (h0 : 0 < w.heap.size) (hh : Hal w) (hn : n = l.length) (hl : n ≤ 100000000) :
    Calls Tryd.prog 14 #[.slice A n c] w fun e w' => ∃ Ao co vs, e = .returned (.tuple #[.slice Ao (scanL l).length co, .int .i64 (scanAt l : Int)]) ∧ w'.ownsRow w.heap.size 22 1 (.slice Ao (scanL l).length co) (scanL l).length vs ∧ RowsOwn w' w.heap.size vs (scanL l) ∧ Below w.heap.size w w' := by
  have hst : ScanSt (w.alloc (.cells #[.slice none 0 0] 30)) w.heap.size w.heap.size [] := by
    refine ⟨none, 0, [], Nat.le_refl _, heap_alloc_new w _, World.ownsRow_nil _ _ _ _, rfl, fun i hi => ?_⟩
    simp at hi
  have hb1 : Below w.heap.size w (w.alloc (.cells #[.slice none 0 0] 30)) := (Below.refl _ _).alloc (Nat.le_refl _) _
  have HS := Lib.hid hst; clear hst
  have HB := Lib.hid (h.below hb1 (Nat.le_refl _)); clear h
  have HH := Lib.hid (hh.below hb1 h0); clear hh
  have HN := Lib.hid hn; clear hn
  have HB1 := Lib.hid hb1; clear hb1
  go_enter Tryd.func14, Tryd.ntmps14
  go_wp2_with fail
  refine (each_any _ _ _ l _ w.heap.size w.heap.size w.heap.size HB.out (Nat.le_refl _) h0 HH.out HN.out hl HS.out (by simp)).mono ?_
  rintro e w1 ⟨rfl, ⟨Ao, co, vs, _, hcell, hown, hrows⟩, hb2⟩
  have hc0 := cell_of_one hcell
  have HO := Lib.hid hown
  have HR := Lib.hid hrows
  have HB2 := Lib.hid (HB1.out.trans hb2)
  clear hcell hown hrows hb2
  go_wp2_with fail
  go_ret2
  exact ⟨Ao, co, vs, rfl, HO.out, HR.out, HB2.out⟩
end Go.Proofs.YthocckhpkfcemaaDoor
