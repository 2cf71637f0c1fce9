/- The law FrameTurned: the walk. -/
import Derived.Test.YthocckhpkfcemaaDoorTurn
namespace Go.Proofs.YthocckhpkfcemaaDoor
open Go.RowKit

set_option maxHeartbeats 2000000 in
theorem law_turned (A : Option Addr) (c n : Nat) (l : List UInt8) (x : Int) (b : UInt8) (w : World) (h : BytesIn w w.heap.size A c l) (hn : n = l.length) (h0 : 0 < w.heap.size) (hh : Hal w) (hx1 : -9223372036854775808 ≤ x) (hx2 : x ≤ 9223372036854775807) :
    Calls Tryd.prog 7 #[.slice A n c, .int .i64 x, .int .u8 (b.toNat : Int)] w fun e w' => e = .returned (.bool true) ∧ Below w.heap.size w w' := by
  have hc1 := h.cap
  have hnc : n ≤ c := by have := h.le; omega
  have HN := Lib.hid hn; clear hn
  have HB := Lib.hid h; clear h
  have HH := Lib.hid hh; clear hh
  go_enter Tryd.func7, Tryd.ntmps7
  go_wp2_with fail
  refine (awake_any w h0 HH.out).mono ?_
  rintro e w1 ⟨rfl, hb1⟩
  have HB1 := Lib.hid hb1
  have hs1 : w.heap.size ≤ w1.heap.size := hb1.size
  clear hb1
  by_cases hbig : 2000 < n
  · go_wp2_with fail
    go_ret
    exact ⟨rfl, HB1.out⟩
  · by_cases hx : x < 0
    · go_wp2_with fail
      have hY0 : 0 ≤ -(x + 1) := by omega
      have hY1 : -(x + 1) ≤ 9223372036854775807 := by omega
      generalize -(x + 1) = Y at hY0 hY1 ⊢
      refine (frame_any _ _ _ l w1 ((HB.out.below HB1.out (Nat.le_refl _)).more hs1) (HH.out.below HB1.out h0) (by omega) (by have := HN.out; omega) HN.out).mono ?_
      rintro e w2 ⟨A2, c2, rfl, hown2, hb2⟩
      have HB2 := Lib.hid (HB1.out.trans (hb2.mono hs1))
      have hs2 : w.heap.size ≤ w2.heap.size := HB2.out.size
      have hr2 := (bytesIn_of_own hown2).2
      have hlf := frameOf_length l
      rw [← HN.out] at hlf
      obtain ⟨g, rfl, hgb, hg, hc2⟩ := own_form hown2 (by omega)
      have HR2 := Lib.hid hr2
      have HO2 := Lib.hid hown2
      have HLF := Lib.hid hlf
      clear hb2 hown2 hr2 hlf
      obtain ⟨K, hK, hKn⟩ : ∃ K : Nat, Y % ((n : Int) + 8) = (K : Int) ∧ K < n + 8 := ⟨(Y % ((n : Int) + 8)).toNat, by have := Int.emod_nonneg Y (show (n : Int) + 8 ≠ 0 by omega); omega, by have := Int.emod_lt_of_pos Y (show (0 : Int) < (n : Int) + 8 by omega); omega⟩
      have hK8 : (K : Int) ≤ (c2 : Int) := by omega
      go_wp2_with fail
      refine (next_no _ _ _ ((frameOf l).take K) w2 _ HR2.out.take (HH.out.below HB2.out h0) (by rw [List.length_take, HLF.out]; omega) (by rw [look_cut l (by have := HN.out; omega) K (by have := HN.out; omega)]; decide)).mono ?_
      rw [look_cut l (by have := HN.out; omega) K (by have := HN.out; omega)]
      rintro e w' ⟨rfl, k1, rfl⟩
      by_cases hK4 : K < 4
      · obtain ⟨cb, hcb⟩ : ∃ cb : UInt8, (frameOf l)[K + 4]? = some cb := ⟨_, List.getElem?_eq_getElem (by have := HLF.out; omega)⟩
        have hcell : w2.cell? ⟨g, K + 4, none⟩ = some (.int .u8 (cb.toNat : Int)) := by
          rw [HO2.out.cellAt (K + 4) (by omega)]; unfold cells8; rw [List.getElem?_map, hcb]; rfl
        have hfz := HO2.out.frozenAt (K + 4)
        have hk1 : ((K + 4 : Nat) : Int) < (n : Int) + 8 := by omega
        obtain ⟨d, hd, hdc⟩ := turn_val cb b
        have hst := (HO2.out.stored (K + 4) (.int .u8 (d.toNat : Int))).1
        rw [cells8_set] at hst
        have hLT : lookE ((frameOf l).set (K + 4) d) = 20 := look_turn l (by have := HN.out; omega) (K + 4) (by omega) (by have := HLF.out; omega) d (by rw [hcb]; intro e; injection e with e; exact hdc e.symm)
        have HR3 := Lib.hid (bytesIn_of_own hst)
        have HB3 := Lib.hid ((below_dn (n := k1) HB2.out).setCell (p := ⟨g, K + 4, none⟩) (by show w.heap.size ≤ g; omega) (.int .u8 (d.toNat : Int)))
        have HLT := Lib.hid hLT
        clear hcb hst hLT hdc
        go_wp2_with fail
        have HR4 : Hid (BytesIn ((w2.drewN k1).setCell ⟨g, K + 4, none⟩ (.int .u8 (d.toNat : Int))) w2.heap.size (some ⟨g, 0, none⟩) c2 ((frameOf l).set (K + 4) d)) := Lib.hid ⟨HR3.out.2.le, HR3.out.2.cap, by
          rcases HR3.out.2.rd with e | ⟨b', o', e1, e2, e3⟩
          · exact .inl e
          · exact .inr ⟨b', o', e1, by simpa using e2, e3⟩⟩
        refine (next_no _ _ _ ((frameOf l).set (K + 4) d) _ w2.heap.size HR4.out (HH.out.below HB3.out h0) HR3.out.1 (by rw [HLT.out]; decide)).mono ?_
        rw [HLT.out]
        rintro e w' ⟨rfl, k2, rfl⟩
        have HB4 := Lib.hid (below_dn (n := k2) HB3.out)
        generalize ((w2.drewN k1).setCell ⟨g, K + 4, none⟩ (.int .u8 (d.toNat : Int))).drewN k2 = w4 at HB4 ⊢
        go_wp2_with fail
        go_ret
        exact ⟨rfl, HB4.out⟩
      · obtain ⟨cb, hcb⟩ : ∃ cb : UInt8, (frameOf l)[K]? = some cb := ⟨_, List.getElem?_eq_getElem (by have := HLF.out; omega)⟩
        have hcell : w2.cell? ⟨g, K, none⟩ = some (.int .u8 (cb.toNat : Int)) := by
          rw [HO2.out.cellAt (K) (by omega)]; unfold cells8; rw [List.getElem?_map, hcb]; rfl
        have hfz := HO2.out.frozenAt (K)
        have hk1 : ((K : Nat) : Int) < (n : Int) + 8 := by omega
        obtain ⟨d, hd, hdc⟩ := turn_val cb b
        have hst := (HO2.out.stored (K) (.int .u8 (d.toNat : Int))).1
        rw [cells8_set] at hst
        have hLT : lookE ((frameOf l).set (K) d) = 20 := look_turn l (by have := HN.out; omega) (K) (by omega) (by have := HLF.out; omega) d (by rw [hcb]; intro e; injection e with e; exact hdc e.symm)
        have HR3 := Lib.hid (bytesIn_of_own hst)
        have HB3 := Lib.hid ((below_dn (n := k1) HB2.out).setCell (p := ⟨g, K, none⟩) (by show w.heap.size ≤ g; omega) (.int .u8 (d.toNat : Int)))
        have HLT := Lib.hid hLT
        clear hcb hst hLT hdc
        go_wp2_with fail
        have HR4 : Hid (BytesIn ((w2.drewN k1).setCell ⟨g, K, none⟩ (.int .u8 (d.toNat : Int))) w2.heap.size (some ⟨g, 0, none⟩) c2 ((frameOf l).set (K) d)) := Lib.hid ⟨HR3.out.2.le, HR3.out.2.cap, by
          rcases HR3.out.2.rd with e | ⟨b', o', e1, e2, e3⟩
          · exact .inl e
          · exact .inr ⟨b', o', e1, by simpa using e2, e3⟩⟩
        refine (next_no _ _ _ ((frameOf l).set (K) d) _ w2.heap.size HR4.out (HH.out.below HB3.out h0) HR3.out.1 (by rw [HLT.out]; decide)).mono ?_
        rw [HLT.out]
        rintro e w' ⟨rfl, k2, rfl⟩
        have HB4 := Lib.hid (below_dn (n := k2) HB3.out)
        generalize ((w2.drewN k1).setCell ⟨g, K, none⟩ (.int .u8 (d.toNat : Int))).drewN k2 = w4 at HB4 ⊢
        go_wp2_with fail
        go_ret
        exact ⟨rfl, HB4.out⟩
    · go_wp2_with fail
      have hY0 : 0 ≤ x := by omega
      refine (frame_any _ _ _ l w1 ((HB.out.below HB1.out (Nat.le_refl _)).more hs1) (HH.out.below HB1.out h0) (by omega) (by have := HN.out; omega) HN.out).mono ?_
      rintro e w2 ⟨A2, c2, rfl, hown2, hb2⟩
      have HB2 := Lib.hid (HB1.out.trans (hb2.mono hs1))
      have hs2 : w.heap.size ≤ w2.heap.size := HB2.out.size
      have hr2 := (bytesIn_of_own hown2).2
      have hlf := frameOf_length l
      rw [← HN.out] at hlf
      obtain ⟨g, rfl, hgb, hg, hc2⟩ := own_form hown2 (by omega)
      have HR2 := Lib.hid hr2
      have HO2 := Lib.hid hown2
      have HLF := Lib.hid hlf
      clear hb2 hown2 hr2 hlf
      obtain ⟨K, hK, hKn⟩ : ∃ K : Nat, x % ((n : Int) + 8) = (K : Int) ∧ K < n + 8 := ⟨(x % ((n : Int) + 8)).toNat, by have := Int.emod_nonneg x (show (n : Int) + 8 ≠ 0 by omega); omega, by have := Int.emod_lt_of_pos x (show (0 : Int) < (n : Int) + 8 by omega); omega⟩
      have hK8 : (K : Int) ≤ (c2 : Int) := by omega
      go_wp2_with fail
      refine (next_no _ _ _ ((frameOf l).take K) w2 _ HR2.out.take (HH.out.below HB2.out h0) (by rw [List.length_take, HLF.out]; omega) (by rw [look_cut l (by have := HN.out; omega) K (by have := HN.out; omega)]; decide)).mono ?_
      rw [look_cut l (by have := HN.out; omega) K (by have := HN.out; omega)]
      rintro e w' ⟨rfl, k1, rfl⟩
      by_cases hK4 : K < 4
      · obtain ⟨cb, hcb⟩ : ∃ cb : UInt8, (frameOf l)[K + 4]? = some cb := ⟨_, List.getElem?_eq_getElem (by have := HLF.out; omega)⟩
        have hcell : w2.cell? ⟨g, K + 4, none⟩ = some (.int .u8 (cb.toNat : Int)) := by
          rw [HO2.out.cellAt (K + 4) (by omega)]; unfold cells8; rw [List.getElem?_map, hcb]; rfl
        have hfz := HO2.out.frozenAt (K + 4)
        have hk1 : ((K + 4 : Nat) : Int) < (n : Int) + 8 := by omega
        obtain ⟨d, hd, hdc⟩ := turn_val cb b
        have hst := (HO2.out.stored (K + 4) (.int .u8 (d.toNat : Int))).1
        rw [cells8_set] at hst
        have hLT : lookE ((frameOf l).set (K + 4) d) = 20 := look_turn l (by have := HN.out; omega) (K + 4) (by omega) (by have := HLF.out; omega) d (by rw [hcb]; intro e; injection e with e; exact hdc e.symm)
        have HR3 := Lib.hid (bytesIn_of_own hst)
        have HB3 := Lib.hid ((below_dn (n := k1) HB2.out).setCell (p := ⟨g, K + 4, none⟩) (by show w.heap.size ≤ g; omega) (.int .u8 (d.toNat : Int)))
        have HLT := Lib.hid hLT
        clear hcb hst hLT hdc
        go_wp2_with fail
        have HR4 : Hid (BytesIn ((w2.drewN k1).setCell ⟨g, K + 4, none⟩ (.int .u8 (d.toNat : Int))) w2.heap.size (some ⟨g, 0, none⟩) c2 ((frameOf l).set (K + 4) d)) := Lib.hid ⟨HR3.out.2.le, HR3.out.2.cap, by
          rcases HR3.out.2.rd with e | ⟨b', o', e1, e2, e3⟩
          · exact .inl e
          · exact .inr ⟨b', o', e1, by simpa using e2, e3⟩⟩
        refine (next_no _ _ _ ((frameOf l).set (K + 4) d) _ w2.heap.size HR4.out (HH.out.below HB3.out h0) HR3.out.1 (by rw [HLT.out]; decide)).mono ?_
        rw [HLT.out]
        rintro e w' ⟨rfl, k2, rfl⟩
        have HB4 := Lib.hid (below_dn (n := k2) HB3.out)
        generalize ((w2.drewN k1).setCell ⟨g, K + 4, none⟩ (.int .u8 (d.toNat : Int))).drewN k2 = w4 at HB4 ⊢
        go_wp2_with fail
        go_ret
        exact ⟨rfl, HB4.out⟩
      · obtain ⟨cb, hcb⟩ : ∃ cb : UInt8, (frameOf l)[K]? = some cb := ⟨_, List.getElem?_eq_getElem (by have := HLF.out; omega)⟩
        have hcell : w2.cell? ⟨g, K, none⟩ = some (.int .u8 (cb.toNat : Int)) := by
          rw [HO2.out.cellAt (K) (by omega)]; unfold cells8; rw [List.getElem?_map, hcb]; rfl
        have hfz := HO2.out.frozenAt (K)
        have hk1 : ((K : Nat) : Int) < (n : Int) + 8 := by omega
        obtain ⟨d, hd, hdc⟩ := turn_val cb b
        have hst := (HO2.out.stored (K) (.int .u8 (d.toNat : Int))).1
        rw [cells8_set] at hst
        have hLT : lookE ((frameOf l).set (K) d) = 20 := look_turn l (by have := HN.out; omega) (K) (by omega) (by have := HLF.out; omega) d (by rw [hcb]; intro e; injection e with e; exact hdc e.symm)
        have HR3 := Lib.hid (bytesIn_of_own hst)
        have HB3 := Lib.hid ((below_dn (n := k1) HB2.out).setCell (p := ⟨g, K, none⟩) (by show w.heap.size ≤ g; omega) (.int .u8 (d.toNat : Int)))
        have HLT := Lib.hid hLT
        clear hcb hst hLT hdc
        go_wp2_with fail
        have HR4 : Hid (BytesIn ((w2.drewN k1).setCell ⟨g, K, none⟩ (.int .u8 (d.toNat : Int))) w2.heap.size (some ⟨g, 0, none⟩) c2 ((frameOf l).set (K) d)) := Lib.hid ⟨HR3.out.2.le, HR3.out.2.cap, by
          rcases HR3.out.2.rd with e | ⟨b', o', e1, e2, e3⟩
          · exact .inl e
          · exact .inr ⟨b', o', e1, by simpa using e2, e3⟩⟩
        refine (next_no _ _ _ ((frameOf l).set (K) d) _ w2.heap.size HR4.out (HH.out.below HB3.out h0) HR3.out.1 (by rw [HLT.out]; decide)).mono ?_
        rw [HLT.out]
        rintro e w' ⟨rfl, k2, rfl⟩
        have HB4 := Lib.hid (below_dn (n := k2) HB3.out)
        generalize ((w2.drewN k1).setCell ⟨g, K, none⟩ (.int .u8 (d.toNat : Int))).drewN k2 = w4 at HB4 ⊢
        go_wp2_with fail
        go_ret
        exact ⟨rfl, HB4.out⟩
end Go.Proofs.YthocckhpkfcemaaDoor
