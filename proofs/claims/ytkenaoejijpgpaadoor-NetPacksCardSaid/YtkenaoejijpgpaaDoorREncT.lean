/- The document's bytes of numbers, texts and rows. -/
import Derived.Test.YtkenaoejijpgpaaDoorEncT
namespace Go.Proofs.YtkenaoejijpgpaaDoor
open Go.RowKit

theorem wrap_div128 (n : Nat) (h : n < 18446744073709551616) : IntKind.u64.wrap ((n : Int) / 128) = ((n / 128 : Nat) : Int) := by rw [IntKind.wrap_u64]; omega
theorem own_one (w : World) (V : Value) (l : List UInt8) (h : [V] = cells8 l) : (w.alloc (.cells #[V] 5)).ownsRow w.heap.size 5 1 (.slice (some ⟨w.heap.size, 0, none⟩) 1 1) 1 (cells8 l) := by
  rw [← h]
  exact own_alloc w #[V] 5 1 1 w.heap.size rfl (by unfold maxLen; omega) (Nat.le_refl _)

set_option maxRecDepth 100000 in
set_option maxHeartbeats 400000 in
theorem reu_any (k : Nat) : ∀ (n : Nat) (w : World), n ≤ k → n < 18446744073709551616 →
    Calls Tryd.prog 79 #[.int .u64 (n : Int)] w fun x w' => ∃ A2 c2, x = .returned (.slice A2 (vb n).length c2) ∧ w'.ownsRow w.heap.size 5 1 (.slice A2 (vb n).length c2) (vb n).length (cells8 (vb n)) ∧ Below w.heap.size w w' := by
  obtain ⟨i5, hi, hz0, hz1, hz2⟩ := info_parts Tryd.info5
  have small : ∀ (n : Nat) (w : World), n < 128 → Calls Tryd.prog 79 #[.int .u64 (n : Int)] w fun x w' => ∃ A2 c2, x = .returned (.slice A2 (vb n).length c2) ∧ w'.ownsRow w.heap.size 5 1 (.slice A2 (vb n).length c2) (vb n).length (cells8 (vb n)) ∧ Below w.heap.size w w' := by
    intro n w hm
    have hvm : vb n = [UInt8.ofNat n] := vb_small hm
    have HVM := Lib.hid hvm
    have HC : Hid ([Value.int .u8 (n : Int)] = cells8 [UInt8.ofNat n]) := Lib.hid (by unfold cells8; simp; omega)
    clear hvm
    go_enter Tryd.func79, Tryd.ntmps79
    go_wp2_with fail
    go_ret
    rw [HVM.out]
    exact ⟨some ⟨w.heap.size, 0, none⟩, 1, rfl, own_one w _ _ HC.out, (Below.refl _ _).alloc (Nat.le_refl _) _⟩
  induction k with
  | zero =>
    intro n w hk _
    exact small n w (by omega)
  | succ k ih =>
    intro n w hk hn
    by_cases hm : n < 128
    · exact small n w hm
    · have hvm : vb n = UInt8.ofNat (128 + n % 128) :: vb (n / 128) := vb_big hm
      have HVM := Lib.hid hvm
      have HIH := Lib.hid (ih (n / 128) (w.alloc (.cells #[.int .u8 (128 + (n : Int) % 128)] 5)) (by omega) (by omega))
      have HW := Lib.hid (wrap_div128 n hn)
      have hv := vb_len10 (n / 128) (by omega)
      have HC : Hid ([Value.int .u8 (128 + (n : Int) % 128)] = cells8 [UInt8.ofNat (128 + n % 128)]) := Lib.hid (by unfold cells8; simp; omega)
      have HO1 := Lib.hid (own_one w _ _ HC.out)
      clear hn hk ih hvm small
      go_enter Tryd.func79, Tryd.ntmps79
      go_wp2_with fail
      rw [HW.out]
      refine HIH.out.mono ?_
      obtain ⟨W1, hW1⟩ : ∃ W1, W1 = w.alloc (.cells #[.int .u8 (128 + (n : Int) % 128)] 5) := ⟨_, rfl⟩
      have hb1 : Below w.heap.size w W1 := by rw [hW1]; exact (Below.refl _ _).alloc (Nat.le_refl _) _
      have HB1 := Lib.hid hb1
      rw [← hW1] at HO1 ⊢
      have hs1 : w.heap.size ≤ W1.heap.size := hb1.size
      rintro e w2 ⟨A2, c2, rfl, ho2, hb2⟩
      obtain ⟨m, hm2⟩ : ∃ m, m = (vb (n / 128)).length := ⟨_, rfl⟩
      rw [← hm2] at ho2 hv ⊢
      have hs2 : w.heap.size ≤ w2.heap.size := by have := hb2.size; omega
      have HB2 := Lib.hid (HB1.out.trans (hb2.mono hs1))
      have HO1' := Lib.hid (HO1.out.kept (grown_of_below hb2 none) (by simp [Value.ownBlock]))
      have hr2 := (bytesIn_of_own ho2).2.cellsN hm2
      have HR2 := Lib.hid hr2
      have HM2 := Lib.hid hm2
      clear hW1 hb1 hb2 ho2 hr2 hm2 HO1 HIH
      go_wp2_with (at_builtin; refine wpList_append_row _ rfl (.tmp 12) (.tmp 15) _ rfl w.heap.size 5 i5 _ 1 1 Tryd.underlying24 hi hz0 hz1 hz2 rfl (by omega) (some ⟨w.heap.size, 0, none⟩) 1 1 (cells8 [UInt8.ofNat (128 + n % 128)]) rfl HO1'.out _ A2 m c2 (cells8 (vb (n / 128))) rfl HR2.out (cells8_one _) (by unfold maxLen; omega) (by omega) hs2 ?_; intro A3 c3 w3 hown3 hg3 _; have HO3 := Lib.hid hown3; have HG3 := Lib.hid hg3; clear hown3 hg3)
      have hb3 : Below w.heap.size w w3 := HB2.out.grown HG3.out hs2 (fun q hq => (HO1'.out.lt q hq).1)
      have e1 : (vb n).length = 1 + m := by rw [HVM.out, HM2.out, List.length_cons]; omega
      have e2 : cells8 (vb n) = cells8 [UInt8.ofNat (128 + n % 128)] ++ cells8 (vb (n / 128)) := by rw [← cells8_append, HVM.out]; rfl
      go_ret
      rw [e1, e2]
      exact ⟨A3, c3, rfl, HO3.out, hb3⟩
theorem rint_pos (n : Int) (h : inI64 n) (h0 : ¬ n < 0) : IntKind.u64.wrap (2 * IntKind.u64.wrap n) = (zz n : Int) := by
  obtain ⟨h1, h2⟩ := h
  have e1 : IntKind.u64.wrap n = n := by rw [IntKind.wrap_u64]; omega
  rw [e1, IntKind.wrap_u64]
  unfold zz
  rw [if_pos (by omega)]
  omega
theorem rint_neg (n : Int) (h : inI64 n) (h0 : n < 0) : IntKind.u64.wrap (IntKind.u64.wrap (2 * IntKind.u64.wrap (wrap64 (-wrap64 (n + 1)))) + 1) = (zz n : Int) := by
  obtain ⟨h1, h2⟩ := h
  have e1 : wrap64 (-wrap64 (n + 1)) = -(n + 1) := by rw [wrap64_in (n + 1) (by omega) (by omega), wrap64_in _ (by omega) (by omega)]
  have e2 : IntKind.u64.wrap (-(n + 1)) = -(n + 1) := by rw [IntKind.wrap_u64]; omega
  have e3 : IntKind.u64.wrap (2 * -(n + 1)) = 2 * -(n + 1) := by rw [IntKind.wrap_u64]; omega
  rw [e1, e2, e3, IntKind.wrap_u64]
  unfold zz
  rw [if_neg (by omega)]
  omega

set_option maxRecDepth 100000 in
set_option maxHeartbeats 400000 in
theorem rei_any (n : Int) (w : World) (hn : inI64 n) :
    Calls Tryd.prog 78 #[.int .i64 n] w fun x w' => ∃ A2 c2, x = .returned (.slice A2 (vb (zz n)).length c2) ∧ w'.ownsRow w.heap.size 5 1 (.slice A2 (vb (zz n)).length c2) (vb (zz n)).length (cells8 (vb (zz n))) ∧ Below w.heap.size w w' := by
  have HN := Lib.hid hn
  have hC := Lib.hid (reu_any (zz n) (zz n) w (Nat.le_refl _) (zz_lt n hn.1 hn.2))
  clear hn
  by_cases h0 : n < 0
  · have HW := Lib.hid (rint_neg n HN.out h0)
    go_enter Tryd.func78, Tryd.ntmps78
    go_wp2_with fail
    rw [HW.out]
    refine hC.out.mono ?_
    rintro e w2 ⟨A2, c2, rfl, ho2, hb2⟩
    have HO2 := Lib.hid ho2
    have HB2 := Lib.hid hb2
    clear ho2 hb2
    go_wp2_with fail
    go_ret
    exact ⟨A2, c2, rfl, HO2.out, HB2.out⟩
  · have HW := Lib.hid (rint_pos n HN.out h0)
    go_enter Tryd.func78, Tryd.ntmps78
    go_wp2_with fail
    rw [HW.out]
    refine hC.out.mono ?_
    rintro e w2 ⟨A2, c2, rfl, ho2, hb2⟩
    have HO2 := Lib.hid ho2
    have HB2 := Lib.hid hb2
    clear ho2 hb2
    go_wp2_with fail
    go_ret
    exact ⟨A2, c2, rfl, HO2.out, HB2.out⟩
set_option maxRecDepth 100000 in
set_option maxHeartbeats 400000 in
theorem ret_any (s : List UInt8) (w : World) (hs : s.length ≤ 100000000) :
    Calls Tryd.prog 67 #[.string (str s)] w fun x w' => ∃ A2 c2, x = .returned (.slice A2 (vtext s).length c2) ∧ w'.ownsRow w.heap.size 5 1 (.slice A2 (vtext s).length c2) (vtext s).length (cells8 (vtext s)) ∧ Below w.heap.size w w' := by
  obtain ⟨i5, hi, hz0, hz1, hz2⟩ := info_parts Tryd.info5
  have hz : (str s).size = s.length := str_size s
  have hv := vb_len10 s.length (by omega)
  go_enter Tryd.func67, Tryd.ntmps67
  go_wp2_with fail
  refine (reu_any s.length s.length w (Nat.le_refl _) (by omega)).mono ?_
  rintro e w1 ⟨A1, c1, rfl, ho, hb⟩
  obtain ⟨k, hk⟩ : ∃ k, k = (vb s.length).length := ⟨_, rfl⟩
  rw [← hk] at ho hv ⊢
  have hs1 : w.heap.size ≤ w1.heap.size := hb.size
  have HO := Lib.hid ho
  have HBl := Lib.hid hb
  have HK := Lib.hid hk
  clear ho hb hk hz
  go_wp2_with (refine wpList_append_str _ rfl (.tmp 6) (.tmp 7) 24 9 rfl w.heap.size 5 i5 1 Tryd.underlying24 Tryd.underlying9 hi hz0 hz1 hz2 A1 k c1 (cells8 (vb s.length)) rfl HO.out s s.length rfl rfl (by unfold maxLen; omega) (by omega) hs1 ?_; intro A3 c3 w3 hown3 hg3; have HO3 := Lib.hid hown3; have HG3 := Lib.hid hg3; clear hown3 hg3)
  have hb3 : Below w.heap.size w w3 := HBl.out.grown HG3.out hs1 (fun q hq => (HO.out.lt q hq).1)
  have e1 : (vtext s).length = k + s.length := by unfold vtext; rw [List.length_append, ← HK.out]
  have e2 : cells8 (vtext s) = cells8 (vb s.length) ++ cells8 s := by unfold vtext; rw [← cells8_append]
  go_ret
  rw [e1, e2]
  exact ⟨A3, c3, rfl, HO3.out, hb3⟩

end Go.Proofs.YtkenaoejijpgpaaDoor
