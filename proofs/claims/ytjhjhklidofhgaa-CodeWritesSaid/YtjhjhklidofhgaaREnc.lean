/- The document's bytes of numbers, texts and rows. -/
import Derived.Test.YtjhjhklidofhgaaEnc
namespace Go.Proofs.Ytjhjhklidofhgaa
open Go.RowKit

theorem wrap_div128 (n : Nat) (h : n < 18446744073709551616) : IntKind.u64.wrap ((n : Int) / 128) = ((n / 128 : Nat) : Int) := by rw [IntKind.wrap_u64]; omega
theorem own_one (w : World) (V : Value) (l : List UInt8) (h : [V] = cells8 l) : (w.alloc (.cells #[V] 5)).ownsRow w.heap.size 5 1 (.slice (some ⟨w.heap.size, 0, none⟩) 1 1) 1 (cells8 l) := by
  rw [← h]
  exact own_alloc w #[V] 5 1 1 w.heap.size rfl (by unfold maxLen; omega) (Nat.le_refl _)

set_option maxHeartbeats 400000 in
set_option maxRecDepth 100000 in
theorem reu_any (k : Nat) : ∀ (n : Nat) (w : World), n ≤ k → n < 18446744073709551616 →
    Calls Try.prog 17 #[.int .u64 (n : Int)] w fun x w' => ∃ A2 c2, x = .returned (.slice A2 (vb n).length c2) ∧ w'.ownsRow w.heap.size 5 1 (.slice A2 (vb n).length c2) (vb n).length (cells8 (vb n)) ∧ Below w.heap.size w w' := by
  obtain ⟨i5, hi, hz0, hz1, hz2⟩ := info_parts Try.info5
  have small : ∀ (n : Nat) (w : World), n < 128 → Calls Try.prog 17 #[.int .u64 (n : Int)] w fun x w' => ∃ A2 c2, x = .returned (.slice A2 (vb n).length c2) ∧ w'.ownsRow w.heap.size 5 1 (.slice A2 (vb n).length c2) (vb n).length (cells8 (vb n)) ∧ Below w.heap.size w w' := by
    intro n w hm
    have hvm : vb n = [UInt8.ofNat n] := vb_small hm
    have HVM := Lib.hid hvm
    have HC : Hid ([Value.int .u8 (n : Int)] = cells8 [UInt8.ofNat n]) := Lib.hid (by unfold cells8; simp; omega)
    clear hvm
    go_enter Try.func17, Try.ntmps17
    go_wp2_with fail
    go_ret
    rw [HVM.out]
    exact ⟨some ⟨w.heap.size, 0, none⟩, 1, rfl, own_one w _ _ HC.out, (Below.refl _ _).alloc (Nat.le_refl _) _⟩
  induction k with
  | zero =>
    intro n w hk _
    exact small n w (by omega)
  | succ k ih =>
    intro n w hk hn
    by_cases hm : n < 128
    · exact small n w hm
    · have hvm : vb n = UInt8.ofNat (128 + n % 128) :: vb (n / 128) := vb_big hm
      have HVM := Lib.hid hvm
      have HIH := Lib.hid (ih (n / 128) (w.alloc (.cells #[.int .u8 (128 + (n : Int) % 128)] 5)) (by omega) (by omega))
      have HW := Lib.hid (wrap_div128 n hn)
      have hv := vb_len10 (n / 128) (by omega)
      have HC : Hid ([Value.int .u8 (128 + (n : Int) % 128)] = cells8 [UInt8.ofNat (128 + n % 128)]) := Lib.hid (by unfold cells8; simp; omega)
      have HO1 := Lib.hid (own_one w _ _ HC.out)
      clear hn hk ih hvm small
      go_enter Try.func17, Try.ntmps17
      go_wp2_with fail
      rw [HW.out]
      refine HIH.out.mono ?_
      obtain ⟨W1, hW1⟩ : ∃ W1, W1 = w.alloc (.cells #[.int .u8 (128 + (n : Int) % 128)] 5) := ⟨_, rfl⟩
      have hb1 : Below w.heap.size w W1 := by rw [hW1]; exact (Below.refl _ _).alloc (Nat.le_refl _) _
      have HB1 := Lib.hid hb1
      rw [← hW1] at HO1 ⊢
      have hs1 : w.heap.size ≤ W1.heap.size := hb1.size
      rintro e w2 ⟨A2, c2, rfl, ho2, hb2⟩
      obtain ⟨m, hm2⟩ : ∃ m, m = (vb (n / 128)).length := ⟨_, rfl⟩
      rw [← hm2] at ho2 hv ⊢
      have hs2 : w.heap.size ≤ w2.heap.size := by have := hb2.size; omega
      have HB2 := Lib.hid (HB1.out.trans (hb2.mono hs1))
      have HO1' := Lib.hid (HO1.out.kept (grown_of_below hb2 none) (by simp [Value.ownBlock]))
      have hr2 := (bytesIn_of_own ho2).2.cellsN hm2
      have HR2 := Lib.hid hr2
      have HM2 := Lib.hid hm2
      clear hW1 hb1 hb2 ho2 hr2 hm2 HO1 HIH
      go_wp2_with (at_builtin; refine wpList_append_row _ rfl (.tmp 12) (.tmp 15) _ rfl w.heap.size 5 i5 _ 1 1 Try.underlying22 hi hz0 hz1 hz2 rfl (by omega) (some ⟨w.heap.size, 0, none⟩) 1 1 (cells8 [UInt8.ofNat (128 + n % 128)]) rfl HO1'.out _ A2 m c2 (cells8 (vb (n / 128))) rfl HR2.out (cells8_one _) (by unfold maxLen; omega) (by omega) hs2 ?_; intro A3 c3 w3 hown3 hg3 _; have HO3 := Lib.hid hown3; have HG3 := Lib.hid hg3; clear hown3 hg3)
      have hb3 : Below w.heap.size w w3 := HB2.out.grown HG3.out hs2 (fun q hq => (HO1'.out.lt q hq).1)
      have e1 : (vb n).length = 1 + m := by rw [HVM.out, HM2.out, List.length_cons]; omega
      have e2 : cells8 (vb n) = cells8 [UInt8.ofNat (128 + n % 128)] ++ cells8 (vb (n / 128)) := by rw [← cells8_append, HVM.out]; rfl
      go_ret
      rw [e1, e2]
      exact ⟨A3, c3, rfl, HO3.out, hb3⟩
theorem rint_pos (n : Int) (h : inI64 n) (h0 : ¬ n < 0) : IntKind.u64.wrap (2 * IntKind.u64.wrap n) = (zz n : Int) := by
  obtain ⟨h1, h2⟩ := h
  have e1 : IntKind.u64.wrap n = n := by rw [IntKind.wrap_u64]; omega
  rw [e1, IntKind.wrap_u64]
  unfold zz
  rw [if_pos (by omega)]
  omega
theorem rint_neg (n : Int) (h : inI64 n) (h0 : n < 0) : IntKind.u64.wrap (IntKind.u64.wrap (2 * IntKind.u64.wrap (wrap64 (-wrap64 (n + 1)))) + 1) = (zz n : Int) := by
  obtain ⟨h1, h2⟩ := h
  have e1 : wrap64 (-wrap64 (n + 1)) = -(n + 1) := by rw [wrap64_in (n + 1) (by omega) (by omega), wrap64_in _ (by omega) (by omega)]
  have e2 : IntKind.u64.wrap (-(n + 1)) = -(n + 1) := by rw [IntKind.wrap_u64]; omega
  have e3 : IntKind.u64.wrap (2 * -(n + 1)) = 2 * -(n + 1) := by rw [IntKind.wrap_u64]; omega
  rw [e1, e2, e3, IntKind.wrap_u64]
  unfold zz
  rw [if_neg (by omega)]
  omega

set_option maxHeartbeats 400000 in
set_option maxRecDepth 100000 in
theorem rei_any (n : Int) (w : World) (hn : inI64 n) :
    Calls Try.prog 18 #[.int .i64 n] w fun x w' => ∃ A2 c2, x = .returned (.slice A2 (vb (zz n)).length c2) ∧ w'.ownsRow w.heap.size 5 1 (.slice A2 (vb (zz n)).length c2) (vb (zz n)).length (cells8 (vb (zz n))) ∧ Below w.heap.size w w' := by
  have HN := Lib.hid hn
  have hC := Lib.hid (reu_any (zz n) (zz n) w (Nat.le_refl _) (zz_lt n hn.1 hn.2))
  clear hn
  by_cases h0 : n < 0
  · have HW := Lib.hid (rint_neg n HN.out h0)
    go_enter Try.func18, Try.ntmps18
    go_wp2_with fail
    rw [HW.out]
    refine hC.out.mono ?_
    rintro e w2 ⟨A2, c2, rfl, ho2, hb2⟩
    have HO2 := Lib.hid ho2
    have HB2 := Lib.hid hb2
    clear ho2 hb2
    go_wp2_with fail
    go_ret
    exact ⟨A2, c2, rfl, HO2.out, HB2.out⟩
  · have HW := Lib.hid (rint_pos n HN.out h0)
    go_enter Try.func18, Try.ntmps18
    go_wp2_with fail
    rw [HW.out]
    refine hC.out.mono ?_
    rintro e w2 ⟨A2, c2, rfl, ho2, hb2⟩
    have HO2 := Lib.hid ho2
    have HB2 := Lib.hid hb2
    clear ho2 hb2
    go_wp2_with fail
    go_ret
    exact ⟨A2, c2, rfl, HO2.out, HB2.out⟩
set_option maxHeartbeats 400000 in
set_option maxRecDepth 100000 in
theorem ret_any (s : List UInt8) (w : World) (hs : s.length ≤ 100000000) :
    Calls Try.prog 20 #[.string (str s)] w fun x w' => ∃ A2 c2, x = .returned (.slice A2 (vtext s).length c2) ∧ w'.ownsRow w.heap.size 5 1 (.slice A2 (vtext s).length c2) (vtext s).length (cells8 (vtext s)) ∧ Below w.heap.size w w' := by
  obtain ⟨i5, hi, hz0, hz1, hz2⟩ := info_parts Try.info5
  have hz : (str s).size = s.length := str_size s
  have hv := vb_len10 s.length (by omega)
  go_enter Try.func20, Try.ntmps20
  go_wp2_with fail
  refine (reu_any s.length s.length w (Nat.le_refl _) (by omega)).mono ?_
  rintro e w1 ⟨A1, c1, rfl, ho, hb⟩
  obtain ⟨k, hk⟩ : ∃ k, k = (vb s.length).length := ⟨_, rfl⟩
  rw [← hk] at ho hv ⊢
  have hs1 : w.heap.size ≤ w1.heap.size := hb.size
  have HO := Lib.hid ho
  have HBl := Lib.hid hb
  have HK := Lib.hid hk
  clear ho hb hk hz
  go_wp2_with (refine wpList_append_str _ rfl (.tmp 6) (.tmp 7) 22 9 rfl w.heap.size 5 i5 1 Try.underlying22 Try.underlying9 hi hz0 hz1 hz2 A1 k c1 (cells8 (vb s.length)) rfl HO.out s s.length rfl rfl (by unfold maxLen; omega) (by omega) hs1 ?_; intro A3 c3 w3 hown3 hg3; have HO3 := Lib.hid hown3; have HG3 := Lib.hid hg3; clear hown3 hg3)
  have hb3 : Below w.heap.size w w3 := HBl.out.grown HG3.out hs1 (fun q hq => (HO.out.lt q hq).1)
  have e1 : (vtext s).length = k + s.length := by unfold vtext; rw [List.length_append, ← HK.out]
  have e2 : cells8 (vtext s) = cells8 (vb s.length) ++ cells8 s := by unfold vtext; rw [← cells8_append]
  go_ret
  rw [e1, e2]
  exact ⟨A3, c3, rfl, HO3.out, hb3⟩

set_option maxHeartbeats 1000000 in
set_option maxRecDepth 100000 in
theorem rel_any (Ai : Option Addr) (ci m Bi : Nat) (xs : List Int) (w : World) (hx : CellsIn w Bi 1 Ai m (cellsI xs)) (hBi : Bi ≤ w.heap.size) (hm : m = xs.length) (hml : m ≤ 9000000) (hin : ∀ n ∈ xs, inI64 n) :
    Calls Try.prog 22 #[.slice Ai m ci] w fun x w' => ∃ A2 c2, x = .returned (.slice A2 (vints xs).length c2) ∧ w'.ownsRow w.heap.size 5 1 (.slice A2 (vints xs).length c2) (vints xs).length (cells8 (vints xs)) ∧ Below w.heap.size w w' := by
  obtain ⟨i5, hi, hz0, hz1, hz2⟩ := info_parts Try.info5
  have HX := Lib.hid hx
  have HM := Lib.hid hm
  have HI := Lib.hid hin
  have hv := vb_len10 m (by omega)
  clear hx hm hin
  go_enter Try.func22, Try.ntmps22
  go_wp2_with fail
  refine (reu_any m m w (Nat.le_refl _) (by omega)).mono ?_
  rintro e w1 ⟨A1, c1, rfl, ho, hb⟩
  obtain ⟨k0, hk0⟩ : ∃ k, k = (vb m).length := ⟨_, rfl⟩
  rw [← hk0] at ho hv ⊢
  have HO := Lib.hid ho
  have HBl := Lib.hid hb
  have HK0 := Lib.hid hk0
  clear ho hb hk0
  go_wp2_with fail
  go_loopw [3, 4] (fun v i wr => ∃ (k q : Nat) (A' : Option Addr) (c' : Nat), k ≤ m ∧ i = .int .i64 k ∧ v = .slice A' q c' ∧ q ≤ 10 + 10 * k ∧ Hid (q = (vb m ++ vrow (xs.take k)).length) ∧ Hid (wr.ownsRow w.heap.size 5 1 (.slice A' q c') q (cells8 (vb m ++ vrow (xs.take k)))) ∧ Hid (Below w.heap.size w wr)) (fun _ i _ => m - (intOf i).toNat)
  case atStart => exact ⟨0, k0, A1, c1, by omega, rfl, rfl, by omega, Lib.hid (by simp [vrow, HK0.out]), Lib.hid (by simpa [vrow] using HO.out), HBl⟩
  case round =>
    clear HO HBl
    obtain ⟨k, q, A', c', hk, rfl, rfl, hq, HQ, HO, HBl⟩ := hrel
    have hs : w.heap.size ≤ wr.heap.size := HBl.out.size
    by_cases hkm : k < m
    · have hkx : k < xs.length := by rw [← HM.out]; exact hkm
      obtain ⟨b, off, rfl, hb, hc⟩ := HX.out.at_ (cellsI_get xs k hkx)
      have hc1 : wr.cell? ⟨b, off + k, none⟩ = some (.int .i64 xs[k]) := (HBl.out.cell (p := ⟨b, off + k, none⟩) (by show b < w.heap.size; omega)).trans hc
      have hin := HI.out xs[k] (List.getElem_mem hkx)
      have HIN := Lib.hid hin
      have HVT := Lib.hid (vrow_take xs k hkx)
      generalize xs[k] = n at hc1 HIN HVT
      have hvz := vb_len10 (zz n) (zz_lt n HIN.out.1 HIN.out.2)
      have hk0 : (0 : Int) ≤ (k : Int) := by omega
      have hkmI : (k : Int) < (m : Int) := by omega
      clear hc hb hin
      go_wp2_with fail
      refine (rei_any n wr HIN.out).mono ?_
      rintro e w2 ⟨A2, c2, rfl, ho2, hb2⟩
      obtain ⟨j, hj⟩ : ∃ j, j = (vb (zz n)).length := ⟨_, rfl⟩
      rw [← hj] at ho2 hvz ⊢
      have hs2 : w.heap.size ≤ w2.heap.size := by have := hb2.size; omega
      have HBl2 := Lib.hid (HBl.out.trans (hb2.mono hs))
      have HO1 := Lib.hid (HO.out.kept (grown_of_below hb2 none) (by cases A' <;> simp [Value.ownBlock]))
      have HR2 := Lib.hid ((bytesIn_of_own ho2).2.cellsN hj)
      have HJ := Lib.hid hj
      clear ho2 hb2 hj HO
      go_wp2_with (at_builtin; refine wpList_append_row _ rfl (.tmp 15) (.tmp 20) _ rfl w.heap.size 5 i5 _ 1 1 Try.underlying22 hi hz0 hz1 hz2 rfl (by omega) A' q c' (cells8 (vb m ++ vrow (xs.take k))) rfl HO1.out _ A2 j c2 (cells8 (vb (zz n))) rfl HR2.out (cells8_one _) (by unfold maxLen; omega) (by omega) hs2 ?_; intro A3 c3 w3 hown3 hg3 _; have HO3 := Lib.hid hown3; have HG3 := Lib.hid hg3; clear hown3 hg3)
      have HB3 : Hid (Below w.heap.size w w3) := Lib.hid (HBl2.out.grown HG3.out hs2 (fun q hq => (HO1.out.lt q hq).1))
      have HO4 : Hid (w3.ownsRow w.heap.size 5 1 (.slice A3 (q + j) c3) (q + j) (cells8 (vb m ++ vrow (xs.take (k + 1))))) := Lib.hid (by
        rw [HVT.out, ← List.append_assoc, cells8_append _ (vb (zz n))]; exact HO3.out)
      have HQ2 : Hid (q + j = (vb m ++ vrow (xs.take (k + 1))).length) := Lib.hid (by rw [HVT.out, HJ.out, HQ.out]; simp only [List.length_append]; omega)
      go_roundw
      case rel => exact ⟨k + 1, q + j, A3, c3, by omega, by go_num, rfl, by omega, HQ2, HO4, HB3⟩
      case measure => simp [intOf]; omega
    · have e0 : vb m ++ vrow (xs.take k) = vints xs := by
        rw [List.take_of_length_le (by have := HM.out; omega), vints, ← HM.out]
      have E0 := Lib.hid e0
      clear e0
      go_wp2_with fail
      go_ret
      rw [← E0.out, ← HQ.out]
      exact ⟨A', c', rfl, HO.out, HBl.out⟩

theorem cellsI_inj (xs ys : List Int) (k : Nat) (h : k < xs.length) (h' : k < ys.length) : (cellsI xs)[k]? = (cellsI ys)[k]? ↔ xs[k] = ys[k] := by
  rw [cellsI_get xs k h, cellsI_get ys k h']; simp
set_option maxHeartbeats 1000000 in
/-- Are two rows the same? -/
theorem same_any (Aa Ab : Option Addr) (ca cb m n Ba Bb : Nat) (xs ys : List Int) (w : World) (hx : CellsIn w Ba 1 Aa m (cellsI xs)) (hy : CellsIn w Bb 1 Ab n (cellsI ys)) (hm : m = xs.length) (hn : n = ys.length) (hmb : m ≤ 9223372036854775806) (hnb : n ≤ 9223372036854775806) :
    Calls Try.prog 27 #[.slice Aa m ca, .slice Ab n cb] w fun x w' => x = .returned (.bool (decide (xs = ys))) ∧ ∃ k, w' = w.drewN k := by
  by_cases hmn : m = n
  · subst hmn
    have HX := Lib.hid hx
    have HY := Lib.hid hy
    have HM := Lib.hid hm
    have HN := Lib.hid hn
    clear hx hy hm hn hnb
    go_enter Try.func27, Try.ntmps27
    go_wp2_with fail
    go_loopw [5] (fun i wr => ∃ k q : Nat, k ≤ m ∧ i = .int .i64 k ∧ wr = w.drewN q ∧ Hid (xs.take k = ys.take k)) (fun i _ => m - (intOf i).toNat)
    case atStart => exact ⟨0, 0, by omega, rfl, rfl, Lib.hid (by simp)⟩
    case round =>
      obtain ⟨k, q, hk, rfl, rfl, HE⟩ := hrel
      by_cases hkm : k < m
      · have hkx : k < xs.length := by rw [← HM.out]; exact hkm
        have hky : k < ys.length := by rw [← HN.out]; exact hkm
        obtain ⟨b, off, rfl, hb, hc⟩ := HX.out.at_ (cellsI_get xs k hkx)
        obtain ⟨b', off', rfl, hb', hc'⟩ := HY.out.at_ (cellsI_get ys k hky)
        have hkz : (0 : Int) ≤ (k : Int) := by omega
        have hkmI : (k : Int) < (m : Int) := by omega
        by_cases he : xs[k] = ys[k]
        · have HE2 : Hid (xs.take (k + 1) = ys.take (k + 1)) := Lib.hid (by rw [List.take_succ_eq_append_getElem hkx, List.take_succ_eq_append_getElem hky, HE.out, he])
          rw [← he] at hc'
          generalize xs[k] = x at hc hc'
          clear he hb hb'
          go_wp2_with fail
          go_quiet (fail)
          go_wp2_with fail
          go_roundw
          case rel => exact ⟨k + 1, q + nq, by omega, by go_num, by simp, HE2⟩
          case measure => simp [intOf]; omega
        · have HE2 : Hid (¬ xs = ys) := Lib.hid (fun h => he (by subst h; rfl))
          have qq : (xs[k] != ys[k]) = true := by rw [bne_iff_ne]; exact he
          generalize xs[k] = x at hc qq
          generalize ys[k] = y at hc' qq
          clear he hb hb'
          go_wp2_with fail
          go_quiet (fail)
          go_wp2_with fail
          go_ret
          exact ⟨by rw [decide_eq_false HE2.out]; rfl, q + nq, by simp⟩
      · have HE2 : Hid (xs = ys) := Lib.hid (by
          have := HE.out
          rw [List.take_of_length_le (by have := HM.out; omega), List.take_of_length_le (by have := HN.out; omega)] at this
          exact this)
        go_wp2_with fail
        go_ret
        exact ⟨by rw [decide_eq_true HE2.out]; rfl, q, rfl⟩
  · have HE2 : Hid (¬ xs = ys) := Lib.hid (fun h => hmn (by rw [hm, hn, h]))
    have qq : ((m : Int) != (n : Int)) = true := by rw [bne_iff_ne]; omega
    clear hx hy hm hn hmn
    go_enter Try.func27, Try.ntmps27
    go_wp2_with fail
    go_ret
    exact ⟨by rw [decide_eq_false HE2.out]; rfl, 0, rfl⟩
end Go.Proofs.Ytjhjhklidofhgaa
