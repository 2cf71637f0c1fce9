/- Numbers, texts and rows put behind bytes: the program's Int, Text, Ints. -/
import Derived.Test.YtjhjhklidofhgaaEncU
import Derived.Test.YtjhjhklidofhgaaRdL
namespace Go.Proofs.Ytjhjhklidofhgaa
open Go.RowKit

theorem enc_int (n : Int) (h : inI64 n) : bits .xor .u64 (IntKind.u64.wrap (wrap64 (n * 2))) (IntKind.u64.wrap (n / 9223372036854775808)) = (zz n : Int) := by
  obtain ⟨h1, h2⟩ := h
  by_cases h0 : 0 ≤ n
  · have e1 : IntKind.u64.wrap (wrap64 (n * 2)) = (((2 * n).toNat : Nat) : Int) := by rw [IntKind.wrap_u64]; unfold wrap64; omega
    have e2 : IntKind.u64.wrap (n / 9223372036854775808) = 0 := by rw [IntKind.wrap_u64]; omega
    rw [e1, e2, u64_xor_0 _ (by omega)]
    unfold zz
    rw [if_pos h0]
  · have e1 : IntKind.u64.wrap (wrap64 (n * 2)) = (((2 * n + 18446744073709551616).toNat : Nat) : Int) := by rw [IntKind.wrap_u64]; unfold wrap64; omega
    have e2 : IntKind.u64.wrap (n / 9223372036854775808) = 18446744073709551615 := by rw [IntKind.wrap_u64]; omega
    rw [e1, e2, u64_xor_m _ (by omega)]
    unfold zz
    rw [if_neg h0]
    omega

set_option maxHeartbeats 1000000 in
theorem ei_any (A : Option Addr) (c len : Nat) (l : List UInt8) (n : Int) (w : World) (h : BytesIn w w.heap.size A c l) (hlen : len = l.length) (hl : len ≤ 100000000) (hn : inI64 n) :
    Calls Try.prog 16 #[.slice A len c, .int .i64 n] w fun x w' => ∃ A2 c2, x = .returned (.slice A2 (len + (vb (zz n)).length) c2) ∧ w'.ownsRow w.heap.size 5 1 (.slice A2 (len + (vb (zz n)).length) c2) (len + (vb (zz n)).length) (cells8 (l ++ vb (zz n))) ∧ Below w.heap.size w w' := by
  have HB := Lib.hid h
  have HL := Lib.hid hlen
  have hE := Lib.hid hn
  clear h hlen hn
  go_enter Try.func16, Try.ntmps16
  go_wp2_with fail
  rw [enc_int n hE.out]
  refine (eu_any A c len l (zz n) w HB.out HL.out hl (zz_lt n hE.out.1 hE.out.2)).mono ?_
  rintro e w' ⟨A2, c2, rfl, ho, hb⟩
  have HO := Lib.hid ho
  have HBl := Lib.hid hb
  clear ho hb
  go_wp2_with fail
  go_ret
  exact ⟨A2, c2, rfl, HO.out, HBl.out⟩

set_option maxHeartbeats 1000000 in
theorem et_any (A : Option Addr) (c len : Nat) (l : List UInt8) (s : List UInt8) (w : World) (h : BytesIn w w.heap.size A c l) (hlen : len = l.length) (hl : len ≤ 100000000) (hs : s.length ≤ 100000000) :
    Calls Try.prog 19 #[.slice A len c, .string (str s)] w fun x w' => ∃ A2 c2, x = .returned (.slice A2 (len + (vtext s).length) c2) ∧ w'.ownsRow w.heap.size 5 1 (.slice A2 (len + (vtext s).length) c2) (len + (vtext s).length) (cells8 (l ++ vtext s)) ∧ Below w.heap.size w w' := by
  obtain ⟨i5, hi, hz0, hz1, hz2⟩ := info_parts Try.info5
  have HB := Lib.hid h
  have HL := Lib.hid hlen
  have hv := vb_len10 s.length (by omega)
  have hz : (str s).size = s.length := str_size s
  clear h hlen
  go_enter Try.func19, Try.ntmps19
  go_wp2_with fail
  refine (eu_any A c len l s.length w HB.out HL.out hl (by omega)).mono ?_
  rintro e w1 ⟨A1, c1, rfl, ho, hb⟩
  obtain ⟨k, hk⟩ : ∃ k, k = (vb s.length).length := ⟨_, rfl⟩
  rw [← hk] at ho hv ⊢
  have hs1 : w.heap.size ≤ w1.heap.size := hb.size
  have HO := Lib.hid ho
  have HBl := Lib.hid hb
  have HK := Lib.hid hk
  clear ho hb hk hz
  go_wp2_with (refine wpList_append_str _ rfl (.tmp 9) (.tmp 10) 22 9 rfl w.heap.size 5 i5 1 Try.underlying22 Try.underlying9 hi hz0 hz1 hz2 A1 (len + k) c1 (cells8 (l ++ vb s.length)) rfl HO.out s s.length rfl rfl (by unfold maxLen; omega) (by omega) hs1 ?_; intro A3 c3 w3 hown3 hg3; have HO3 := Lib.hid hown3; have HG3 := Lib.hid hg3; clear hown3 hg3)
  have hb3 : Below w.heap.size w w3 := HBl.out.grown HG3.out hs1 (fun q hq => (HO.out.lt q hq).1)
  have e1 : len + (vtext s).length = len + k + s.length := by unfold vtext; rw [List.length_append, ← HK.out]; omega
  have e2 : cells8 (l ++ vtext s) = cells8 (l ++ vb s.length) ++ cells8 s := by unfold vtext; rw [← cells8_append, List.append_assoc]
  go_ret
  rw [e1, e2]
  exact ⟨A3, c3, rfl, HO3.out, hb3⟩

theorem vrow_take (xs : List Int) (k : Nat) (h : k < xs.length) : vrow (xs.take (k + 1)) = vrow (xs.take k) ++ vb (zz xs[k]) := by
  rw [List.take_succ_eq_append_getElem h, vrow_snoc]
theorem cellsI_get (l : List Int) (i : Nat) (h : i < l.length) : (cellsI l)[i]? = some (.int .i64 l[i]) := by unfold cellsI; simp [h]

set_option maxHeartbeats 1000000 in
theorem el_any (A Ai : Option Addr) (c len ci m Bi : Nat) (l : List UInt8) (xs : List Int) (w : World) (h : BytesIn w w.heap.size A c l) (hlen : len = l.length) (hl : len + 10 * m ≤ 90000000) (hx : CellsIn w Bi 1 Ai m (cellsI xs)) (hBi : Bi ≤ w.heap.size) (hm : m = xs.length) (hin : ∀ n ∈ xs, inI64 n) :
    Calls Try.prog 21 #[.slice A len c, .slice Ai m ci] w fun x w' => ∃ A2 c2, x = .returned (.slice A2 (len + (vints xs).length) c2) ∧ w'.ownsRow w.heap.size 5 1 (.slice A2 (len + (vints xs).length) c2) (len + (vints xs).length) (cells8 (l ++ vints xs)) ∧ Below w.heap.size w w' := by
  have HB := Lib.hid h
  have HL := Lib.hid hlen
  have HX := Lib.hid hx
  have HM := Lib.hid hm
  have HI := Lib.hid hin
  have hv := vb_len10 m (by omega)
  have hml : m ≤ 9000000 := by omega
  clear h hlen hx hm hin
  go_enter Try.func21, Try.ntmps21
  go_wp2_with fail
  refine (eu_any A c len l m w HB.out HL.out (by omega) (by omega)).mono ?_
  rintro e w1 ⟨A1, c1, rfl, ho, hb⟩
  obtain ⟨k0, hk0⟩ : ∃ k, k = (vb m).length := ⟨_, rfl⟩
  rw [← hk0] at ho hv ⊢
  have HO := Lib.hid ho
  have HBl := Lib.hid hb
  have HK0 := Lib.hid hk0
  clear ho hb hk0
  go_wp2_with fail
  go_loopw [0, 14] (fun v i wr => ∃ (k q : Nat) (A' : Option Addr) (c' : Nat), k ≤ m ∧ i = .int .i64 k ∧ v = .slice A' (len + q) c' ∧ q ≤ 10 + 10 * k ∧ Hid (q = (vb m ++ vrow (xs.take k)).length) ∧ Hid (wr.ownsRow w.heap.size 5 1 (.slice A' (len + q) c') (len + q) (cells8 (l ++ (vb m ++ vrow (xs.take k))))) ∧ Hid (Below w.heap.size w wr)) (fun _ i _ => m - (intOf i).toNat)
  case atStart => exact ⟨0, k0, A1, c1, by omega, rfl, rfl, by omega, Lib.hid (by simp [vrow, HK0.out]), Lib.hid (by simpa [vrow] using HO.out), HBl⟩
  case round =>
    clear HO HBl
    obtain ⟨k, q, A', c', hk, rfl, rfl, hq, HQ, HO, HBl⟩ := hrel
    have hs : w.heap.size ≤ wr.heap.size := HBl.out.size
    by_cases hkm : k < m
    · have hkx : k < xs.length := by rw [← HM.out]; exact hkm
      obtain ⟨b, off, rfl, hb, hc⟩ := HX.out.at_ (cellsI_get xs k hkx)
      have hc1 : wr.cell? ⟨b, off + k, none⟩ = some (.int .i64 xs[k]) := (HBl.out.cell (p := ⟨b, off + k, none⟩) (by show b < w.heap.size; omega)).trans hc
      have hin := HI.out xs[k] (List.getElem_mem hkx)
      have HIN := Lib.hid hin
      have HVT := Lib.hid (vrow_take xs k hkx)
      generalize xs[k] = n at hc1 HIN HVT
      obtain ⟨hl2, hb2⟩ := bytesIn_of_own HO.out
      have HL2 := Lib.hid hl2
      have HB2 := Lib.hid hb2
      have hvz := vb_len10 (zz n) (zz_lt n HIN.out.1 HIN.out.2)
      have hk0 : (0 : Int) ≤ (k : Int) := by omega
      have hkmI : (k : Int) < (m : Int) := by omega
      clear hc hb hin hl2 hb2
      go_wp2_with fail
      refine (ei_any A' c' (len + q) (l ++ (vb m ++ vrow (xs.take k))) n wr HB2.out HL2.out (by omega) HIN.out).mono ?_
      rintro e w2 ⟨A2, c2, rfl, ho2, hb2⟩
      obtain ⟨j, hj⟩ : ∃ j, j = (vb (zz n)).length := ⟨_, rfl⟩
      rw [← hj] at ho2 hvz ⊢
      have eq1 : len + q + j = len + (q + j) := by omega
      rw [eq1] at ho2 ⊢
      have HO2 : Hid (w2.ownsRow w.heap.size 5 1 (.slice A2 (len + (q + j)) c2) (len + (q + j)) (cells8 (l ++ (vb m ++ vrow (xs.take (k + 1)))))) := Lib.hid (by
        rw [HVT.out, ← List.append_assoc (vb m), ← List.append_assoc l]; exact own_low ho2 hs)
      have HBl2 := Lib.hid (HBl.out.trans (hb2.mono hs))
      have HQ2 : Hid (q + j = (vb m ++ vrow (xs.take (k + 1))).length) := Lib.hid (by rw [HVT.out, hj, HQ.out]; simp only [List.length_append]; omega)
      clear ho2 hb2 hj eq1
      go_wp2_with fail
      go_roundw
      case rel => exact ⟨k + 1, q + j, A2, c2, by omega, by go_num, rfl, by omega, HQ2, HO2, HBl2⟩
      case measure => simp [intOf]; omega
    · have e0 : vb m ++ vrow (xs.take k) = vints xs := by
        rw [List.take_of_length_le (by have := HM.out; omega), vints, ← HM.out]
      have E0 := Lib.hid e0
      clear e0
      go_wp2_with fail
      go_ret
      rw [← E0.out, ← HQ.out]
      exact ⟨A', c', rfl, HO.out, HBl.out⟩
end Go.Proofs.Ytjhjhklidofhgaa
