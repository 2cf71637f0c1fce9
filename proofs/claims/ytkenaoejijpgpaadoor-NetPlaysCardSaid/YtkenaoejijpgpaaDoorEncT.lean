/- Numbers, texts and rows put behind bytes: the program's Int, Text, Ints. -/
import Derived.Test.YtkenaoejijpgpaaDoorEncU
import Derived.Test.YtkenaoejijpgpaaDoorRdC
namespace Go.Proofs.YtkenaoejijpgpaaDoor
open Go.RowKit

theorem enc_int (n : Int) (h : inI64 n) : bits .xor .u64 (IntKind.u64.wrap (wrap64 (n * 2))) (IntKind.u64.wrap (n / 9223372036854775808)) = (zz n : Int) := by
  obtain ⟨h1, h2⟩ := h
  by_cases h0 : 0 ≤ n
  · have e1 : IntKind.u64.wrap (wrap64 (n * 2)) = (((2 * n).toNat : Nat) : Int) := by rw [IntKind.wrap_u64]; unfold wrap64; omega
    have e2 : IntKind.u64.wrap (n / 9223372036854775808) = 0 := by rw [IntKind.wrap_u64]; omega
    rw [e1, e2, u64_xor_0 _ (by omega)]
    unfold zz
    rw [if_pos h0]
  · have e1 : IntKind.u64.wrap (wrap64 (n * 2)) = (((2 * n + 18446744073709551616).toNat : Nat) : Int) := by rw [IntKind.wrap_u64]; unfold wrap64; omega
    have e2 : IntKind.u64.wrap (n / 9223372036854775808) = 18446744073709551615 := by rw [IntKind.wrap_u64]; omega
    rw [e1, e2, u64_xor_m _ (by omega)]
    unfold zz
    rw [if_neg h0]
    omega

set_option maxRecDepth 100000 in
set_option maxHeartbeats 1000000 in
theorem ei_any (A : Option Addr) (c len : Nat) (l : List UInt8) (n : Int) (w : World) (h : BytesIn w w.heap.size A c l) (hlen : len = l.length) (hl : len ≤ 100000000) (hn : inI64 n) :
    Calls Tryd.prog 37 #[.slice A len c, .int .i64 n] w fun x w' => ∃ A2 c2, x = .returned (.slice A2 (len + (vb (zz n)).length) c2) ∧ w'.ownsRow w.heap.size 5 1 (.slice A2 (len + (vb (zz n)).length) c2) (len + (vb (zz n)).length) (cells8 (l ++ vb (zz n))) ∧ Below w.heap.size w w' := by
  have HB := Lib.hid h
  have HL := Lib.hid hlen
  have hE := Lib.hid hn
  clear h hlen hn
  go_enter Tryd.func37, Tryd.ntmps37
  go_wp2_with fail
  rw [enc_int n hE.out]
  refine (eu_any A c len l (zz n) w HB.out HL.out hl (zz_lt n hE.out.1 hE.out.2)).mono ?_
  rintro e w' ⟨A2, c2, rfl, ho, hb⟩
  have HO := Lib.hid ho
  have HBl := Lib.hid hb
  clear ho hb
  go_wp2_with fail
  go_ret
  exact ⟨A2, c2, rfl, HO.out, HBl.out⟩

set_option maxRecDepth 100000 in
set_option maxHeartbeats 1000000 in
theorem et_any (A : Option Addr) (c len : Nat) (l : List UInt8) (s : List UInt8) (w : World) (h : BytesIn w w.heap.size A c l) (hlen : len = l.length) (hl : len ≤ 100000000) (hs : s.length ≤ 100000000) :
    Calls Tryd.prog 38 #[.slice A len c, .string (str s)] w fun x w' => ∃ A2 c2, x = .returned (.slice A2 (len + (vtext s).length) c2) ∧ w'.ownsRow w.heap.size 5 1 (.slice A2 (len + (vtext s).length) c2) (len + (vtext s).length) (cells8 (l ++ vtext s)) ∧ Below w.heap.size w w' := by
  obtain ⟨i5, hi, hz0, hz1, hz2⟩ := info_parts Tryd.info5
  have HB := Lib.hid h
  have HL := Lib.hid hlen
  have hv := vb_len10 s.length (by omega)
  have hz : (str s).size = s.length := str_size s
  clear h hlen
  go_enter Tryd.func38, Tryd.ntmps38
  go_wp2_with fail
  refine (eu_any A c len l s.length w HB.out HL.out hl (by omega)).mono ?_
  rintro e w1 ⟨A1, c1, rfl, ho, hb⟩
  obtain ⟨k, hk⟩ : ∃ k, k = (vb s.length).length := ⟨_, rfl⟩
  rw [← hk] at ho hv ⊢
  have hs1 : w.heap.size ≤ w1.heap.size := hb.size
  have HO := Lib.hid ho
  have HBl := Lib.hid hb
  have HK := Lib.hid hk
  clear ho hb hk hz
  go_wp2_with (refine wpList_append_str _ rfl (.tmp 9) (.tmp 10) 24 9 rfl w.heap.size 5 i5 1 Tryd.underlying24 Tryd.underlying9 hi hz0 hz1 hz2 A1 (len + k) c1 (cells8 (l ++ vb s.length)) rfl HO.out s s.length rfl rfl (by unfold maxLen; omega) (by omega) hs1 ?_; intro A3 c3 w3 hown3 hg3; have HO3 := Lib.hid hown3; have HG3 := Lib.hid hg3; clear hown3 hg3)
  have hb3 : Below w.heap.size w w3 := HBl.out.grown HG3.out hs1 (fun q hq => (HO.out.lt q hq).1)
  have e1 : len + (vtext s).length = len + k + s.length := by unfold vtext; rw [List.length_append, ← HK.out]; omega
  have e2 : cells8 (l ++ vtext s) = cells8 (l ++ vb s.length) ++ cells8 s := by unfold vtext; rw [← cells8_append, List.append_assoc]
  go_ret
  rw [e1, e2]
  exact ⟨A3, c3, rfl, HO3.out, hb3⟩
end Go.Proofs.YtkenaoejijpgpaaDoor
