/- Numbers put behind bytes: the program's Uint. -/
import Derived.Test.YtkenaoejijpgpaaDoorArith
import Derived.Test.YtkenaoejijpgpaaDoorStrApp
import Derived.Laws.CopyOwn
namespace Go.Proofs.YtkenaoejijpgpaaDoor
open Go.RowKit

theorem Tryd.info5 : (Tryd.prog.info? 5).map (fun i => (i.zero, i.size, i.bytes)) = some (some (.int .u8 0), 1, 1) := by kernel_rfl

/-- 'make([]byte, n, c)'. -/
theorem wpList_make_lc {P : Program} (w : World) {ops : Array Oper} {rest : List Oper} {o : Oper} {a : Act} {Q : Exit → Act → World → Prop}
    (hg : o.guard = none) (l c : Operand) (t : TypeId) (hop : o.op = Op.makeSlice t l c) (e : TypeId) (i : TypeInfo) (h1 : P.underlying t = some (.slice e)) (h2 : P.info? e = some i) (h3 : i.zero = some (.int .u8 0)) (h4 : i.size = 1) (h5 : i.bytes = 1)
    (L C : Int) (n m : Nat) (hl : a.eval l = .int .i64 L) (hc : a.eval c = .int .i64 C) (hL : L = (n : Int)) (hC : C = (m : Int)) (hnm : n ≤ m) (hm : m ≤ 281474976710656)
    (hK : wpList P ops Q rest (a.put o.dst (.slice (some ⟨w.heap.size, 0, none⟩) n m)) (w.alloc (.cells (cells8 (List.replicate m 0)).toArray e))) :
    wpList P ops Q (o :: rest) a w := by
  refine wpList_plain hg fun K hK' => ?_
  subst hL
  subst hC
  have hr := run_make (P := P) w t e i _ h1 h2 h3 .i64 .i64 (n : Int) (m : Int) (by omega) (by omega) (by rw [h5]; omega) (by omega)
  have e1 : madeCells (Value.int .u8 0).cells ((m : Int).toNat * i.size) = (cells8 (List.replicate m 0)).toArray := by
    apply Array.ext'
    have : (Value.int .u8 0).cells = #[.int .u8 0] := rfl
    rw [this, toList_madeCells_one, h4]
    unfold cells8
    rw [List.map_replicate]
    simp
  rw [e1] at hr
  simp only [Int.toNat_natCast] at hr
  unfold Oper.wp
  simp [execOp, hop, hl, hc, hr, Result.andThen]
  exact hK' _ _ hK

theorem made_own {w : World} {base b n c : Nat} {e : TypeId} {l : List UInt8} {cur : List Value} (h : w.heap[b]? = some (.cells (splice cur 0 (cells8 l)).toArray e (0, 0))) (hcur : cur.length = c) (hn : n = l.length) (hnc : n ≤ c) (hb : base ≤ b) (hc : c ≤ maxLen) :
    w.ownsRow base e 1 (.slice (some ⟨b, 0, none⟩) n c) n (cells8 l) := by
  have hs : splice cur 0 (cells8 l) = cells8 l ++ cur.drop n := by simp [splice, cells8_length, hn]
  rw [hs] at h
  refine ⟨by rw [cells8_length]; omega, .inr ⟨b, c, _, rfl, hb, h, hnc, hc, ?_, ?_⟩⟩
  · simp [cells8_length]; omega
  · rw [List.take_append_of_le_length (by rw [cells8_length]; omega), List.take_of_length_le (by rw [cells8_length]; omega)]

theorem bytes_at {w : World} {B m : Nat} {A : Option Addr} {xs : List Value} (h : CellsIn w B 1 A m xs) (h0 : 0 < xs.length) : ∃ ad, A = some ad ∧ ∀ (j : Nat) (v : Value), xs[j]? = some v → w.cell? (ad.add j) = some v := by
  rcases h.rd with e | ⟨b, off, e, _, hh⟩
  · rw [e] at h0; simp at h0
  · exact ⟨_, e, fun j v hv => by rw [Addr.add_lit]; exact hh j v hv⟩

theorem or128 (m : Nat) : bits .or .u8 ((m : Int) % 256) 128 = ((128 + m % 128 : Nat) : Int) := by
  have e : ((m : Int) % 256) = ((m % 256 : Nat) : Int) := by omega
  have := u8_or_nat (m % 256) 128 (by omega) (by omega)
  rw [e, show (128 : Int) = ((128 : Nat) : Int) from rfl, this]
  congr 1
  have h1 : m % 256 = (m % 256 / 128) * 128 + m % 128 := by omega
  have h2 : m % 256 / 128 = 0 ∨ m % 256 / 128 = 1 := by omega
  have hlt : m % 128 < 2 ^ 7 := by omega
  have h3 := Nat.two_pow_add_eq_or_of_lt hlt 1
  rcases h2 with h2 | h2
  · rw [h2] at h1
    have : m % 256 = m % 128 := by omega
    rw [this, Nat.or_comm]
    exact h3.symm
  · rw [h2] at h1
    have e1 : m % 256 = 128 ||| m % 128 := by rw [h1]; exact h3
    rw [e1, Nat.or_comm 128, Nat.or_assoc, Nat.or_self, Nat.or_comm]
    exact h3.symm

set_option maxRecDepth 100000 in
set_option maxHeartbeats 1000000 in
theorem eu_any (A : Option Addr) (c len : Nat) (l : List UInt8) (n : Nat) (w : World) (h : BytesIn w w.heap.size A c l) (hlen : len = l.length) (hl : len ≤ 100000000) (hn : n < 18446744073709551616) :
    Calls Tryd.prog 63 #[.slice A len c, .int .u64 (n : Int)] w fun x w' => ∃ A2 c2, x = .returned (.slice A2 (len + (vb n).length) c2) ∧ w'.ownsRow w.heap.size 5 1 (.slice A2 (len + (vb n).length) c2) (len + (vb n).length) (cells8 (l ++ vb n)) ∧ Below w.heap.size w w' := by
  obtain ⟨i5, hi, hz0, hz1, hz2⟩ := info_parts Tryd.info5
  have hsz : (Tryd.prog.info? 5).map (·.size) = some 1 := by rw [hi]; simp [hz1]
  have hlc : len ≤ c := by have := h.le; omega
  have hc1 := h.cap
  have hv := vb_len10 n hn
  have HV := Lib.hid hv
  have HL := Lib.hid hlen
  have HB := Lib.hid h
  have HNB := Lib.hid hn
  clear h hlen hn hv
  have hb1 : Below w.heap.size w (w.alloc (.cells (cells8 (List.replicate (len + 10) 0)).toArray 5)) := (Below.refl _ _).alloc (Nat.le_refl _) _
  have HB1 := Lib.hid hb1
  have HH1 := Lib.hid (heap_alloc_new w (.cells (cells8 (List.replicate (len + 10) 0)).toArray 5))
  have HR1 := Lib.hid (BytesIn.cells (HB.out.below hb1 (Nat.le_refl _)))
  clear hb1
  go_enter Tryd.func63, Tryd.ntmps63
  go_wp2_with (first
    | (at_make; refine wpList_make_lc _ rfl _ _ 24 rfl 5 i5 Tryd.underlying24 hi hz0 hz1 hz2 _ _ len (len + 10) rfl rfl rfl (by omega) (by omega) (by omega) ?_)
    | (refine wpList_copy_splice rfl (.tmp 12) (.tmp 13) 24 24 rfl 5 Tryd.underlying24 hsz (some ⟨w.heap.size, 0, none⟩) A len (len + 10) len c rfl rfl w.heap.size 0 (cells8 (List.replicate (len + 10) 0)) 5 HH1.out (cells8 l) (by rw [cells8_length, ← HL.out]; simp) (fun h => ⟨rfl, bytes_at HR1.out h⟩) (by rw [cells8_length, cells8_length, ← HL.out]; simp) (cells8_one l) w.heap.size w HB1.out (Nat.le_refl _) ?_; intro w2 hg2 hb2; have HO2 := Lib.hid (made_own (base := w.heap.size) hg2.out (by rw [cells8_length, List.length_replicate]) HL.out (by omega) (Nat.le_refl _) (by unfold maxLen; omega)); have HB2 := Lib.hid hb2; clear hb2 hg2))
  simp only [Act.put, List.setIfInBounds_toArray, List.set_cons_succ, List.set_cons_zero, goInt, cells8_length, ← HL.out]
  go_loopw [1, 5] (fun v o wr => ∃ (m : Nat) (d : List UInt8) (A' : Option Addr) (c' k : Nat), v = .int .u64 (m : Int) ∧ o = .slice A' (len + k) c' ∧ k ≤ 9 ∧ Hid (k = d.length) ∧ Hid (m < 18446744073709551616) ∧ Hid (vb n = d ++ vb m) ∧ Hid (wr.ownsRow w.heap.size 5 1 (.slice A' (len + k) c') (len + k) (cells8 (l ++ d))) ∧ Hid (Below w.heap.size w wr)) (fun v _ _ => (intOf v).toNat)
  case atStart => exact ⟨n, [], _, _, 0, rfl, rfl, by omega, rfl, HNB, Lib.hid (by simp), Lib.hid (by simpa using HO2.out), HB2⟩
  case round =>
    obtain ⟨m, d, A', c', k, rfl, rfl, hk, HK, HM, HVB, HO, HBw⟩ := hrel
    have hs : w.heap.size ≤ wr.heap.size := HBw.out.size
    by_cases hm : m < 128
    · have hvm : vb m = [UInt8.ofNat m] := vb_small hm
      have HVM := Lib.hid hvm
      have HE : Hid (vb n = d ++ [UInt8.ofNat m]) := Lib.hid (by rw [HVB.out, hvm])
      have HE2 : Hid ((vb n).length = k + 1) := Lib.hid (by rw [HVB.out, hvm, HK.out]; simp)
      have HC : Hid ([Value.int .u8 (m : Int)] = cells8 [UInt8.ofNat m]) := Lib.hid (by unfold cells8; simp; omega)
      clear hvm
      go_wp2_with (at_builtin; refine wpList_append_row _ rfl (.tmp 25) (.tmp 28) _ rfl w.heap.size 5 i5 _ 1 1 Tryd.underlying24 hi hz0 hz1 hz2 rfl (by omega) A' (len + k) c' (cells8 (l ++ d)) rfl (HO.out.alloc _) (wr.heap.size + 1) (some ⟨wr.heap.size, 0, none⟩) 1 1 [.int .u8 (m : Int)] rfl (cellsIn_alloc wr #[.int .u8 (m : Int)] 5 (0, 0) 1 1 rfl) (by simp [Value.oneCell']) (by unfold maxLen; omega) (by omega) (by simp; omega) ?_; intro A3 c3 w3 hown3 hg3 hat3; have HO3 := Lib.hid hown3; have HG3 := Lib.hid hg3; clear hown3 hg3 hat3)
      have hb3 : Below w.heap.size w w3 := (HBw.out.alloc hs _).grown HG3.out (by simp; omega) (fun q hq => (HO.out.lt q hq).1)
      have HB3 := Lib.hid hb3
      clear hb3
      go_ret
      rw [HE2.out, HE.out, ← List.append_assoc, cells8_append, ← HC.out]
      exact ⟨A3, c3, rfl, HO3.out, HB3.out⟩
    · have hvm : vb m = UInt8.ofNat (128 + m % 128) :: vb (m / 128) := vb_big hm
      obtain ⟨D, hD⟩ : ∃ D, D = 128 + m % 128 := ⟨_, rfl⟩
      have f1 : bits .or .u8 ((m : Int) % 256) 128 = (D : Int) := by rw [hD]; exact or128 m
      have hD2 : D < 256 := by omega
      have HE : Hid (vb n = (d ++ [UInt8.ofNat D]) ++ vb (m / 128)) := Lib.hid (by rw [HVB.out, hvm, hD]; simp)
      have hk8 : k ≤ 8 := by
        have h1 := HV.out
        rw [HE.out] at h1
        simp only [List.length_append, List.length_cons, List.length_nil] at h1
        have := vb_pos (m / 128)
        have := HK.out
        omega
      have HC : Hid ([Value.int .u8 (D : Int)] = cells8 [UInt8.ofNat D]) := Lib.hid (by unfold cells8; simp; omega)
      have q : 127 < m := by omega
      clear hvm hD
      go_wp2_with (at_builtin; refine wpList_append_row _ rfl (.tmp 17) (.tmp 21) _ rfl w.heap.size 5 i5 _ 1 1 Tryd.underlying24 hi hz0 hz1 hz2 rfl (by omega) A' (len + k) c' (cells8 (l ++ d)) rfl (HO.out.alloc _) (wr.heap.size + 1) (some ⟨wr.heap.size, 0, none⟩) 1 1 [.int .u8 (D : Int)] rfl (cellsIn_alloc wr #[.int .u8 (D : Int)] 5 (0, 0) 1 1 rfl) (by simp [Value.oneCell']) (by unfold maxLen; omega) (by omega) (by simp; omega) ?_; intro A3 c3 w3 hown3 hg3 hat3; have HO3 := Lib.hid hown3; have HG3 := Lib.hid hg3; clear hown3 hg3 hat3)
      have hb3 : Below w.heap.size w w3 := (HBw.out.alloc hs _).grown HG3.out (by simp; omega) (fun q hq => (HO.out.lt q hq).1)
      have HB3 := Lib.hid hb3
      have e3 : Hid (w3.ownsRow w.heap.size 5 1 (.slice A3 (len + (k + 1)) c3) (len + (k + 1)) (cells8 (l ++ (d ++ [UInt8.ofNat D])))) := Lib.hid (by
        rw [← List.append_assoc, cells8_append, ← HC.out]; exact HO3.out)
      clear hb3
      go_roundw
      case rel => exact ⟨m / 128, d ++ [UInt8.ofNat D], A3, c3, k + 1, by go_num, rfl, by omega, Lib.hid (by simp [HK.out]), Lib.hid (by have := HM.out; omega), HE, e3, HB3⟩
      case measure => simp [intOf]; omega
end Go.Proofs.YtkenaoejijpgpaaDoor
