/- So many packets may be under way, and no more. -/
import Derived.Test.YtkenaoejijpgpaaDoorAwk18
namespace Go.Proofs.YtkenaoejijpgpaaDoor
open Go.RowKit

theorem and15 (p : Int) : ∃ K : Nat, K < 16 ∧ bits .and .i64 p 15 = (K : Int) := by
  have h : ∃ b : Nat, bits .and .i64 p 15 = IntKind.i64.wrap ((b % 16 : Nat) : Int) := by
    refine ⟨(BitVec.ofInt 64 p).toNat, ?_⟩
    show IntKind.i64.wrap ((BitVec.ofInt 64 p &&& BitVec.ofInt 64 15).toNat : Int) = _
    have e : (BitVec.ofInt 64 15).toNat = 15 := by decide
    rw [BitVec.toNat_and, e]
    congr 2
    exact Nat.and_two_pow_sub_one_eq_mod _ 4
  obtain ⟨b, hb⟩ := h
  refine ⟨b % 16, Nat.mod_lt _ (by omega), ?_⟩
  rw [hb, IntKind.wrap_i64]
  omega
/-- The packets so far. -/
def Sent (l : List Pv) (k : Nat) (bs : List UInt8) : Prop := l.length = min k 1000 ∧ ∀ (j : Nat) (p : Pv), l[j]? = some p → p.to_ = (j : Int) ∧ p.l = bs
theorem Sent.more {l : List Pv} {k : Nat} {bs : List UInt8} (h : Sent l k bs) (hl : l.length < 1000) (A : Option Addr) (c : Nat) : Sent (l ++ [⟨(k : Int), A, c, bs⟩]) (k + 1) bs := by
  have h1 := h.1
  refine ⟨by rw [List.length_append, h1]; simp; omega, fun j p hp => ?_⟩
  by_cases hj : j < l.length
  · rw [List.getElem?_append_left hj] at hp; exact h.2 j p hp
  · have hj2 := (List.getElem?_eq_some_iff.1 hp).1
    have hj3 : j = l.length := by simp at hj2; omega
    subst hj3
    simp at hp
    subst hp
    exact ⟨by simp only; omega, rfl⟩
theorem Sent.full {l : List Pv} {k : Nat} {bs : List UInt8} (h : Sent l k bs) (hl : 1000 ≤ l.length) : Sent l (k + 1) bs := ⟨by have := h.1; omega, h.2⟩
theorem double0 (w : World) {B N Lc : Nat} {LA : Option Addr} {l : List Pv} {p : Pv} (h : NAt w B N LA Lc l) (hp : l[0]? = some p) (hl : 1000 ≤ l.length) :
    Calls Tryd.prog 22 #[.pointer (some ⟨N, 0, none⟩), .int .i64 0] w fun e w' => e = .returned (.bool true) ∧ w.drew = w' :=
  double_of (j := 0) w h hp (fun w' => w.drew = w') (send_full w.drew (h.below (Below.refl _ w).drew) hl p.to_ p.A p.l.length p.c)
theorem peek999 (w : World) {B N Lc : Nat} {LA : Option Addr} {l : List Pv} {p : Pv} (h : NAt w B N LA Lc l) (hp : l[999]? = some p) (hl : p.l.length ≤ 100000000) :
    Calls Tryd.prog 21 #[.pointer (some ⟨N, 0, none⟩), .int .i64 999] w fun e w' => ∃ A2 c2, e = .returned (.tuple #[.int .i64 p.to_, .slice A2 p.l.length c2, .bool true]) ∧ w'.ownsRow w.heap.size 5 1 (.slice A2 p.l.length c2) p.l.length (cells8 p.l) ∧ Below w.heap.size w w' :=
  peek_any (j := 999) w h hp hl
set_option maxRecDepth 100000 in
set_option maxHeartbeats 4000000 in
theorem law_full (x : Int) (A : Option Addr) (c n : Nat) (l : List UInt8) (w : World) (h : BytesIn w w.heap.size A c l) (hn : n = l.length) (h0 : 0 < w.heap.size) (hh : Hal w) :
    Calls Tryd.prog 7 #[.int .i64 x, .slice A n c] w fun e w' => e = .returned (.bool true) ∧ Below w.heap.size w w' := by
  have HY := Lib.hid h
  have HN := Lib.hid hn
  have HAW := Lib.hid (awake_any w h0 hh)
  obtain ⟨S, hS⟩ : ∃ S, S = w.heap.size := ⟨_, rfl⟩
  rw [← hS] at HY HAW ⊢
  have HSW := Lib.hid hS
  clear h hn h0 hh hS
  obtain ⟨r, hr, hand⟩ := and15 x
  go_enter Tryd.func7, Tryd.ntmps7
  go_wp2_with fail
  refine HAW.out.mono ?_
  clear HAW
  rintro e w1 ⟨rfl, hb⟩
  have HB1 := Lib.hid hb
  have HY1 := Lib.hid (HY.out.below hb (Nat.le_refl _))
  have hs1 : S ≤ w1.heap.size := by have := HSW.out; have := hb.size; omega
  clear hb HY
  by_cases h100 : 100 < n
  · have hq : (100 : Int) < (n : Int) := by omega
    clear hand
    go_wp2_with fail
    go_ret
    exact ⟨rfl, HB1.out⟩
  have hq : ¬ (100 : Int) < (n : Int) := by omega
  go_wp2_with fail
  clear hq
  refine (new_any S w1 hs1).mono ?_
  rintro e w2 ⟨rfl, hn, hb⟩
  obtain ⟨N, hN⟩ : ∃ x, x = w1.heap.size := ⟨_, rfl⟩
  rw [← hN] at hn ⊢
  have HN2 := Lib.hid hn
  have HB2 := Lib.hid (HB1.out.trans (hb.mono hs1))
  have HY2 := Lib.hid (HY1.out.below (hb.mono hs1) (Nat.le_refl _))
  have hs2 : S ≤ w2.heap.size := Nat.le_trans hs1 hb.size
  clear hn hb hN HB1 HY1
  have hw1 : wrap64 (1000 + (r : Int)) = 1000 + (r : Int) := wrap64_in _ (by omega) (by omega)
  go_wp2_with fail
  go_loopw [7] (fun i wr => ∃ (k : Nat) (l' : List Pv) (LA : Option Addr) (Lc : Nat), k ≤ 1000 + r ∧ i = .int .i64 k ∧ S ≤ wr.heap.size ∧ Hid (NAt wr S N LA Lc l') ∧ Hid (Sent l' k l) ∧ Hid (BytesIn wr S A c l) ∧ Hid (Below S w wr)) (fun i _ => 1000 + r - (intOf i).toNat)
  case atStart => exact ⟨0, [], none, 0, by omega, rfl, hs2, HN2, Lib.hid ⟨rfl, fun j p hp => by simp at hp⟩, HY2, HB2⟩
  case round =>
    clear HN2 HB2 HY2 hs2
    obtain ⟨k, l', LA, Lc, hk, rfl, hs, HN3, HT, HY3, HB3⟩ := hrel
    by_cases hkr : k < 1000 + r
    · have hk1 : (k : Int) < 1000 + (r : Int) := by omega
      go_wp2_with fail
      by_cases hfull : l'.length < 1000
      · refine (send_any wr HN3.out hfull (k : Int) A n c l (HY3.out.more hs) HN.out (by omega)).mono ?_
        rintro e w4 ⟨LA4, Lc4, PA, Pc, rfl, hn, hc⟩
        have HN4 := Lib.hid hn
        have HT4 := Lib.hid (HT.out.more hfull PA Pc)
        have HY4 := Lib.hid (HY3.out.below hc.low (Nat.le_refl _))
        have HB4 := Lib.hid (HB3.out.trans hc.low)
        have hs4 : S ≤ w4.heap.size := Nat.le_trans hs hc.size
        clear hn hc HN3 HT HY3 HB3 hs
        go_wp2_with fail
        go_roundw
        case rel => exact ⟨k + 1, _, LA4, Lc4, by omega, by go_num, hs4, HN4, HT4, HY4, HB4⟩
        case measure => simp [intOf]; omega
      · refine (send_full wr HN3.out (by omega) (k : Int) A n c).mono ?_
        rintro e w4 ⟨rfl, rfl⟩
        have HT4 := Lib.hid (HT.out.full (by omega))
        clear HT
        go_wp2_with fail
        go_roundw
        case rel => exact ⟨k + 1, _, LA, Lc, by omega, by go_num, hs, HN3, HT4, HY3, HB3⟩
        case measure => simp [intOf]; omega
    · have hk1 : ¬ (k : Int) < 1000 + (r : Int) := by omega
      have hlen : l'.length = 1000 := by have := HT.out.1; omega
      obtain ⟨p0, hp0⟩ : ∃ p, l'[0]? = some p := ⟨l'[0]'(by omega), List.getElem?_eq_getElem (by omega)⟩
      obtain ⟨p9, hp9⟩ : ∃ p, l'[999]? = some p := ⟨l'[999]'(by omega), List.getElem?_eq_getElem (by omega)⟩
      obtain ⟨ht9, hl9⟩ := HT.out.2 _ _ hp9
      have HLEN := Lib.hid hlen
      have HP9 := Lib.hid hp9
      have HP0 := Lib.hid hp0
      have HT9 := Lib.hid ht9
      have HL9 := Lib.hid hl9
      clear hlen hp0 hp9 ht9 hl9
      go_wp2_with fail
      clear hk1 hand hw1
      refine (double0 wr HN3.out HP0.out (by rw [HLEN.out]; omega)).mono ?_
      rintro e w4 ⟨rfl, rfl⟩
      have HN4 := Lib.hid (HN3.out.below (Below.refl _ wr).drew)
      have HY4 : Hid (BytesIn wr.drew S A c l) := Lib.hid HY3.out.drew
      have HB4 : Hid (Below S w wr.drew) := Lib.hid HB3.out.drew
      have hs4 : S ≤ wr.drew.heap.size := hs
      clear HN3 HY3 HB3 hs
      generalize wr.drew = w4 at HN4 HY4 HB4 hs4 ⊢
      go_wp2_with fail
      refine (peek999 w4 HN4.out HP9.out (by rw [HL9.out, ← HN.out]; omega)).mono ?_
      rw [HT9.out, HL9.out, ← HN.out]
      rintro e w5 ⟨A5, c5, rfl, ho, hb⟩
      have HN5 := Lib.hid (HN4.out.below hb)
      have z1 := zc (bytesIn_of_own ho).2 HN.out
      have z2 := zc (HY4.out.below (hb.mono hs4) (Nat.le_refl _)) HN.out
      have HB5 := Lib.hid (HB4.out.trans (hb.mono hs4))
      clear ho hb HN4 HY4 HB4
      go_wp2_with fail
      refine (len_any w5 HN5.out).mono ?_
      rw [HLEN.out]
      rintro e w6 ⟨rfl, rfl⟩
      go_wp2_with fail
      go_ret
      exact ⟨rfl, HB5.out⟩
end Go.Proofs.YtkenaoejijpgpaaDoor
