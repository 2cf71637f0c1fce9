/- What is sent isn't kept, what is told is new memory; a network that is none has nothing. -/
import Derived.Test.YtkenaoejijpgpaaDoorAwk18
import Derived.Test.YtkenaoejijpgpaaDoorNetD
import Derived.Test.YtkenaoejijpgpaaDoorFrmT
namespace Go.Proofs.YtkenaoejijpgpaaDoor
open Go.RowKit

theorem RowV.keepB {w w' : World} {B size n c : Nat} {e : TypeId} {A : Option Addr} {xs : List Value} (h : RowV w B e size A n c xs) {S : Nat → Prop} (hc : Chg S w w') (hs : ∀ k, S k → k < B) : RowV w' B e size A n c xs := by
  rcases h with h | ⟨h0, h1, b, cur, hA, hB, hb, h2⟩
  · exact .inl (hc.own h (fun k hk hS => by have := (h.lt k hk).1; have := hs k hS; omega))
  · exact .inr ⟨h0, h1, b, cur, hA, hB, (hc.block b (Array.getElem?_eq_some_iff.1 hb).1 (fun hS => by have := hs b hS; omega)).trans hb, h2⟩
theorem NAt.keepB {w w' : World} {B N Lc : Nat} {LA : Option Addr} {l : List Pv} (h : NAt w B N LA Lc l) {S : Nat → Prop} (hc : Chg S w w') (hs : ∀ k, S k → k < B) : NAt w' B N LA Lc l :=
  ⟨(hc.block N (ltb h.blk) (fun hS => by have := hs N hS; have := h.lN; omega)).trans h.blk, h.lN, h.row.keepB hc hs, fun p hp => hc.own (h.own p hp) (fun k hk hS => by have := ((h.own p hp).lt k hk).1; have := hs k hS; omega), h.dis⟩
theorem xor255 (x : UInt8) : ∃ d : UInt8, bits .xor .u8 (x.toNat : Int) 255 = (d.toNat : Int) := by
  have hx := x.toNat_lt
  have h := u8_xor_nat x.toNat 255 (by omega) (by omega)
  have hlt : x.toNat ^^^ 255 < 256 := Nat.xor_lt_two_pow (n := 8) (by omega) (by omega)
  exact ⟨UInt8.ofNat (x.toNat ^^^ 255), by rw [UInt8.toNat_ofNat', Nat.mod_eq_of_lt hlt]; exact h⟩
theorem deliver02 (w : World) {B N Lc : Nat} {LA : Option Addr} {p q : Pv} (h : NAt w B N LA Lc [p, q]) :
    Calls Tryd.prog 25 #[.pointer (some ⟨N, 0, none⟩), .int .i64 0] w fun e w' => DelTo w B N 0 [p, q] p e w' :=
  deliver_any (j := 0) w h rfl (by simp)
theorem peek02 (w : World) {B N Lc : Nat} {LA : Option Addr} {p q : Pv} (h : NAt w B N LA Lc [p, q]) (hl : p.l.length ≤ 100000000) :
    Calls Tryd.prog 21 #[.pointer (some ⟨N, 0, none⟩), .int .i64 0] w fun e w' => ∃ A2 c2, e = .returned (.tuple #[.int .i64 p.to_, .slice A2 p.l.length c2, .bool true]) ∧ w'.ownsRow w.heap.size 5 1 (.slice A2 p.l.length c2) p.l.length (cells8 p.l) ∧ Below w.heap.size w w' :=
  peek_any (j := 0) w h rfl hl
theorem spoil12 (w : World) {B N Lc : Nat} {LA : Option Addr} {p q : Pv} (h : NAt w B N LA Lc [p, q]) (hB : B ≤ w.heap.size) :
    Calls Tryd.prog 20 #[.pointer (some ⟨N, 0, none⟩), .int .i64 1, .int .i64 0] w fun e w' => ∃ (b : Bool) (q' : Pv), e = .returned (.bool b) ∧ NAt w' B N LA Lc [p, q'] ∧ Below B w w' := by
  by_cases h0 : q.l.length = 0
  · refine (spoil_far (j := 1) w h rfl 0 (by omega) (by omega)).mono ?_
    rintro e w' ⟨rfl, rfl⟩
    exact ⟨false, q, rfl, h, Below.refl _ _⟩
  · refine (spoil_any (j := 1) w h rfl 0 (by omega) (by omega)).mono ?_
    rintro e w' ⟨rfl, hn, b, _, hc, hb⟩
    exact ⟨true, _, rfl, hn, hc.chg.below hB (fun k hk e => by injection e with e; omega)⟩
theorem double01 (w : World) {B N Lc : Nat} {LA : Option Addr} {p : Pv} (h : NAt w B N LA Lc [p]) (hl : p.l.length ≤ 100000000) :
    Calls Tryd.prog 22 #[.pointer (some ⟨N, 0, none⟩), .int .i64 0] w fun e w' => e = .returned (.bool true) ∧ ∃ LA' Lc' PA Pc, NAt w' B N LA' Lc' [p, ⟨p.to_, PA, Pc, p.l⟩] ∧ NCh B w w' := by
  refine double_of (j := 0) w h rfl (fun w' => ∃ LA' Lc' PA Pc, NAt w' B N LA' Lc' [p, ⟨p.to_, PA, Pc, p.l⟩] ∧ NCh B w w') ?_
  have hd := h.below (Below.refl _ w).drew
  refine (send_any w.drew hd (by simp) p.to_ p.A p.l.length p.c p.l (hd.bytes (List.mem_singleton.2 rfl)) rfl hl).mono ?_
  rintro e w' ⟨LA', Lc', PA, Pc, rfl, hn, hc⟩
  exact ⟨rfl, LA', Lc', PA, Pc, hn, (NCh.of_below (Below.refl _ w).drew (Nat.le_trans h.lN (Nat.le_of_lt h.lt))).trans hc⟩
set_option maxRecDepth 100000 in
set_option maxHeartbeats 8000000 in
theorem law_own (A : Option Addr) (c n : Nat) (l : List UInt8) (kd ix to_ bit : Int) (Ab : Option Addr) (nb cb : Nat) (w : World) (hb : BytesIn w w.heap.size A c l) (hn : n = l.length) (h0 : 0 < w.heap.size) (hh : Hal w) :
    Calls Tryd.prog 9 #[.slice A n c, .agg #[.int .i64 kd, .int .i64 ix, .int .i64 to_, .int .i64 bit, .slice Ab nb cb]] w fun e w' => e = .returned (.bool true) ∧ Below w.heap.size w w' := by
  obtain ⟨i5, hi, hz0, hz1, hz2⟩ := info_parts Tryd.info5
  obtain ⟨S, hS⟩ : ∃ S, S = w.heap.size := ⟨_, rfl⟩
  obtain ⟨w0, hw0⟩ : ∃ y, y = w.alloc (.cells #[.int .i64 kd, .int .i64 ix, .int .i64 to_, .int .i64 bit, .slice Ab nb cb] 51) := ⟨_, rfl⟩
  have hal : Below w.heap.size w w0 := by rw [hw0]; exact (Below.refl w.heap.size w).alloc (Nat.le_refl _) _
  have hm : w0.heap[S]? = some (.cells #[.int .i64 kd, .int .i64 ix, .int .i64 to_, .int .i64 bit, .slice Ab nb cb] 51 (0, 0)) := by rw [hw0, hS]; exact heap_alloc_new w _
  have HM0 := Lib.hid hm
  rw [← hS] at hal hb h0 ⊢
  have HB0 := Lib.hid hal
  have HY0 := Lib.hid (hb.below hal (Nat.le_refl _))
  have HAW := Lib.hid (awake_any w0 (by have := hal.size; have := ltb hm; omega) (hh.below hal h0))
  have HW0 := Lib.hid hw0
  have HSW := Lib.hid hS
  have hs0 : S < w0.heap.size := ltb hm
  have HN := Lib.hid hn
  clear hw0 hal hm hb hn hS hh
  go_enter Tryd.func9, Tryd.ntmps9
  go_upto_region 1 with fail
  rw [← HSW.out, ← HW0.out]
  clear HW0 HSW
  go_wp2_with fail
  refine HAW.out.mono ?_
  clear HAW
  rintro e w1 ⟨rfl, hb⟩
  have HB1 := Lib.hid (HB0.out.trans (hb.mono (Nat.le_of_lt hs0)))
  have HY1 := Lib.hid (HY0.out.below (hb.mono (Nat.le_of_lt hs0)) (Nat.le_refl _))
  have HM1 := Lib.hid ((hb.block S hs0).trans HM0.out)
  have hs1 : S < w1.heap.size := Nat.lt_of_lt_of_le hs0 hb.size
  clear hb HB0 HY0 HM0 hs0
  by_cases h6 : 1000 < n
  · have hq : (1000 : Int) < (n : Int) := by omega
    go_wp2_with fail
    go_ret
    exact ⟨rfl, HB1.out⟩
  have hq : ¬ (1000 : Int) < (n : Int) := by omega
  have c1 := cellb (i := 1) HM1.out rfl
  have c2 := cellb (i := 2) HM1.out rfl
  have c3 := cellb (i := 3) HM1.out rfl
  go_wp2_with fail
  clear hq
  refine (send_nil w1 to_ A n c).mono ?_
  rintro e w' ⟨rfl, rfl⟩
  have HAS := Lib.hid (has_nil w1 ix)
  rw [hasB_no] at HAS
  go_wp2_with fail
  refine (deliver_none w1 ix _ HAS.out).mono ?_
  rintro e w' ⟨rfl, rfl⟩
  go_wp2_with fail
  refine (peek_none w1 ix _ HAS.out).mono ?_
  rintro e w' ⟨rfl, rfl⟩
  go_wp2_with fail
  refine (len_nil w1).mono ?_
  rintro e w' ⟨rfl, rfl⟩
  go_wp2_with fail
  refine (double_none w1 ix _ HAS.out).mono ?_
  rintro e w' ⟨rfl, rfl⟩
  go_wp2_with fail
  refine (spoil_none w1 ix bit _ HAS.out).mono ?_
  rintro e w' ⟨rfl, rfl⟩
  clear c1 c2 c3 HAS
  have z0 := zc HY1.out HN.out
  go_upto_region 13 with fail
  clear z0
  have hal : Below w1.heap.size w1 (w1.alloc (.cells #[] 5)) := (Below.refl _ _).alloc (Nat.le_refl _) _
  have how := own_alloc w1 #[] 5 1 0 S rfl (by unfold maxLen; omega) (Nat.le_of_lt hs1)
  have HR := Lib.hid (((HY1.out.below (hal.mono (Nat.le_of_lt hs1)) (Nat.le_refl _))).cellsN HN.out)
  have HO := Lib.hid how
  have HB2 := Lib.hid (HB1.out.trans (hal.mono (Nat.le_of_lt hs1)))
  have hs2 : S ≤ (w1.alloc (.cells #[] 5)).heap.size := by simp; omega
  clear hal how HY1 HM1
  go_wp2_with (at_builtin; refine wpList_append_row _ rfl (.tmp 94) (.tmp 95) _ rfl S 5 i5 _ 1 1 Tryd.underlying24 hi hz0 hz1 hz2 rfl (by omega) _ 0 0 _ rfl HO.out _ _ n _ _ rfl HR.out (cells8_one l) (by unfold maxLen; omega) (by omega) hs2 (fun A2 c2 w2 hown hg hor => ?_))
  have HO2 := Lib.hid (own_norm hown)
  have HB2 := Lib.hid (HB2.out.grown hg hs2 (fun k hk => (HO.out.lt k hk).1))
  have hs2 : S ≤ w2.heap.size := Nat.le_trans hs2 hg.size
  clear hown hg hor HO HR HB1
  refine (new_any w2.heap.size w2 (Nat.le_refl _)).mono ?_
  rintro e w3 ⟨rfl, hn, hb⟩
  obtain ⟨N, hN⟩ : ∃ x, x = w2.heap.size := ⟨_, rfl⟩
  rw [← hN] at hn ⊢
  have HN3 := Lib.hid hn
  have HOL : Hid (∀ k, (Value.slice A2 n c2).ownBlock = some k → k < N) := Lib.hid (fun k hk => by rw [hN]; exact (HO2.out.lt k hk).2)
  have HB3 := Lib.hid (HB2.out.trans (hb.mono hs2))
  have HO3 : Hid (w3.ownsRow S 5 1 (.slice A2 n c2) n (cells8 l)) := Lib.hid (HO2.out.kept (grown_of_below hb none) (by cases A2 <;> simp [Value.ownBlock]))
  have hs3 : N ≤ w3.heap.size := by rw [hN]; exact hb.size
  have hSN : S ≤ N := by rw [hN]; exact hs2
  clear hn hb hN HO2 HB2 hs2
  go_wp2_with fail
  refine (send_any w3 HN3.out (by simp) 1 A2 n c2 l (bytesIn_of_own HO3.out).2 HN.out (by omega)).mono ?_
  rintro e w4 ⟨LA, Lc, PA, Pc, rfl, hn, hc⟩
  rw [List.nil_append] at hn
  have HN4 := Lib.hid hn
  have HO4 := Lib.hid (hc.own HO3.out (by decide) (by decide))
  have HB4 := Lib.hid (HB3.out.trans (hc.low.mono hSN))
  have hs4 : N ≤ w4.heap.size := Nat.le_trans hs3 hc.size
  clear hn hc HN3 HO3 HB3
  go_wp2_with fail
  refine (double01 w4 HN4.out (by show l.length ≤ _; rw [← HN.out]; omega)).mono ?_
  rintro e w5 ⟨rfl, LA5, Lc5, PA5, Pc5, hn, hc⟩
  have HN5 := Lib.hid hn
  have HO5 := Lib.hid (hc.own HO4.out (by decide) (by decide))
  have HB5 := Lib.hid (HB4.out.trans (hc.low.mono hSN))
  have hs5 : N ≤ w5.heap.size := Nat.le_trans hs4 hc.size
  clear hn hc HN4 HO4 HB4
  go_wp2_with fail
  go_loopw [16] (fun i wr => ∃ (j : Nat) (l' : List UInt8), j ≤ n ∧ i = .int .i64 j ∧ Hid (l'.length = n) ∧ Hid (wr.ownsRow S 5 1 (.slice A2 n c2) n (cells8 l')) ∧ Hid (Chg (fun k => (Value.slice A2 n c2).ownBlock = some k) w5 wr)) (fun i _ => n - (intOf i).toNat)
  case atStart => exact ⟨0, l, by omega, rfl, Lib.hid HN.out.symm, HO5, Lib.hid (Chg.refl _ _)⟩
  case round =>
    obtain ⟨j, l', hj, rfl, HL, HO, HC⟩ := hrel
    by_cases hjn : j < n
    · have hj' : (j : Int) < (n : Int) := by omega
      have hj0 : (0 : Int) ≤ (j : Int) := by omega
      have hjl : j < l'.length := by rw [HL.out]; exact hjn
      obtain ⟨g, hg, _, _, _⟩ := own_form HO.out (by omega)
      subst hg
      obtain ⟨d, hd⟩ := xor255 l'[j]
      have hc0 := HO.out.cells (g := g) rfl j _ (cells8_get l' j hjl)
      rw [Addr.add_lit, Nat.zero_add] at hc0
      have hf0 : wr.frozen? ⟨g, j, none⟩ = false := by
        rcases HO.out.2 with ⟨hv, _⟩ | ⟨g', cap, cur', hv, _, hg', _⟩
        · cases hv
        · injection hv with e1
          injection e1 with e1
          injection e1 with e1 _
          subst e1
          exact fzb hg' j
      have hput := own_put (k := j) HO.out HL.out.symm d
      have hch : Chg (fun k => (Value.slice (some ⟨g, 0, none⟩) n c2).ownBlock = some k) w5 (wr.setCell ⟨g, j, none⟩ (.int .u8 (d.toNat : Int))) := HC.out.setCell (p := ⟨g, j, none⟩) (.inr rfl) _
      have HO2 := Lib.hid hput
      have HC2 := Lib.hid hch
      have HL2 : Hid ((l'.set j d).length = n) := Lib.hid (by rw [List.length_set]; exact HL.out)
      clear hput hch HO HC HL
      go_wp2_with fail
      clear hc0 hf0 hd hjl
      go_roundw
      case rel => exact ⟨j + 1, l'.set j d, by omega, by go_num, HL2, HO2, HC2⟩
      case measure => simp [intOf]; omega
    · have hjn' : ¬ (j : Int) < (n : Int) := by omega
      have hlo : Below S w5 wr := by
        have hc := HC.out
        exact ⟨hc.os, hc.tape, hc.output, hc.size, fun k hk => hc.block k (by omega) (fun e => by have := (HO5.out.lt k e).1; omega)⟩
      have HN6 := Lib.hid (HN5.out.keepB HC.out (fun k hk => HOL.out k hk))
      have HB6 := Lib.hid (HB5.out.trans hlo)
      have hs6 : N ≤ wr.heap.size := Nat.le_trans hs5 HC.out.size
      clear hlo HC HO HL HO5 HN5 HB5 HOL hj
      obtain ⟨w6, hw6⟩ : ∃ y, y = wr := ⟨_, rfl⟩
      rw [← hw6] at HN6 HB6 hs6 ⊢
      clear hw6
      go_wp2_with fail
      clear hjn' hjn
      refine (peek02 w6 HN6.out (by show l.length ≤ _; rw [← HN.out]; omega)).mono ?_
      simp only [← HN.out]
      rintro e w7 ⟨A7, c7, rfl, ho, hb⟩
      obtain ⟨Mp, hMp⟩ : ∃ x, x = w6.heap.size := ⟨_, rfl⟩
      rw [← hMp] at ho
      have HO7 := Lib.hid ho
      have HL7 := Lib.hid hb
      have HMP := Lib.hid hMp
      have hs7 : S ≤ w7.heap.size := by have := hb.size; omega
      clear ho hb hMp
      go_wp2_with fail
      go_loopw [20] (fun i wr => ∃ (j : Nat) (l' : List UInt8), j ≤ n ∧ i = .int .i64 j ∧ Hid (l'.length = n) ∧ Hid (wr.ownsRow Mp 5 1 (.slice A7 n c7) n (cells8 l')) ∧ Hid (Chg (fun k => (Value.slice A7 n c7).ownBlock = some k) w7 wr)) (fun i _ => n - (intOf i).toNat)
      case atStart => exact ⟨0, l, by omega, rfl, Lib.hid HN.out.symm, HO7, Lib.hid (Chg.refl _ _)⟩
      case round =>
        obtain ⟨j, l', hj, rfl, HL, HO, HC⟩ := hrel
        by_cases hjn : j < n
        · have hj' : (j : Int) < (n : Int) := by omega
          have hj0 : (0 : Int) ≤ (j : Int) := by omega
          have hjl : j < l'.length := by rw [HL.out]; exact hjn
          obtain ⟨g, hg, _, _, _⟩ := own_form HO.out (by omega)
          subst hg
          obtain ⟨d, hd⟩ := xor255 l'[j]
          have hc0 := HO.out.cells (g := g) rfl j _ (cells8_get l' j hjl)
          rw [Addr.add_lit, Nat.zero_add] at hc0
          have hf0 : wr.frozen? ⟨g, j, none⟩ = false := by
            rcases HO.out.2 with ⟨hv, _⟩ | ⟨g', cap, cur', hv, _, hg', _⟩
            · cases hv
            · injection hv with e1
              injection e1 with e1
              injection e1 with e1 _
              subst e1
              exact fzb hg' j
          have hput := own_put (k := j) HO.out HL.out.symm d
          have hch : Chg (fun k => (Value.slice (some ⟨g, 0, none⟩) n c7).ownBlock = some k) w7 (wr.setCell ⟨g, j, none⟩ (.int .u8 (d.toNat : Int))) := HC.out.setCell (p := ⟨g, j, none⟩) (.inr rfl) _
          have HO2 := Lib.hid hput
          have HC2 := Lib.hid hch
          have HL2 : Hid ((l'.set j d).length = n) := Lib.hid (by rw [List.length_set]; exact HL.out)
          clear hput hch HO HC HL
          go_wp2_with fail
          clear hc0 hf0 hd hjl
          go_roundw
          case rel => exact ⟨j + 1, l'.set j d, by omega, by go_num, HL2, HO2, HC2⟩
          case measure => simp [intOf]; omega
        · have hjn' : ¬ (j : Int) < (n : Int) := by omega
          have hlo : Below w6.heap.size w6 wr := by
            have hc := HC.out
            have h7 := HL7.out
            exact h7.trans ⟨hc.os, hc.tape, hc.output, hc.size, fun k hk => hc.block k (by have := h7.size; omega) (fun e => by have := (HO7.out.lt k e).1; have := HMP.out; omega)⟩
          have HN8 := Lib.hid (HN6.out.below hlo)
          have HB8 := Lib.hid (HB6.out.trans (hlo.mono (by omega)))
          have hs8 : N ≤ wr.heap.size := Nat.le_trans hs6 hlo.size
          clear hlo HC HO HL HO7 HL7 HMP HN6 HB6 hs6 hj
          obtain ⟨w8, hw8⟩ : ∃ y, y = wr := ⟨_, rfl⟩
          rw [← hw8] at HN8 HB8 hs8 ⊢
          clear hw8
          go_wp2_with fail
          clear hjn' hjn
          refine (spoil12 w8 HN8.out hs8).mono ?_
          rintro e w9 ⟨b9, q9, rfl, hn, hlo⟩
          have HN9 := Lib.hid hn
          have HB9 := Lib.hid (HB8.out.trans (hlo.mono hSN))
          clear hn hlo HN8 HB8
          go_wp2_with fail
          refine (deliver02 w9 HN9.out).mono ?_
          rintro e w10 ⟨LA10, Lc10, rfl, _, hc⟩
          have hp := hc.own (HN9.out.own _ (by simp)) (by decide) (by decide) (e := 5) (n := l.length) (v := (Pv.mk 1 PA Pc l).sl) (xs := cells8 l)
          unfold Pv.sl at hp ⊢
          simp only at hp ⊢
          rw [← HN.out] at hp ⊢
          have z1 := zc (bytesIn_of_own hp).2 HN.out
          have HB10 := Lib.hid (HB9.out.trans (hc.low.mono hSN))
          clear hp hc HN9 HB9
          go_wp2_with fail
          go_ret
          exact ⟨rfl, HB10.out⟩
end Go.Proofs.YtkenaoejijpgpaaDoor
