/- Chapter 20: a node and a script of acts that came in; low bits. -/
import Derived.Test.YtoeamofemepgpaaMsgTrod
import Derived.Test.YtoeamofemepgpaaAgM
import Derived.Lib.SmallJoins
namespace Go.Proofs.Ytoeamofemepgpaa
open Go.RowKit Go.Deep Go.ChangeShapes Go.Joins

theorem low_bits (k : Nat) (hk : k ≤ 10) (p : Int) : ∃ K : Nat, K < 2 ^ k ∧ bits .and .i64 p ((2 ^ k - 1 : Nat) : Int) = (K : Int) := by
  have hp : 2 ^ k ≤ 2 ^ 10 := Nat.pow_le_pow_right (by omega) hk
  have hp0 : 0 < 2 ^ k := Nat.two_pow_pos k
  have h : ∃ b : Nat, bits .and .i64 p ((2 ^ k - 1 : Nat) : Int) = IntKind.i64.wrap ((b % 2 ^ k : Nat) : Int) := by
    refine ⟨(BitVec.ofInt 64 p).toNat, ?_⟩
    show IntKind.i64.wrap ((BitVec.ofInt 64 p &&& BitVec.ofInt 64 ((2 ^ k - 1 : Nat) : Int)).toNat : Int) = _
    have e : (BitVec.ofInt 64 ((2 ^ k - 1 : Nat) : Int)).toNat = 2 ^ k - 1 := by
      rw [BitVec.ofInt_natCast, BitVec.toNat_ofNat]
      exact Nat.mod_eq_of_lt (by omega)
    rw [BitVec.toNat_and, e]
    congr 2
    exact Nat.and_two_pow_sub_one_eq_mod _ k
  obtain ⟨b, hb⟩ := h
  have hlt : b % 2 ^ k < 2 ^ k := Nat.mod_lt _ hp0
  refine ⟨b % 2 ^ k, hlt, ?_⟩
  rw [hb]
  exact IntWalk.i64_in _ (by omega)
theorem and7 (p : Int) : ∃ K : Nat, K < 8 ∧ bits .and .i64 p 7 = (K : Int) := low_bits 3 (by decide) p
theorem and15 (p : Int) : ∃ K : Nat, K < 16 ∧ bits .and .i64 p 15 = (K : Int) := low_bits 4 (by decide) p
theorem and31 (p : Int) : ∃ K : Nat, K < 32 ∧ bits .and .i64 p 31 = (K : Int) := low_bits 5 (by decide) p
theorem and63 (p : Int) : ∃ K : Nat, K < 64 ∧ bits .and .i64 p 63 = (K : Int) := low_bits 6 (by decide) p
structure Ac where
  kd : Int
  tk : Int
  raw : Bool
  now : Int
  v : Nat → Int
  B : Option Addr
  n : Nat
  cb : Nat
abbrev acc (s : Ac) : List Value := [.int .i64 s.kd, .int .i64 s.tk, .bool s.raw, .int .i64 s.now, .int .i64 (s.v 0), .int .i64 (s.v 1), .int .i64 (s.v 2), .int .i64 (s.v 3), .int .i64 (s.v 4), .int .i64 (s.v 5), .int .i64 (s.v 6), .int .i64 (s.v 7), .int .i64 (s.v 8), .int .i64 (s.v 9), .int .i64 (s.v 10), .int .i64 (s.v 11), .int .i64 (s.v 12), .int .i64 (s.v 13), .int .i64 (s.v 14), .int .i64 (s.v 15), .int .i64 (s.v 16), .slice s.B s.n s.cb, .int .i64 (s.v 18), .int .i64 (s.v 19), .int .i64 (s.v 20)]
theorem cells25 (l : List Value) (h : l.length = 25) : ∃ u0 u1 u2 u3 u4 u5 u6 u7 u8 u9 u10 u11 u12 u13 u14 u15 u16 u17 u18 u19 u20 u21 u22 u23 u24 : Value, l = [u0, u1, u2, u3, u4, u5, u6, u7, u8, u9, u10, u11, u12, u13, u14, u15, u16, u17, u18, u19, u20, u21, u22, u23, u24] := by
  obtain ⟨u0, t0, rfl, g0⟩ := cons_of_len h
  obtain ⟨u1, t1, rfl, g1⟩ := cons_of_len g0
  obtain ⟨u2, t2, rfl, g2⟩ := cons_of_len g1
  obtain ⟨u3, t3, rfl, g3⟩ := cons_of_len g2
  obtain ⟨u4, t4, rfl, g4⟩ := cons_of_len g3
  obtain ⟨u5, t5, rfl, g5⟩ := cons_of_len g4
  obtain ⟨u6, t6, rfl, g6⟩ := cons_of_len g5
  obtain ⟨u7, t7, rfl, g7⟩ := cons_of_len g6
  obtain ⟨u8, t8, rfl, g8⟩ := cons_of_len g7
  obtain ⟨u9, t9, rfl, g9⟩ := cons_of_len g8
  obtain ⟨u10, t10, rfl, g10⟩ := cons_of_len g9
  obtain ⟨u11, t11, rfl, g11⟩ := cons_of_len g10
  obtain ⟨u12, t12, rfl, g12⟩ := cons_of_len g11
  obtain ⟨u13, t13, rfl, g13⟩ := cons_of_len g12
  obtain ⟨u14, t14, rfl, g14⟩ := cons_of_len g13
  obtain ⟨u15, t15, rfl, g15⟩ := cons_of_len g14
  obtain ⟨u16, t16, rfl, g16⟩ := cons_of_len g15
  obtain ⟨u17, t17, rfl, g17⟩ := cons_of_len g16
  obtain ⟨u18, t18, rfl, g18⟩ := cons_of_len g17
  obtain ⟨u19, t19, rfl, g19⟩ := cons_of_len g18
  obtain ⟨u20, t20, rfl, g20⟩ := cons_of_len g19
  obtain ⟨u21, t21, rfl, g21⟩ := cons_of_len g20
  obtain ⟨u22, t22, rfl, g22⟩ := cons_of_len g21
  obtain ⟨u23, t23, rfl, g23⟩ := cons_of_len g22
  obtain ⟨u24, t24, rfl, g24⟩ := cons_of_len g23
  obtain rfl := List.length_eq_zero_iff.1 g24
  exact ⟨u0, u1, u2, u3, u4, u5, u6, u7, u8, u9, u10, u11, u12, u13, u14, u15, u16, u17, u18, u19, u20, u21, u22, u23, u24, rfl⟩
set_option maxHeartbeats 4000000 in
theorem ac_trod {H : Type} {enc : TypeId × Value → H} {w : World} {base fuel : Nat} {held : Bool} {l : List Value} {x : DataW H × List MemPlace} (hl : l.length = 25)
    (h : DataW.trod enc Try.prog w base (fun _ => true) held fuel 47 l = some x) : ∃ s : Ac, l = acc s := by
  obtain ⟨u0, u1, u2, u3, u4, u5, u6, u7, u8, u9, u10, u11, u12, u13, u14, u15, u16, u17, u18, u19, u20, u21, u22, u23, u24, rfl⟩ := cells25 l hl
  have c3 : Try.prog.cellsOf 3 = 1 := by kernel_rfl
  have c4 : Try.prog.cellsOf 4 = 1 := by kernel_rfl
  have cm : Try.prog.cellsOf 35 = 21 := by kernel_rfl
  obtain ⟨xs, k, hk, hxy, _, hxl, hf⟩ := DataW.trod_struct Try.underlying47 h
  match xs, hxl with
  | [y0, y1, y2, y3, y4], _ =>
    have g0 := hf 0 _ rfl
    have g1 := hf 1 _ rfl
    have g2 := hf 2 _ rfl
    have g3 := hf 3 _ rfl
    have g4 := hf 4 _ rfl
    simp [c3, c4, cm] at g0 g1 g2 g3 g4
    obtain ⟨p0, e0, _, _⟩ := DataW.trod_int Try.underlying3 g0
    obtain ⟨p1, e1, _, _⟩ := DataW.trod_int Try.underlying3 g1
    obtain ⟨p2, e2, _⟩ := DataW.trod_bool Try.underlying4 g2
    obtain ⟨p3, e3, _, _⟩ := DataW.trod_int Try.underlying3 g3
    obtain ⟨v, B, n, cb, q0, q1, q2, q3, q4, q5, q6, q7, q8, q9, q10, q11, q12, q13, q14, q15, q16, q17, q18, q19, q20⟩ := msg_trod g4
    refine ⟨⟨p0, p1, p2, p3, v, B, n, cb⟩, ?_⟩
    rw [List.head_eq_of_cons_eq e0, List.head_eq_of_cons_eq e1, List.head_eq_of_cons_eq e2, List.head_eq_of_cons_eq e3, q0, q1, q2, q3, q4, q5, q6, q7, q8, q9, q10, q11, q12, q13, q14, q15, q16, q17, q18, q19, q20]
/-- A script in memory. -/
def ActsIn (w : World) (B : Nat) (A : Option Addr) (gs : List Ac) : Prop := gs = [] ∨ ∃ b off, A = some ⟨b, off, none⟩ ∧ b < B ∧ ∀ i s, gs[i]? = some s → w.rangeAt b (off + i * 25) (acc s)
theorem ActsIn.below {w w' : World} {B B' : Nat} {A : Option Addr} {gs : List Ac} (h : ActsIn w B A gs) (hb : Below B' w w') (hB : B ≤ B') : ActsIn w' B A gs := by
  rcases h with e | ⟨b, off, e, hlt, hr⟩
  · exact .inl e
  · exact .inr ⟨b, off, e, hlt, fun i s hs j u hj => (hb.cell (p := ⟨b, off + i * 25 + j, none⟩) (by show b < B'; omega)).trans (hr i s hs j u hj)⟩
theorem ActsIn.get {w : World} {B : Nat} {A : Option Addr} {gs : List Ac} (h : ActsIn w B A gs) {i : Nat} {s : Ac} (hs : gs[i]? = some s) : ∃ b off, A = some ⟨b, off, none⟩ ∧ b < B ∧ w.rangeAt b (off + i * 25) (acc s) := by
  rcases h with e | ⟨b, off, e, hlt, hr⟩
  · rw [e] at hs; simp at hs
  · exact ⟨b, off, e, hlt, hr i s hs⟩
theorem choose_acts {P : Nat → Ac → Prop} (n : Nat) (h : ∀ i, i < n → ∃ s, P i s) : ∃ gs : List Ac, gs.length = n ∧ ∀ i s, gs[i]? = some s → P i s := by
  induction n with
  | zero => exact ⟨[], rfl, fun i s h => by simp at h⟩
  | succ n ih =>
    obtain ⟨gs, h1, h2⟩ := ih (fun i hi => h i (by omega))
    obtain ⟨s, hs⟩ := h n (by omega)
    refine ⟨gs ++ [s], by simp [h1], fun i u hu => ?_⟩
    by_cases hi : i < gs.length
    · rw [List.getElem?_append_left hi] at hu; exact h2 i u hu
    · rw [List.getElem?_append_right (by omega)] at hu
      have : i = n := by
        have := (List.getElem?_eq_some_iff.1 hu).1
        simp at this; omega
      subst this
      simp [h1] at hu; rw [← hu]; exact hs
set_option maxHeartbeats 1000000 in
theorem acts_trod {H : Type} {enc : TypeId × Value → H} {w : World} {base fuel : Nat} {held : Bool} {cs : List Value} {x : DataW H × List MemPlace}
    (h : DataW.trod enc Try.prog w base (fun _ => true) held fuel 43 cs = some x) : cs = [.slice none 0 0] ∨ ∃ a len cap gs, cs = [.slice (some a) len cap] ∧ len = gs.length ∧ ActsIn w w.heap.size (some a) gs := by
  rcases open_slice Try.underlying43 h with ⟨hcs, _⟩ | ⟨a, len, cap, m, n, D, Pl, hcs, _, hl, hm, hmm, _, hall⟩
  · exact .inl hcs
  right
  have hcc : Try.prog.cellsOf 47 = 25 := by kernel_rfl
  rw [hcc] at hall
  have key : ∀ i, i < len → ∃ s : Ac, ∀ j u, (acc s)[j]? = some u → w.cell? ((a.add (i * 25)).add j) = some u := by
    intro i hi
    obtain ⟨cs', g1, g2⟩ := hall i (by rw [hmm]; split <;> omega)
    obtain ⟨_, hlen, hcell⟩ := World.cells?_some g1
    obtain ⟨s, rfl⟩ := ac_trod hlen g2
    refine ⟨s, fun j u hu => ?_⟩
    have hj : j < 25 := by have := (List.getElem?_eq_some_iff.1 hu).1; exact this
    exact (hcell j hj).trans hu
  obtain ⟨gs, hl1, hl2⟩ := choose_acts len key
  refine ⟨a, len, cap, gs, hcs, hl1.symm, ?_⟩
  by_cases h0 : len = 0
  · exact .inl (List.length_eq_zero_iff.1 (by omega))
  · right
    obtain ⟨s0, hs0⟩ : ∃ s, gs[0]? = some s := ⟨gs[0]'(by omega), List.getElem?_eq_getElem (by omega)⟩
    have hx0 := hl2 0 s0 hs0 0 _ rfl
    simp only [Nat.zero_mul] at hx0
    have hsp : a.spot = none := by
      unfold World.cell? at hx0
      cases hsp : a.spot with
      | none => rfl
      | some s => simp [Addr.add, hsp] at hx0; split at hx0 <;> simp at hx0
    obtain ⟨b, off, spot⟩ := a
    simp only at hsp
    subst hsp
    refine ⟨b, off, rfl, ?_, fun i s hs j u hu => ?_⟩
    · have := World.block_lt_of_cell? w _ hx0
      simpa [Addr.add_lit] using this
    · have := hl2 i s hs j u hu
      rw [Addr.add_lit, Addr.add_lit] at this
      exact this
/-- A slice of numbers that came in. -/
theorem ints_open {w : World} {x : Addr} {len cap : Nat} {zs : List Int} (hl : len ≤ cap) (hz : zs.length = cap) (hcell : ∀ i, i < zs.length → w.cell? (x.add i) = some (.int .i64 (zs.getD i 0))) :
    ∃ xs : List Int, len = xs.length ∧ CellsIn w w.heap.size 1 (some x) len (ints xs) := by
  refine ⟨zs.take len, by simp; omega, ⟨by simp; omega, ?_⟩⟩
  by_cases h0 : len = 0
  · left; simp [h0]
  · right
    have hx0 := hcell 0 (by omega)
    have hadd : x.add 0 = x := by unfold Addr.add; simp
    rw [hadd] at hx0
    have hs : x.spot = none := by
      unfold World.cell? at hx0
      cases hsp : x.spot with
      | none => rfl
      | some s => simp [hsp] at hx0; split at hx0 <;> simp at hx0
    obtain ⟨b, off, spot⟩ := x
    simp only at hs
    subst hs
    refine ⟨b, off, rfl, World.block_lt_of_cell? w _ hx0, fun j u hu => ?_⟩
    have hj : j < (zs.take len).length := by have := (List.getElem?_eq_some_iff.1 hu).1; rwa [List.length_map] at this
    have hj' : j < zs.length := by simp at hj; omega
    have hjl : j < len := by rw [List.length_take] at hj; omega
    have h1 := hcell j hj'
    rw [Addr.add_lit] at h1
    rw [h1, ← hu]
    simp [hj', List.getD, hjl]
theorem cells6 (cs : Array Value) (h : cs.size = 6) : ∃ u0 u1 u2 u3 u4 u5 : Value, cs = #[u0, u1, u2, u3, u4, u5] := by
  obtain ⟨l⟩ := cs
  replace h : l.length = 6 := h
  obtain ⟨u0, t0, rfl, g0⟩ := cons_of_len h
  obtain ⟨u1, t1, rfl, g1⟩ := cons_of_len g0
  obtain ⟨u2, t2, rfl, g2⟩ := cons_of_len g1
  obtain ⟨u3, t3, rfl, g3⟩ := cons_of_len g2
  obtain ⟨u4, t4, rfl, g4⟩ := cons_of_len g3
  obtain ⟨u5, t5, rfl, g5⟩ := cons_of_len g4
  obtain rfl := List.length_eq_zero_iff.1 g5
  exact ⟨u0, u1, u2, u3, u4, u5, rfl⟩
/-- The node, as it comes in. -/
theorem node_trod {H : Type} {enc : TypeId × Value → H} {w : World} {base fuel : Nat} {held : Bool} {u0 u1 u2 u3 u4 u5 : Value} {x : DataW H × List MemPlace}
    (h : DataW.trod enc Try.prog w base (fun _ => true) held fuel 42 [u0, u1, u2, u3, u4, u5] = some x) :
    ∃ (nd : Int) (g : Nat → Int) (A : Option Addr) (n c : Nat) (l : List Int), u0 = .int .i64 nd ∧ u1 = .int .i64 (g 0) ∧ u2 = .int .i64 (g 1) ∧ u3 = .int .i64 (g 2) ∧ u4 = .int .i64 (g 3) ∧ u5 = .slice A n c ∧ n = l.length ∧ CellsIn w w.heap.size 1 A n (ints l) ∧ (A = none → n = 0 ∧ c = 0) := by
  have c3 : Try.prog.cellsOf 3 = 1 := by kernel_rfl
  have cv : Try.prog.cellsOf 26 = 4 := by kernel_rfl
  have cb : Try.prog.cellsOf 27 = 1 := by kernel_rfl
  obtain ⟨xs, k, hk, hxy, _, hxl, hf⟩ := DataW.trod_struct Try.underlying42 h
  match xs, hxl with
  | [y0, y1, y2], _ =>
    have g0 := hf 0 _ rfl
    have g1 := hf 1 _ rfl
    have g2 := hf 2 _ rfl
    simp [c3, cv, cb] at g0 g1 g2
    obtain ⟨p0, e0, _, _⟩ := DataW.trod_int Try.underlying3 g0
    obtain ⟨a0, a1, a2, a3, na, _, s0, s1, s2, s3⟩ := trod_array4 Try.underlying26 c3 g1
    obtain ⟨d0, f0, _, _⟩ := DataW.trod_int Try.underlying3 s0
    obtain ⟨d1, f1, _, _⟩ := DataW.trod_int Try.underlying3 s1
    obtain ⟨d2, f2, _, _⟩ := DataW.trod_int Try.underlying3 s2
    obtain ⟨d3, f3, _, _⟩ := DataW.trod_int Try.underlying3 s3
    have q0 := List.head_eq_of_cons_eq e0
    have r0 := List.head_eq_of_cons_eq f0
    have r1 := List.head_eq_of_cons_eq f1
    have r2 := List.head_eq_of_cons_eq f2
    have r3 := List.head_eq_of_cons_eq f3
    rcases open_ints Try.underlying27 Try.underlying3 (by kernel_rfl) g2 with ⟨hcs, _⟩ | ⟨x, l, c, zs, hcs, _, hl, hm, hz, _, hcell, hwz⟩
    · exact ⟨p0, fun i => [d0, d1, d2, d3].getD i 0, none, 0, 0, [], q0, r0, r1, r2, r3, List.head_eq_of_cons_eq hcs, rfl, ⟨rfl, .inl rfl⟩, fun _ => ⟨rfl, rfl⟩⟩
    · obtain ⟨L, h1, h2⟩ := ints_open hl (by simpa using hz) hcell
      exact ⟨p0, fun i => [d0, d1, d2, d3].getD i 0, _, _, _, L, q0, r0, r1, r2, r3, List.head_eq_of_cons_eq hcs, h1, h2, fun e => by cases e⟩
end Go.Proofs.Ytoeamofemepgpaa
