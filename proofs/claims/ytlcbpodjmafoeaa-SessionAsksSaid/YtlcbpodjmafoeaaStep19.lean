/- A script of steps that came in. -/
import Derived.Test.YtlcbpodjmafoeaaMsgTrod
import Derived.Test.YtlcbpodjmafoeaaMsg
import Derived.Deep.MidRow
namespace Go.Proofs.Ytlcbpodjmafoeaa
open Go.RowKit Go.Deep Go.ChangeShapes Go.Joins

structure St where
  look : Bool
  v : Nat → Int
  B : Option Addr
  n : Nat
  cb : Nat
  last : Int
  a : Int
  b : Int
  d : Int
  cl : Int
  sq : Int
def stc (s : St) : List Value := [.bool s.look, .int .i64 (s.v 0), .int .i64 (s.v 1), .int .i64 (s.v 2), .int .i64 (s.v 3), .int .i64 (s.v 4), .int .i64 (s.v 5), .int .i64 (s.v 6), .int .i64 (s.v 7), .int .i64 (s.v 8), .int .i64 (s.v 9), .int .i64 (s.v 10), .int .i64 (s.v 11), .int .i64 (s.v 12), .int .i64 (s.v 13), .int .i64 (s.v 14), .int .i64 (s.v 15), .int .i64 (s.v 16), .slice s.B s.n s.cb, .int .i64 (s.v 18), .int .i64 (s.v 19), .int .i64 (s.v 20), .int .i64 s.last, .int .i64 s.a, .int .i64 s.b, .int .i64 s.d, .int .i64 s.cl, .int .i64 s.sq]

set_option maxHeartbeats 1000000 in
theorem msg_trodw {H : Type} {enc : TypeId × Value → H} {w : World} {base fuel : Nat} {held : Bool} {u0 u1 u2 u3 u4 u5 u6 u7 u8 u9 u10 u11 u12 u13 u14 u15 u16 u17 u18 u19 u20 : Value} {x : DataW H × List MemPlace}
    (h : DataW.trod enc Try.prog w base (fun _ => true) held fuel 36 [u0, u1, u2, u3, u4, u5, u6, u7, u8, u9, u10, u11, u12, u13, u14, u15, u16, u17, u18, u19, u20] = some x) :
    ∃ (v : Nat → Int) (A : Option Addr) (n c : Nat), u0 = .int .i64 (v 0) ∧ u1 = .int .i64 (v 1) ∧ u2 = .int .i64 (v 2) ∧ u3 = .int .i64 (v 3) ∧ u4 = .int .i64 (v 4) ∧ u5 = .int .i64 (v 5) ∧ u6 = .int .i64 (v 6) ∧ u7 = .int .i64 (v 7) ∧ u8 = .int .i64 (v 8) ∧ u9 = .int .i64 (v 9) ∧ u10 = .int .i64 (v 10) ∧ u11 = .int .i64 (v 11) ∧ u12 = .int .i64 (v 12) ∧ u13 = .int .i64 (v 13) ∧ u14 = .int .i64 (v 14) ∧ u15 = .int .i64 (v 15) ∧ u16 = .int .i64 (v 16) ∧ u17 = .slice A n c ∧ u18 = .int .i64 (v 18) ∧ u19 = .int .i64 (v 19) ∧ u20 = .int .i64 (v 20) ∧ (Lit.int .i64 (v 15)).wf = true := by
  have c3 : Try.prog.cellsOf 3 = 1 := by kernel_rfl
  have cv : Try.prog.cellsOf 30 = 4 := by kernel_rfl
  have cb : Try.prog.cellsOf 31 = 1 := by kernel_rfl
  have cr : Try.prog.cellsOf 34 = 3 := by kernel_rfl
  obtain ⟨xs, k, hk, hxy, _, hxl, hf⟩ := DataW.trod_struct Try.underlying36 h
  match xs, hxl with
  | [y0, y1, y2, y3, y4, y5, y6, y7, y8, y9, y10, y11, y12, y13, y14, y15], _ =>
    have g0 := hf 0 _ rfl
    have g1 := hf 1 _ rfl
    have g2 := hf 2 _ rfl
    have g3 := hf 3 _ rfl
    have g4 := hf 4 _ rfl
    have g5 := hf 5 _ rfl
    have g6 := hf 6 _ rfl
    have g7 := hf 7 _ rfl
    have g8 := hf 8 _ rfl
    have g9 := hf 9 _ rfl
    have g10 := hf 10 _ rfl
    have g11 := hf 11 _ rfl
    have g12 := hf 12 _ rfl
    have g13 := hf 13 _ rfl
    have g14 := hf 14 _ rfl
    have g15 := hf 15 _ rfl
    simp [c3, cv, cb, cr] at g0 g1 g2 g3 g4 g5 g6 g7 g8 g9 g10 g11 g12 g13 g14 g15
    obtain ⟨p0, e0, _, _⟩ := DataW.trod_int Try.underlying3 g0
    obtain ⟨p1, e1, _, _⟩ := DataW.trod_int Try.underlying3 g1
    obtain ⟨p2, e2, _, _⟩ := DataW.trod_int Try.underlying3 g2
    obtain ⟨p3, e3, _, _⟩ := DataW.trod_int Try.underlying3 g3
    obtain ⟨p4, e4, _, _⟩ := DataW.trod_int Try.underlying3 g4
    obtain ⟨p5, e5, _, _⟩ := DataW.trod_int Try.underlying3 g5
    obtain ⟨p6, e6, _, _⟩ := DataW.trod_int Try.underlying3 g6
    obtain ⟨p7, e7, _, _⟩ := DataW.trod_int Try.underlying3 g7
    obtain ⟨p8, e8, _, _⟩ := DataW.trod_int Try.underlying3 g8
    obtain ⟨p9, e9, _, _⟩ := DataW.trod_int Try.underlying3 g9
    obtain ⟨p10, e10, _, _⟩ := DataW.trod_int Try.underlying3 g10
    obtain ⟨p12, e12, _, w12⟩ := DataW.trod_int Try.underlying3 g12
    obtain ⟨p13, e13, _, _⟩ := DataW.trod_int Try.underlying3 g13
    have gs : ∃ A n c, [u17] = [Value.slice A n c] := by
      rcases Go.ChangeShapes.open_ints Try.underlying31 Try.underlying5 (by kernel_rfl) g14 with ⟨hcs, _⟩ | ⟨x, l, c, zs, hcs, _⟩
      · exact ⟨_, _, _, hcs⟩
      · exact ⟨_, _, _, hcs⟩
    obtain ⟨A, n, c, e14⟩ := gs
    obtain ⟨z0, z1, z2, k2, _, _, t0, t1, t2⟩ := trod_struct3 Try.underlying34 g15
    have ce : Try.prog.cellsOf 32 = 1 := by kernel_rfl
    simp [c3, ce] at t0 t1 t2
    obtain ⟨a0, a1, a2, a3, na, _, s0, s1, s2, s3⟩ := trod_array4 Try.underlying30 c3 g11
    obtain ⟨d0, f0, _, _⟩ := DataW.trod_int Try.underlying3 s0
    obtain ⟨d1, f1, _, _⟩ := DataW.trod_int Try.underlying3 s1
    obtain ⟨d2, f2, _, _⟩ := DataW.trod_int Try.underlying3 s2
    obtain ⟨d3, f3, _, _⟩ := DataW.trod_int Try.underlying3 s3
    obtain ⟨r0, h0, _, _⟩ := DataW.trod_int Try.underlying32 t0
    obtain ⟨r1, h1, _, _⟩ := DataW.trod_int Try.underlying3 t1
    obtain ⟨r2, h2, _, _⟩ := DataW.trod_int Try.underlying3 t2
    refine ⟨fun i => [p0, p1, p2, p3, p4, p5, p6, p7, p8, p9, p10, d0, d1, d2, d3, p12, p13, 0, r0, r1, r2].getD i 0, A, n, c, ?_⟩
    exact ⟨List.head_eq_of_cons_eq e0, List.head_eq_of_cons_eq e1, List.head_eq_of_cons_eq e2, List.head_eq_of_cons_eq e3, List.head_eq_of_cons_eq e4, List.head_eq_of_cons_eq e5, List.head_eq_of_cons_eq e6, List.head_eq_of_cons_eq e7, List.head_eq_of_cons_eq e8, List.head_eq_of_cons_eq e9, List.head_eq_of_cons_eq e10, List.head_eq_of_cons_eq f0, List.head_eq_of_cons_eq f1, List.head_eq_of_cons_eq f2, List.head_eq_of_cons_eq f3, List.head_eq_of_cons_eq e12, List.head_eq_of_cons_eq e13, List.head_eq_of_cons_eq e14, List.head_eq_of_cons_eq h0, List.head_eq_of_cons_eq h1, List.head_eq_of_cons_eq h2, w12⟩

theorem cells28 (l : List Value) (h : l.length = 28) : ∃ u0 u1 u2 u3 u4 u5 u6 u7 u8 u9 u10 u11 u12 u13 u14 u15 u16 u17 u18 u19 u20 u21 u22 u23 u24 u25 u26 u27 : Value, l = [u0, u1, u2, u3, u4, u5, u6, u7, u8, u9, u10, u11, u12, u13, u14, u15, u16, u17, u18, u19, u20, u21, u22, u23, u24, u25, u26, u27] := by
  obtain ⟨u0, t0, rfl, g0⟩ := cons_of_len h
  obtain ⟨u1, t1, rfl, g1⟩ := cons_of_len g0
  obtain ⟨u2, t2, rfl, g2⟩ := cons_of_len g1
  obtain ⟨u3, t3, rfl, g3⟩ := cons_of_len g2
  obtain ⟨u4, t4, rfl, g4⟩ := cons_of_len g3
  obtain ⟨u5, t5, rfl, g5⟩ := cons_of_len g4
  obtain ⟨u6, t6, rfl, g6⟩ := cons_of_len g5
  obtain ⟨u7, t7, rfl, g7⟩ := cons_of_len g6
  obtain ⟨u8, t8, rfl, g8⟩ := cons_of_len g7
  obtain ⟨u9, t9, rfl, g9⟩ := cons_of_len g8
  obtain ⟨u10, t10, rfl, g10⟩ := cons_of_len g9
  obtain ⟨u11, t11, rfl, g11⟩ := cons_of_len g10
  obtain ⟨u12, t12, rfl, g12⟩ := cons_of_len g11
  obtain ⟨u13, t13, rfl, g13⟩ := cons_of_len g12
  obtain ⟨u14, t14, rfl, g14⟩ := cons_of_len g13
  obtain ⟨u15, t15, rfl, g15⟩ := cons_of_len g14
  obtain ⟨u16, t16, rfl, g16⟩ := cons_of_len g15
  obtain ⟨u17, t17, rfl, g17⟩ := cons_of_len g16
  obtain ⟨u18, t18, rfl, g18⟩ := cons_of_len g17
  obtain ⟨u19, t19, rfl, g19⟩ := cons_of_len g18
  obtain ⟨u20, t20, rfl, g20⟩ := cons_of_len g19
  obtain ⟨u21, t21, rfl, g21⟩ := cons_of_len g20
  obtain ⟨u22, t22, rfl, g22⟩ := cons_of_len g21
  obtain ⟨u23, t23, rfl, g23⟩ := cons_of_len g22
  obtain ⟨u24, t24, rfl, g24⟩ := cons_of_len g23
  obtain ⟨u25, t25, rfl, g25⟩ := cons_of_len g24
  obtain ⟨u26, t26, rfl, g26⟩ := cons_of_len g25
  obtain ⟨u27, t27, rfl, g27⟩ := cons_of_len g26
  obtain rfl := List.length_eq_zero_iff.1 g27
  exact ⟨u0, u1, u2, u3, u4, u5, u6, u7, u8, u9, u10, u11, u12, u13, u14, u15, u16, u17, u18, u19, u20, u21, u22, u23, u24, u25, u26, u27, rfl⟩
set_option maxHeartbeats 4000000 in
theorem st_trod {H : Type} {enc : TypeId × Value → H} {w : World} {base fuel : Nat} {held : Bool} {l : List Value} {x : DataW H × List MemPlace} (hl : l.length = 28)
    (h : DataW.trod enc Try.prog w base (fun _ => true) held fuel 38 l = some x) : ∃ s : St, l = stc s ∧ (Lit.int .i64 (s.v 15)).wf = true ∧ (Lit.int .i64 s.cl).wf = true := by
  obtain ⟨u0, u1, u2, u3, u4, u5, u6, u7, u8, u9, u10, u11, u12, u13, u14, u15, u16, u17, u18, u19, u20, u21, u22, u23, u24, u25, u26, u27, rfl⟩ := cells28 l hl
  have c3 : Try.prog.cellsOf 3 = 1 := by kernel_rfl
  have c4 : Try.prog.cellsOf 4 = 1 := by kernel_rfl
  have cm : Try.prog.cellsOf 36 = 21 := by kernel_rfl
  have cr : Try.prog.cellsOf 34 = 3 := by kernel_rfl
  obtain ⟨xs, k, hk, hxy, _, hxl, hf⟩ := DataW.trod_struct Try.underlying38 h
  match xs, hxl with
  | [y0, y1, y2, y3, y4, y5], _ =>
    have g0 := hf 0 _ rfl
    have g1 := hf 1 _ rfl
    have g2 := hf 2 _ rfl
    have g3 := hf 3 _ rfl
    have g4 := hf 4 _ rfl
    have g5 := hf 5 _ rfl
    simp [c3, c4, cm, cr] at g0 g1 g2 g3 g4 g5
    obtain ⟨p0, e0, _⟩ := DataW.trod_bool Try.underlying4 g0
    obtain ⟨v, B, n, cb, q0, q1, q2, q3, q4, q5, q6, q7, q8, q9, q10, q11, q12, q13, q14, q15, q16, q17, q18, q19, q20, hw⟩ := msg_trodw g1
    obtain ⟨p2, e2, _, _⟩ := DataW.trod_int Try.underlying3 g2
    obtain ⟨z0, z1, z2, k2, _, _, t0, t1, t2⟩ := trod_struct3 Try.underlying34 g3
    have ce : Try.prog.cellsOf 32 = 1 := by kernel_rfl
    simp [c3, ce] at t0 t1 t2
    obtain ⟨r0, h0, _, _⟩ := DataW.trod_int Try.underlying32 t0
    obtain ⟨r1, h1, _, _⟩ := DataW.trod_int Try.underlying3 t1
    obtain ⟨r2, h2, _, _⟩ := DataW.trod_int Try.underlying3 t2
    obtain ⟨p4, e4, _, w4⟩ := DataW.trod_int Try.underlying3 g4
    obtain ⟨p5, e5, _, _⟩ := DataW.trod_int Try.underlying3 g5
    refine ⟨⟨p0, v, B, n, cb, p2, r0, r1, r2, p4, p5⟩, ?_, hw, w4⟩
    rw [List.head_eq_of_cons_eq e0, q0, q1, q2, q3, q4, q5, q6, q7, q8, q9, q10, q11, q12, q13, q14, q15, q16, q17, q18, q19, q20, List.head_eq_of_cons_eq e2, List.head_eq_of_cons_eq h0, List.head_eq_of_cons_eq h1, List.head_eq_of_cons_eq h2, List.head_eq_of_cons_eq e4, List.head_eq_of_cons_eq e5]
    rfl
/-- A script in memory. -/
def StepsIn (w : World) (B : Nat) (A : Option Addr) (gs : List St) : Prop := (∀ s ∈ gs, (Lit.int .i64 (s.v 15)).wf = true ∧ (Lit.int .i64 s.cl).wf = true) ∧ (gs = [] ∨ ∃ b off, A = some ⟨b, off, none⟩ ∧ b < B ∧ ∀ i s, gs[i]? = some s → w.rangeAt b (off + i * 28) (stc s))
theorem StepsIn.below {w w' : World} {B B' : Nat} {A : Option Addr} {gs : List St} (h : StepsIn w B A gs) (hb : Below B' w w') (hB : B ≤ B') : StepsIn w' B A gs := by
  refine ⟨h.1, ?_⟩
  rcases h.2 with e | ⟨b, off, e, hlt, hr⟩
  · exact .inl e
  · exact .inr ⟨b, off, e, hlt, fun i s hs j u hj => (hb.cell (p := ⟨b, off + i * 28 + j, none⟩) (by show b < B'; omega)).trans (hr i s hs j u hj)⟩
theorem choose_steps {P : Nat → St → Prop} (n : Nat) (h : ∀ i, i < n → ∃ s, P i s) : ∃ gs : List St, gs.length = n ∧ ∀ i s, gs[i]? = some s → P i s := by
  induction n with
  | zero => exact ⟨[], rfl, fun i s h => by simp at h⟩
  | succ n ih =>
    obtain ⟨gs, h1, h2⟩ := ih (fun i hi => h i (by omega))
    obtain ⟨s, hs⟩ := h n (by omega)
    refine ⟨gs ++ [s], by simp [h1], fun i u hu => ?_⟩
    by_cases hi : i < gs.length
    · rw [List.getElem?_append_left hi] at hu; exact h2 i u hu
    · rw [List.getElem?_append_right (by omega)] at hu
      have : i = n := by
        have := (List.getElem?_eq_some_iff.1 hu).1
        simp at this; omega
      subst this
      simp [h1] at hu; rw [← hu]; exact hs
set_option maxHeartbeats 1000000 in
theorem steps_trod {H : Type} {enc : TypeId × Value → H} {w : World} {base fuel : Nat} {held : Bool} {cs : List Value} {x : DataW H × List MemPlace}
    (h : DataW.trod enc Try.prog w base (fun _ => true) held fuel 22 cs = some x) : cs = [.slice none 0 0] ∨ ∃ a len cap gs, cs = [.slice (some a) len cap] ∧ len = gs.length ∧ len ≤ 9223372036854775807 ∧ StepsIn w w.heap.size (some a) gs := by
  rcases open_slice Try.underlying22 h with ⟨hcs, _⟩ | ⟨a, len, cap, m, n, D, Pl, hcs, _, hl, hm, hmm, _, hall⟩
  · exact .inl hcs
  right
  have hcc : Try.prog.cellsOf 38 = 28 := by kernel_rfl
  rw [hcc] at hall
  have key : ∀ i, i < len → ∃ s : St, ((Lit.int .i64 (s.v 15)).wf = true ∧ (Lit.int .i64 s.cl).wf = true) ∧ ∀ j u, (stc s)[j]? = some u → w.cell? ((a.add (i * 28)).add j) = some u := by
    intro i hi
    obtain ⟨cs', g1, g2⟩ := hall i (by rw [hmm]; split <;> omega)
    obtain ⟨_, hlen, hcell⟩ := World.cells?_some g1
    obtain ⟨s, rfl, hw1, hw2⟩ := st_trod hlen g2
    refine ⟨s, ⟨hw1, hw2⟩, fun j u hu => ?_⟩
    have hj : j < 28 := by have := (List.getElem?_eq_some_iff.1 hu).1; omega
    exact (hcell j hj).trans hu
  obtain ⟨gs, hl1, hl2⟩ := choose_steps len key
  refine ⟨a, len, cap, gs, hcs, hl1.symm, ?_, ?_, ?_⟩
  · unfold maxLen at hm; omega
  · intro s hs
    obtain ⟨i, hi, e⟩ := List.mem_iff_getElem.1 hs
    exact (hl2 i s (by rw [List.getElem?_eq_getElem hi, e])).1
  · by_cases h0 : len = 0
    · exact .inl (List.length_eq_zero_iff.1 (by omega))
    · right
      obtain ⟨s0, hs0⟩ : ∃ s, gs[0]? = some s := ⟨gs[0]'(by omega), List.getElem?_eq_getElem (by omega)⟩
      have hx0 := (hl2 0 s0 hs0).2 0 _ rfl
      simp only [Nat.zero_mul] at hx0
      have hsp : a.spot = none := by
        unfold World.cell? at hx0
        cases hsp : a.spot with
        | none => rfl
        | some s => simp [Addr.add, hsp] at hx0; split at hx0 <;> simp at hx0
      obtain ⟨b, off, spot⟩ := a
      simp only at hsp
      subst hsp
      refine ⟨b, off, rfl, ?_, fun i s hs j u hu => ?_⟩
      · have := World.block_lt_of_cell? w _ hx0
        simpa [Addr.add_lit] using this
      · have := (hl2 i s hs).2 j u hu
        rw [Addr.add_lit, Addr.add_lit] at this
        exact this
end Go.Proofs.Ytlcbpodjmafoeaa
