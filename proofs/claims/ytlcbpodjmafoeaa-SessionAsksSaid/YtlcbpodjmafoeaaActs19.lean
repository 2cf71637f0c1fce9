/- A script of acts that came in. -/
import Derived.Test.YtlcbpodjmafoeaaStep19
import Derived.Test.YtlcbpodjmafoeaaCli
namespace Go.Proofs.Ytlcbpodjmafoeaa
open Go.RowKit Go.Deep Go.ChangeShapes Go.Joins

structure Ay where
  kd : Int
  bA : Option Addr
  bn : Nat
  bc : Nat
  l : List UInt8
  now : Int
  near : Bool
  v : Nat → Int
  B : Option Addr
  n : Nat
  cb : Nat
def ayc (s : Ay) : List Value := [.int .i64 s.kd, .slice s.bA s.bn s.bc, .int .i64 s.now, .bool s.near, .int .i64 (s.v 0), .int .i64 (s.v 1), .int .i64 (s.v 2), .int .i64 (s.v 3), .int .i64 (s.v 4), .int .i64 (s.v 5), .int .i64 (s.v 6), .int .i64 (s.v 7), .int .i64 (s.v 8), .int .i64 (s.v 9), .int .i64 (s.v 10), .int .i64 (s.v 11), .int .i64 (s.v 12), .int .i64 (s.v 13), .int .i64 (s.v 14), .int .i64 (s.v 15), .int .i64 (s.v 16), .slice s.B s.n s.cb, .int .i64 (s.v 18), .int .i64 (s.v 19), .int .i64 (s.v 20)]
theorem BytesIn.below' {w w' : World} {B B' c : Nat} {A : Option Addr} {l : List UInt8} (h : BytesIn w B A c l) (hb : Below B' w w') (hB : B ≤ B') : BytesIn w' B A c l := h.below hb hB
theorem bytes_trod {H : Type} {enc : TypeId × Value → H} {w : World} {base fuel : Nat} {held : Bool} {cs : List Value} {x : DataW H × List MemPlace}
    (hf : DataW.trod enc Try.prog w base (fun _ => true) held fuel 31 cs = some x) : ∃ (A : Option Addr) (n c : Nat) (l : List UInt8), cs = [.slice A n c] ∧ n = l.length ∧ BytesIn w w.heap.size A c l := by
  rcases open_ints Try.underlying31 Try.underlying5 (by kernel_rfl) hf with ⟨hcs, _⟩ | ⟨x, l, c, zs, hcs, _, hl, hm, hz, _, hcell, hwz⟩
  · exact ⟨none, 0, 0, [], hcs, rfl, .emp (by omega)⟩
  · obtain ⟨L, h1, h2⟩ := bytesIn_open hl hm (by simpa using hz) hcell hwz
    exact ⟨_, _, _, L, hcs, h1, h2⟩
theorem cells25 (l : List Value) (h : l.length = 25) : ∃ u0 u1 u2 u3 u4 u5 u6 u7 u8 u9 u10 u11 u12 u13 u14 u15 u16 u17 u18 u19 u20 u21 u22 u23 u24 : Value, l = [u0, u1, u2, u3, u4, u5, u6, u7, u8, u9, u10, u11, u12, u13, u14, u15, u16, u17, u18, u19, u20, u21, u22, u23, u24] := by
  obtain ⟨u0, t0, rfl, g0⟩ := cons_of_len h
  obtain ⟨u1, t1, rfl, g1⟩ := cons_of_len g0
  obtain ⟨u2, t2, rfl, g2⟩ := cons_of_len g1
  obtain ⟨u3, t3, rfl, g3⟩ := cons_of_len g2
  obtain ⟨u4, t4, rfl, g4⟩ := cons_of_len g3
  obtain ⟨u5, t5, rfl, g5⟩ := cons_of_len g4
  obtain ⟨u6, t6, rfl, g6⟩ := cons_of_len g5
  obtain ⟨u7, t7, rfl, g7⟩ := cons_of_len g6
  obtain ⟨u8, t8, rfl, g8⟩ := cons_of_len g7
  obtain ⟨u9, t9, rfl, g9⟩ := cons_of_len g8
  obtain ⟨u10, t10, rfl, g10⟩ := cons_of_len g9
  obtain ⟨u11, t11, rfl, g11⟩ := cons_of_len g10
  obtain ⟨u12, t12, rfl, g12⟩ := cons_of_len g11
  obtain ⟨u13, t13, rfl, g13⟩ := cons_of_len g12
  obtain ⟨u14, t14, rfl, g14⟩ := cons_of_len g13
  obtain ⟨u15, t15, rfl, g15⟩ := cons_of_len g14
  obtain ⟨u16, t16, rfl, g16⟩ := cons_of_len g15
  obtain ⟨u17, t17, rfl, g17⟩ := cons_of_len g16
  obtain ⟨u18, t18, rfl, g18⟩ := cons_of_len g17
  obtain ⟨u19, t19, rfl, g19⟩ := cons_of_len g18
  obtain ⟨u20, t20, rfl, g20⟩ := cons_of_len g19
  obtain ⟨u21, t21, rfl, g21⟩ := cons_of_len g20
  obtain ⟨u22, t22, rfl, g22⟩ := cons_of_len g21
  obtain ⟨u23, t23, rfl, g23⟩ := cons_of_len g22
  obtain ⟨u24, t24, rfl, g24⟩ := cons_of_len g23
  obtain rfl := List.length_eq_zero_iff.1 g24
  exact ⟨u0, u1, u2, u3, u4, u5, u6, u7, u8, u9, u10, u11, u12, u13, u14, u15, u16, u17, u18, u19, u20, u21, u22, u23, u24, rfl⟩
set_option maxHeartbeats 4000000 in
theorem ay_trod {H : Type} {enc : TypeId × Value → H} {w : World} {base fuel : Nat} {held : Bool} {l : List Value} {x : DataW H × List MemPlace} (hl : l.length = 25)
    (h : DataW.trod enc Try.prog w base (fun _ => true) held fuel 63 l = some x) : ∃ s : Ay, l = ayc s ∧ BytesIn w w.heap.size s.bA s.bc s.l ∧ s.bn = s.l.length ∧ (Lit.int .i64 s.now).wf = true := by
  obtain ⟨u0, u1, u2, u3, u4, u5, u6, u7, u8, u9, u10, u11, u12, u13, u14, u15, u16, u17, u18, u19, u20, u21, u22, u23, u24, rfl⟩ := cells25 l hl
  have c3 : Try.prog.cellsOf 3 = 1 := by kernel_rfl
  have c4 : Try.prog.cellsOf 4 = 1 := by kernel_rfl
  have cb : Try.prog.cellsOf 31 = 1 := by kernel_rfl
  have cm : Try.prog.cellsOf 36 = 21 := by kernel_rfl
  obtain ⟨xs, k, hk, hxy, _, hxl, hf⟩ := DataW.trod_struct Try.underlying63 h
  match xs, hxl with
  | [y0, y1, y2, y3, y4], _ =>
    have g0 := hf 0 _ rfl
    have g1 := hf 1 _ rfl
    have g2 := hf 2 _ rfl
    have g3 := hf 3 _ rfl
    have g4 := hf 4 _ rfl
    simp [c3, c4, cb, cm] at g0 g1 g2 g3 g4
    obtain ⟨p0, e0, _, _⟩ := DataW.trod_int Try.underlying3 g0
    obtain ⟨bA, bn, bc, L, e1, hn, hb⟩ := bytes_trod g1
    obtain ⟨p2, e2, _, w2⟩ := DataW.trod_int Try.underlying3 g2
    obtain ⟨p3, e3, _⟩ := DataW.trod_bool Try.underlying4 g3
    obtain ⟨v, B, n, cb, q0, q1, q2, q3, q4, q5, q6, q7, q8, q9, q10, q11, q12, q13, q14, q15, q16, q17, q18, q19, q20, hw⟩ := msg_trodw g4
    refine ⟨⟨p0, bA, bn, bc, L, p2, p3, v, B, n, cb⟩, ?_, hb, hn, w2⟩
    rw [List.head_eq_of_cons_eq e0, List.head_eq_of_cons_eq e1, List.head_eq_of_cons_eq e2, List.head_eq_of_cons_eq e3, q0, q1, q2, q3, q4, q5, q6, q7, q8, q9, q10, q11, q12, q13, q14, q15, q16, q17, q18, q19, q20]
    rfl
/-- A script in memory. -/
def ActsIn (w : World) (B : Nat) (A : Option Addr) (gs : List Ay) : Prop := (∀ s ∈ gs, BytesIn w B s.bA s.bc s.l ∧ s.bn = s.l.length ∧ (Lit.int .i64 s.now).wf = true) ∧ (gs = [] ∨ ∃ b off, A = some ⟨b, off, none⟩ ∧ b < B ∧ ∀ i s, gs[i]? = some s → w.rangeAt b (off + i * 25) (ayc s))
theorem ActsIn.below {w w' : World} {B B' : Nat} {A : Option Addr} {gs : List Ay} (h : ActsIn w B A gs) (hb : Below B' w w') (hB : B ≤ B') : ActsIn w' B A gs := by
  refine ⟨fun s hs => ⟨(h.1 s hs).1.below' hb hB, (h.1 s hs).2⟩, ?_⟩
  rcases h.2 with e | ⟨b, off, e, hlt, hr⟩
  · exact .inl e
  · exact .inr ⟨b, off, e, hlt, fun i s hs j u hj => (hb.cell (p := ⟨b, off + i * 25 + j, none⟩) (by show b < B'; omega)).trans (hr i s hs j u hj)⟩
theorem choose_acts {P : Nat → Ay → Prop} (n : Nat) (h : ∀ i, i < n → ∃ s, P i s) : ∃ gs : List Ay, gs.length = n ∧ ∀ i s, gs[i]? = some s → P i s := by
  induction n with
  | zero => exact ⟨[], rfl, fun i s h => by simp at h⟩
  | succ n ih =>
    obtain ⟨gs, h1, h2⟩ := ih (fun i hi => h i (by omega))
    obtain ⟨s, hs⟩ := h n (by omega)
    refine ⟨gs ++ [s], by simp [h1], fun i u hu => ?_⟩
    by_cases hi : i < gs.length
    · rw [List.getElem?_append_left hi] at hu; exact h2 i u hu
    · rw [List.getElem?_append_right (by omega)] at hu
      have : i = n := by
        have := (List.getElem?_eq_some_iff.1 hu).1
        simp at this; omega
      subst this
      simp [h1] at hu; rw [← hu]; exact hs
set_option maxHeartbeats 1000000 in
theorem acts_trod {H : Type} {enc : TypeId × Value → H} {w : World} {base fuel : Nat} {held : Bool} {cs : List Value} {x : DataW H × List MemPlace}
    (h : DataW.trod enc Try.prog w base (fun _ => true) held fuel 59 cs = some x) : cs = [.slice none 0 0] ∨ ∃ a len cap gs, cs = [.slice (some a) len cap] ∧ len = gs.length ∧ len ≤ 9223372036854775807 ∧ ActsIn w w.heap.size (some a) gs := by
  rcases open_slice Try.underlying59 h with ⟨hcs, _⟩ | ⟨a, len, cap, m, n, D, Pl, hcs, _, hl, hm, hmm, _, hall⟩
  · exact .inl hcs
  right
  have hcc : Try.prog.cellsOf 63 = 25 := by kernel_rfl
  rw [hcc] at hall
  have key : ∀ i, i < len → ∃ s : Ay, (BytesIn w w.heap.size s.bA s.bc s.l ∧ s.bn = s.l.length ∧ (Lit.int .i64 s.now).wf = true) ∧ ∀ j u, (ayc s)[j]? = some u → w.cell? ((a.add (i * 25)).add j) = some u := by
    intro i hi
    obtain ⟨cs', g1, g2⟩ := hall i (by rw [hmm]; split <;> omega)
    obtain ⟨_, hlen, hcell⟩ := World.cells?_some g1
    obtain ⟨s, rfl, hw1⟩ := ay_trod hlen g2
    refine ⟨s, hw1, fun j u hu => ?_⟩
    have hj : j < 25 := by have := (List.getElem?_eq_some_iff.1 hu).1; omega
    exact (hcell j hj).trans hu
  obtain ⟨gs, hl1, hl2⟩ := choose_acts len key
  refine ⟨a, len, cap, gs, hcs, hl1.symm, ?_, ?_, ?_⟩
  · unfold maxLen at hm; omega
  · intro s hs
    obtain ⟨i, hi, e⟩ := List.mem_iff_getElem.1 hs
    exact (hl2 i s (by rw [List.getElem?_eq_getElem hi, e])).1
  · by_cases h0 : len = 0
    · exact .inl (List.length_eq_zero_iff.1 (by omega))
    · right
      obtain ⟨s0, hs0⟩ : ∃ s, gs[0]? = some s := ⟨gs[0]'(by omega), List.getElem?_eq_getElem (by omega)⟩
      have hx0 := (hl2 0 s0 hs0).2 0 _ rfl
      simp only [Nat.zero_mul] at hx0
      have hsp : a.spot = none := by
        unfold World.cell? at hx0
        cases hsp : a.spot with
        | none => rfl
        | some s => simp [Addr.add, hsp] at hx0; split at hx0 <;> simp at hx0
      obtain ⟨b, off, spot⟩ := a
      simp only at hsp
      subst hsp
      refine ⟨b, off, rfl, ?_, fun i s hs j u hu => ?_⟩
      · have := World.block_lt_of_cell? w _ hx0
        simpa [Addr.add_lit] using this
      · have := (hl2 i s hs).2 j u hu
        rw [Addr.add_lit, Addr.add_lit] at this
        exact this
end Go.Proofs.Ytlcbpodjmafoeaa
