/- A message that came in. -/
import Derived.Test.YtoeamofemepgpaaMsg
import Derived.Deep.Slices
import Derived.ChangeSlices
import Derived.ChangeArms
import Derived.Lib.SmallJoins
import Derived.Laws.IdiomArrays
namespace Go.Proofs.Ytoeamofemepgpaa
open Go.RowKit Go.Deep Go.ChangeShapes Go.Joins

set_option maxHeartbeats 1000000 in
theorem msg_trod {H : Type} {enc : TypeId × Value → H} {w : World} {base fuel : Nat} {held : Bool} {u0 u1 u2 u3 u4 u5 u6 u7 u8 u9 u10 u11 u12 u13 u14 u15 u16 u17 u18 u19 u20 : Value} {x : DataW H × List MemPlace}
    (h : DataW.trod enc Try.prog w base (fun _ => true) held fuel 35 [u0, u1, u2, u3, u4, u5, u6, u7, u8, u9, u10, u11, u12, u13, u14, u15, u16, u17, u18, u19, u20] = some x) :
    ∃ (v : Nat → Int) (A : Option Addr) (n c : Nat), u0 = .int .i64 (v 0) ∧ u1 = .int .i64 (v 1) ∧ u2 = .int .i64 (v 2) ∧ u3 = .int .i64 (v 3) ∧ u4 = .int .i64 (v 4) ∧ u5 = .int .i64 (v 5) ∧ u6 = .int .i64 (v 6) ∧ u7 = .int .i64 (v 7) ∧ u8 = .int .i64 (v 8) ∧ u9 = .int .i64 (v 9) ∧ u10 = .int .i64 (v 10) ∧ u11 = .int .i64 (v 11) ∧ u12 = .int .i64 (v 12) ∧ u13 = .int .i64 (v 13) ∧ u14 = .int .i64 (v 14) ∧ u15 = .int .i64 (v 15) ∧ u16 = .int .i64 (v 16) ∧ u17 = .slice A n c ∧ u18 = .int .i64 (v 18) ∧ u19 = .int .i64 (v 19) ∧ u20 = .int .i64 (v 20) := by
  have c3 : Try.prog.cellsOf 3 = 1 := by kernel_rfl
  have cv : Try.prog.cellsOf 26 = 4 := by kernel_rfl
  have cb : Try.prog.cellsOf 31 = 1 := by kernel_rfl
  have cr : Try.prog.cellsOf 33 = 3 := by kernel_rfl
  obtain ⟨xs, k, hk, hxy, _, hxl, hf⟩ := DataW.trod_struct Try.underlying35 h
  match xs, hxl with
  | [y0, y1, y2, y3, y4, y5, y6, y7, y8, y9, y10, y11, y12, y13, y14, y15], _ =>
    have g0 := hf 0 _ rfl
    have g1 := hf 1 _ rfl
    have g2 := hf 2 _ rfl
    have g3 := hf 3 _ rfl
    have g4 := hf 4 _ rfl
    have g5 := hf 5 _ rfl
    have g6 := hf 6 _ rfl
    have g7 := hf 7 _ rfl
    have g8 := hf 8 _ rfl
    have g9 := hf 9 _ rfl
    have g10 := hf 10 _ rfl
    have g11 := hf 11 _ rfl
    have g12 := hf 12 _ rfl
    have g13 := hf 13 _ rfl
    have g14 := hf 14 _ rfl
    have g15 := hf 15 _ rfl
    simp [c3, cv, cb, cr] at g0 g1 g2 g3 g4 g5 g6 g7 g8 g9 g10 g11 g12 g13 g14 g15
    obtain ⟨p0, e0, _, _⟩ := DataW.trod_int Try.underlying3 g0
    obtain ⟨p1, e1, _, _⟩ := DataW.trod_int Try.underlying3 g1
    obtain ⟨p2, e2, _, _⟩ := DataW.trod_int Try.underlying3 g2
    obtain ⟨p3, e3, _, _⟩ := DataW.trod_int Try.underlying3 g3
    obtain ⟨p4, e4, _, _⟩ := DataW.trod_int Try.underlying3 g4
    obtain ⟨p5, e5, _, _⟩ := DataW.trod_int Try.underlying3 g5
    obtain ⟨p6, e6, _, _⟩ := DataW.trod_int Try.underlying3 g6
    obtain ⟨p7, e7, _, _⟩ := DataW.trod_int Try.underlying3 g7
    obtain ⟨p8, e8, _, _⟩ := DataW.trod_int Try.underlying3 g8
    obtain ⟨p9, e9, _, _⟩ := DataW.trod_int Try.underlying3 g9
    obtain ⟨p10, e10, _, _⟩ := DataW.trod_int Try.underlying3 g10
    obtain ⟨p12, e12, _, _⟩ := DataW.trod_int Try.underlying3 g12
    obtain ⟨p13, e13, _, _⟩ := DataW.trod_int Try.underlying3 g13
    have gs : ∃ A n c, [u17] = [Value.slice A n c] := by
      rcases Go.ChangeShapes.open_ints Try.underlying31 Try.underlying5 (by kernel_rfl) g14 with ⟨hcs, _⟩ | ⟨x, l, c, zs, hcs, _⟩
      · exact ⟨_, _, _, hcs⟩
      · exact ⟨_, _, _, hcs⟩
    obtain ⟨A, n, c, e14⟩ := gs
    obtain ⟨z0, z1, z2, k2, _, _, t0, t1, t2⟩ := trod_struct3 Try.underlying33 g15
    have ce : Try.prog.cellsOf 28 = 1 := by kernel_rfl
    simp [c3, ce] at t0 t1 t2
    obtain ⟨a0, a1, a2, a3, na, _, s0, s1, s2, s3⟩ := trod_array4 Try.underlying26 c3 g11
    obtain ⟨d0, f0, _, _⟩ := DataW.trod_int Try.underlying3 s0
    obtain ⟨d1, f1, _, _⟩ := DataW.trod_int Try.underlying3 s1
    obtain ⟨d2, f2, _, _⟩ := DataW.trod_int Try.underlying3 s2
    obtain ⟨d3, f3, _, _⟩ := DataW.trod_int Try.underlying3 s3
    obtain ⟨r0, h0, _, _⟩ := DataW.trod_int Try.underlying28 t0
    obtain ⟨r1, h1, _, _⟩ := DataW.trod_int Try.underlying3 t1
    obtain ⟨r2, h2, _, _⟩ := DataW.trod_int Try.underlying3 t2
    refine ⟨fun i => [p0, p1, p2, p3, p4, p5, p6, p7, p8, p9, p10, d0, d1, d2, d3, p12, p13, 0, r0, r1, r2].getD i 0, A, n, c, ?_⟩
    exact ⟨List.head_eq_of_cons_eq e0, List.head_eq_of_cons_eq e1, List.head_eq_of_cons_eq e2, List.head_eq_of_cons_eq e3, List.head_eq_of_cons_eq e4, List.head_eq_of_cons_eq e5, List.head_eq_of_cons_eq e6, List.head_eq_of_cons_eq e7, List.head_eq_of_cons_eq e8, List.head_eq_of_cons_eq e9, List.head_eq_of_cons_eq e10, List.head_eq_of_cons_eq f0, List.head_eq_of_cons_eq f1, List.head_eq_of_cons_eq f2, List.head_eq_of_cons_eq f3, List.head_eq_of_cons_eq e12, List.head_eq_of_cons_eq e13, List.head_eq_of_cons_eq e14, List.head_eq_of_cons_eq h0, List.head_eq_of_cons_eq h1, List.head_eq_of_cons_eq h2⟩
theorem cons_of_len {n : Nat} {l : List Value} (h : l.length = n + 1) : ∃ a t, l = a :: t ∧ t.length = n := by
  cases l with
  | nil => simp at h
  | cons a t => exact ⟨a, t, rfl, by simpa using h⟩
theorem cells21 (cs : Array Value) (h : cs.size = 21) : ∃ u0 u1 u2 u3 u4 u5 u6 u7 u8 u9 u10 u11 u12 u13 u14 u15 u16 u17 u18 u19 u20 : Value, cs = #[u0, u1, u2, u3, u4, u5, u6, u7, u8, u9, u10, u11, u12, u13, u14, u15, u16, u17, u18, u19, u20] := by
  obtain ⟨l⟩ := cs
  replace h : l.length = 21 := h
  obtain ⟨u0, t0, rfl, g0⟩ := cons_of_len h
  obtain ⟨u1, t1, rfl, g1⟩ := cons_of_len g0
  obtain ⟨u2, t2, rfl, g2⟩ := cons_of_len g1
  obtain ⟨u3, t3, rfl, g3⟩ := cons_of_len g2
  obtain ⟨u4, t4, rfl, g4⟩ := cons_of_len g3
  obtain ⟨u5, t5, rfl, g5⟩ := cons_of_len g4
  obtain ⟨u6, t6, rfl, g6⟩ := cons_of_len g5
  obtain ⟨u7, t7, rfl, g7⟩ := cons_of_len g6
  obtain ⟨u8, t8, rfl, g8⟩ := cons_of_len g7
  obtain ⟨u9, t9, rfl, g9⟩ := cons_of_len g8
  obtain ⟨u10, t10, rfl, g10⟩ := cons_of_len g9
  obtain ⟨u11, t11, rfl, g11⟩ := cons_of_len g10
  obtain ⟨u12, t12, rfl, g12⟩ := cons_of_len g11
  obtain ⟨u13, t13, rfl, g13⟩ := cons_of_len g12
  obtain ⟨u14, t14, rfl, g14⟩ := cons_of_len g13
  obtain ⟨u15, t15, rfl, g15⟩ := cons_of_len g14
  obtain ⟨u16, t16, rfl, g16⟩ := cons_of_len g15
  obtain ⟨u17, t17, rfl, g17⟩ := cons_of_len g16
  obtain ⟨u18, t18, rfl, g18⟩ := cons_of_len g17
  obtain ⟨u19, t19, rfl, g19⟩ := cons_of_len g18
  obtain ⟨u20, t20, rfl, g20⟩ := cons_of_len g19
  obtain rfl := List.length_eq_zero_iff.1 g20
  exact ⟨u0, u1, u2, u3, u4, u5, u6, u7, u8, u9, u10, u11, u12, u13, u14, u15, u16, u17, u18, u19, u20, rfl⟩
end Go.Proofs.Ytoeamofemepgpaa
