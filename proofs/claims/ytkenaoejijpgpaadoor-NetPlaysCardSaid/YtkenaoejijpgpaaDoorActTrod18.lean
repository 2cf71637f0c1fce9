/- An act of a script that came in. -/
import Derived.Test.YtkenaoejijpgpaaDoorBase
import Derived.Deep.Slices
import Derived.ChangeSlices
import Derived.ChangeArms
import Derived.Lib.SmallJoins
namespace Go.Proofs.YtkenaoejijpgpaaDoor
open Go.RowKit Go.Deep Go.ChangeShapes Go.Joins

theorem act_trod {H : Type} {enc : TypeId × Value → H} {w : World} {base fuel : Nat} {held : Bool} {u0 u1 u2 u3 u4 : Value} {x : DataW H × List MemPlace}
    (h : DataW.trod enc Tryd.prog w base (fun _ => true) held fuel 51 [u0, u1, u2, u3, u4] = some x) :
    ∃ (kd i to_ bit : Int) (A : Option Addr) (n c : Nat) (l : List UInt8), u0 = .int .i64 kd ∧ u1 = .int .i64 i ∧ u2 = .int .i64 to_ ∧ u3 = .int .i64 bit ∧ u4 = .slice A n c ∧ n = l.length ∧ BytesIn w w.heap.size A c l ∧ bit ≤ 9223372036854775807 := by
  have c3 : Tryd.prog.cellsOf 3 = 1 := by kernel_rfl
  have cb : Tryd.prog.cellsOf 24 = 1 := by kernel_rfl
  obtain ⟨xs, k, hk, hxy, _, hxl, hf⟩ := DataW.trod_struct Tryd.underlying51 h
  match xs, hxl with
  | [y0, y1, y2, y3, y4], _ =>
    have g0 := hf 0 _ rfl
    have g1 := hf 1 _ rfl
    have g2 := hf 2 _ rfl
    have g3 := hf 3 _ rfl
    have g4 := hf 4 _ rfl
    simp [c3, cb] at g0 g1 g2 g3 g4
    obtain ⟨p0, e0, _, _⟩ := DataW.trod_int Tryd.underlying3 g0
    obtain ⟨p1, e1, _, _⟩ := DataW.trod_int Tryd.underlying3 g1
    obtain ⟨p2, e2, _, _⟩ := DataW.trod_int Tryd.underlying3 g2
    obtain ⟨p3, e3, _, w3⟩ := DataW.trod_int Tryd.underlying3 g3
    have gs : ∃ (A : Option Addr) (n c : Nat) (l : List UInt8), [u4] = [Value.slice A n c] ∧ n = l.length ∧ BytesIn w w.heap.size A c l := by
      rcases Go.ChangeShapes.open_ints Tryd.underlying24 Tryd.underlying5 (by kernel_rfl) g4 with ⟨hcs, _⟩ | ⟨x, l, c, zs, hcs, _, hl, hm, hz, _, hcell, hwz⟩
      · exact ⟨none, 0, 0, [], hcs, rfl, .emp (by omega)⟩
      · obtain ⟨L, h1, h2⟩ := bytesIn_open hl hm (by simpa using hz) hcell hwz
        exact ⟨_, _, _, L, hcs, h1, h2⟩
    obtain ⟨A, n, c, l, e4, hl, hby⟩ := gs
    refine ⟨p0, p1, p2, p3, A, n, c, l, List.head_eq_of_cons_eq e0, List.head_eq_of_cons_eq e1, List.head_eq_of_cons_eq e2, List.head_eq_of_cons_eq e3, List.head_eq_of_cons_eq e4, hl, hby, ?_⟩
    simp [Lit.wf, IntKind.min, IntKind.max, IntKind.signed, IntKind.bits] at w3
    omega
end Go.Proofs.YtkenaoejijpgpaaDoor
