/- A handed slice of steps, opened. -/
import Derived.Test.YtcpaimgenfbidaaAlone
import Derived.Deep.Slices
import Derived.Deep.Strs
namespace Go.Proofs.Ytcpaimgenfbidaa
open Go.RowKit Go.Deep

theorem add_add3 (a : Addr) (i j : Nat) : (a.add i).add j = a.add (i + j) := by
  unfold Addr.add
  by_cases h1 : i = 0 <;> by_cases h2 : j = 0 <;> simp [h1, h2, Nat.add_assoc]

theorem steps_open {w : World} {x : Addr} {len : Nat} (h : ∀ i, i < len → ∃ s : St, w.cell? (x.add (i * 3)) = some (.int .i64 s.who) ∧ w.cell? (x.add (i * 3 + 1)) = some (.bool s.ren) ∧ w.cell? (x.add (i * 3 + 2)) = some (.int .i64 s.t)) :
    ∃ gs : List St, len = gs.length ∧ StepsIn w w.heap.size (some x) gs := by
  by_cases h0 : len = 0
  · exact ⟨[], h0, .inl rfl⟩
  obtain ⟨s0, hx0, _⟩ := h 0 (by omega)
  have hadd : x.add (0 * 3) = x := by unfold Addr.add; simp
  rw [hadd] at hx0
  have hs : x.spot = none := by
    unfold World.cell? at hx0
    cases hsp : x.spot with
    | none => rfl
    | some s => simp [hsp] at hx0; split at hx0 <;> simp at hx0
  obtain ⟨b, off, spot⟩ := x
  simp only at hs
  subst hs
  refine ⟨List.replicate len ⟨0, false, 0⟩, by simp, .inr ⟨b, off, rfl, World.block_lt_of_cell? w _ hx0, fun i hi => ?_⟩⟩
  obtain ⟨s, h1, h2, h3⟩ := h i (by simpa using hi)
  rw [Addr.add_lit] at h1 h2 h3
  exact ⟨s, h1, h2, h3⟩

theorem steps_trod {H : Type} {enc : TypeId × Value → H} {w : World} {base : Nat} {spare : Nat → Bool} {held : Bool} {fuel : Nat} {cs : List Value} {x : DataW H × List MemPlace}
    (h : DataW.trod enc Try.prog w base spare held fuel 54 cs = some x) : cs = [.slice none 0 0] ∨ ∃ a len cap gs, cs = [.slice (some a) len cap] ∧ len = gs.length ∧ StepsIn w w.heap.size (some a) gs := by
  rcases open_slice Try.underlying54 h with ⟨hcs, _⟩ | ⟨a, len, cap, m, n, D, Pl, hcs, _, hl, hm, hmm, _, hall⟩
  · exact .inl hcs
  · right
    have hcc : Try.prog.cellsOf 57 = 3 := by kernel_rfl
    have c3 : Try.prog.cellsOf 3 = 1 := by kernel_rfl
    have c4 : Try.prog.cellsOf 4 = 1 := by kernel_rfl
    rw [hcc] at hall
    obtain ⟨gs, h1, h2⟩ := steps_open (w := w) (x := a) (len := len) fun i hi => by
      obtain ⟨cs', g1, g2⟩ := hall i (by rw [hmm]; split <;> omega)
      obtain ⟨_, hlen, hcell⟩ := World.cells?_some g1
      obtain ⟨y0, y1, y2, k, _, _, t0, t1, t2⟩ := trod_struct3 Try.underlying57 g2
      match cs', hlen with
      | [v0, v1, v2], _ =>
        simp [c3, c4] at t0 t1 t2
        obtain ⟨p, e0, _, _⟩ := DataW.trod_int Try.underlying3 t0
        obtain ⟨q, e1, _⟩ := DataW.trod_bool Try.underlying4 t1
        obtain ⟨r, e2, _, _⟩ := DataW.trod_int Try.underlying3 t2
        have e0 := List.head_eq_of_cons_eq e0
        have e1 := List.head_eq_of_cons_eq e1
        have e2 := List.head_eq_of_cons_eq e2
        subst e0 e1 e2
        have q0 := hcell 0 (by omega)
        have q1 := hcell 1 (by omega)
        have q2 := hcell 2 (by omega)
        rw [add_add3] at q0 q1 q2
        exact ⟨⟨p, q, r⟩, by simpa using q0, by simpa using q1, by simpa using q2⟩
    exact ⟨a, len, cap, gs, hcs, h1, h2⟩
end Go.Proofs.Ytcpaimgenfbidaa
