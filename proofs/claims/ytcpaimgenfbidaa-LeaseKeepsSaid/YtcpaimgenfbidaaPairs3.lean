/- A handed slice of pairs, opened. -/
import Derived.Test.YtcpaimgenfbidaaPairs
namespace Go.Proofs.Ytcpaimgenfbidaa
open Go.RowKit

theorem pairs_open {w : World} {x : Addr} {len : Nat} (h : ∀ i, i < len → ∃ p q, w.cell? (x.add (i * 2)) = some (.int .i64 p) ∧ w.cell? (x.add (i * 2 + 1)) = some (.int .i64 q)) :
    ∃ gs : List (Int × Int), len = gs.length ∧ PairsIn w w.heap.size (some x) gs := by
  by_cases h0 : len = 0
  · exact ⟨[], h0, .inl rfl⟩
  obtain ⟨p0, q0, hx0, _⟩ := h 0 (by omega)
  have hadd : x.add (0 * 2) = x := by unfold Addr.add; simp
  rw [hadd] at hx0
  have hs : x.spot = none := by
    unfold World.cell? at hx0
    cases hsp : x.spot with
    | none => rfl
    | some s => simp [hsp] at hx0; split at hx0 <;> simp at hx0
  obtain ⟨b, off, spot⟩ := x
  simp only at hs
  subst hs
  have hg : ∀ n, n ≤ len → ∃ gs : List (Int × Int), n = gs.length ∧ ∀ i, i < gs.length → w.cell? ⟨b, off + i * 2, none⟩ = some (.int .i64 (gs.getD i (0, 0)).1) ∧ w.cell? ⟨b, off + i * 2 + 1, none⟩ = some (.int .i64 (gs.getD i (0, 0)).2) := by
    intro n
    induction n with
    | zero => intro _; exact ⟨[], rfl, fun i hi => by simp at hi⟩
    | succ n ih =>
      intro hn
      obtain ⟨gs, hl, hgs⟩ := ih (by omega)
      obtain ⟨p, q, h1, h2⟩ := h n (by omega)
      rw [Addr.add_lit] at h1 h2
      refine ⟨gs ++ [(p, q)], by simp [hl], fun i hi => ?_⟩
      by_cases e : i < gs.length
      · rw [show (gs ++ [(p, q)]).getD i (0, 0) = gs.getD i (0, 0) by simp [List.getD, List.getElem?_append_left e]]
        exact hgs i e
      · have e : i = gs.length := by simp at hi; omega
        subst e
        rw [← hl]
        rw [show (gs ++ [(p, q)]).getD n (0, 0) = (p, q) by rw [hl]; simp [List.getD]]
        exact ⟨h1, h2⟩
  obtain ⟨gs, hl, hgs⟩ := hg len (Nat.le_refl _)
  exact ⟨gs, hl, .inr ⟨b, off, rfl, World.block_lt_of_cell? w _ hx0, hgs⟩⟩
end Go.Proofs.Ytcpaimgenfbidaa
