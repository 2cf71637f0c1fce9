/- A script of moves that came in. -/
import Derived.Test.YtlcbpodjmafoeaaStep19
namespace Go.Proofs.Ytlcbpodjmafoeaa
open Go.RowKit Go.Deep Go.ChangeShapes Go.Joins

structure Mv where
  kd : Int
  pick : Int
  well : Bool
def mvc (s : Mv) : List Value := [.int .i64 s.kd, .int .i64 s.pick, .bool s.well]
def MvIn (w : World) (B : Nat) (A : Option Addr) (gs : List Mv) : Prop := gs = [] ∨ ∃ b off, A = some ⟨b, off, none⟩ ∧ b < B ∧ ∀ i s, gs[i]? = some s → w.rangeAt b (off + i * 3) (mvc s)
theorem MvIn.below {w w' : World} {B : Nat} {A : Option Addr} {gs : List Mv} (h : MvIn w B A gs) {B' : Nat} (hb : Below B' w w') (hB : B ≤ B') : MvIn w' B A gs := by
  rcases h with e | ⟨b, off, e, hlt, hr⟩
  · exact .inl e
  · refine .inr ⟨b, off, e, hlt, fun i s hs j v hv => ?_⟩
    have := hr i s hs j v hv
    rw [World.cell?_of_block (hb.block b (by omega))]; exact this
theorem choose_mv {Q : Nat → Mv → Prop} : ∀ n, (∀ i, i < n → ∃ s, Q i s) → ∃ gs : List Mv, gs.length = n ∧ ∀ i s, gs[i]? = some s → Q i s
  | 0, _ => ⟨[], rfl, fun i s h => by simp at h⟩
  | n + 1, h => by
    obtain ⟨gs, h1, h2⟩ := choose_mv n (fun i hi => h i (by omega))
    obtain ⟨s, hs⟩ := h n (by omega)
    refine ⟨gs ++ [s], by simp [h1], fun i t ht => ?_⟩
    by_cases hi : i < n
    · rw [List.getElem?_append_left (by omega)] at ht; exact h2 i t ht
    · rw [List.getElem?_append_right (by omega)] at ht
      have hi2 : i - gs.length = 0 := by
        by_cases hz : i - gs.length = 0
        · exact hz
        · rw [List.getElem?_eq_none (by simp; omega)] at ht; cases ht
      rw [hi2] at ht
      have e : i = n := by omega
      injection ht with ht
      subst ht e; exact hs
set_option maxRecDepth 100000 in
theorem mvs_trod {H : Type} {enc : TypeId × Value → H} {w : World} {base fuel : Nat} {held : Bool} {cs : List Value} {x : DataW H × List MemPlace}
    (h : DataW.trod enc Try.prog w base (fun _ => true) held fuel 47 cs = some x) : cs = [.slice none 0 0] ∨ ∃ a len cap gs, cs = [.slice (some a) len cap] ∧ len = gs.length ∧ MvIn w w.heap.size (some a) gs := by
  rcases open_slice Try.underlying47 h with ⟨hcs, _⟩ | ⟨a, len, cap, m, n, D, Pl, hcs, _, hl, hm, hmm, _, hall⟩
  · exact .inl hcs
  right
  have hcc : Try.prog.cellsOf 57 = 3 := by kernel_rfl
  have c3 : Try.prog.cellsOf 3 = 1 := by kernel_rfl
  have c4 : Try.prog.cellsOf 4 = 1 := by kernel_rfl
  rw [hcc] at hall
  have key : ∀ i, i < len → ∃ s : Mv, ∀ j u, (mvc s)[j]? = some u → w.cell? ((a.add (i * 3)).add j) = some u := by
    intro i hi
    obtain ⟨cs', g1, g2⟩ := hall i (by rw [hmm]; split <;> omega)
    obtain ⟨_, hlen, hcell⟩ := World.cells?_some g1
    obtain ⟨y0, y1, y2, k, _, _, t0, t1, t2⟩ := trod_struct3 Try.underlying57 g2
    match cs', hlen with
    | [v0, v1, v2], _ =>
      simp [c3, c4] at t0 t1 t2
      obtain ⟨p, e0, _, _⟩ := DataW.trod_int Try.underlying3 t0
      obtain ⟨q, e1, _, _⟩ := DataW.trod_int Try.underlying3 t1
      obtain ⟨r, e2, _⟩ := DataW.trod_bool Try.underlying4 t2
      have e0 := List.head_eq_of_cons_eq e0
      have e1 := List.head_eq_of_cons_eq e1
      have e2 := List.head_eq_of_cons_eq e2
      subst e0 e1 e2
      refine ⟨⟨p, q, r⟩, fun j u hu => ?_⟩
      have hj : j < 3 := by have := (List.getElem?_eq_some_iff.1 hu).1; simpa [mvc] using this
      exact (hcell j hj).trans hu
  obtain ⟨gs, hl1, hl2⟩ := choose_mv len key
  refine ⟨a, len, cap, gs, hcs, hl1.symm, ?_⟩
  by_cases h0 : len = 0
  · exact .inl (List.length_eq_zero_iff.1 (by omega))
  · right
    obtain ⟨s0, hs0⟩ : ∃ s, gs[0]? = some s := ⟨gs[0]'(by omega), List.getElem?_eq_getElem (by omega)⟩
    have hx0 := hl2 0 s0 hs0 0 _ rfl
    simp only [Nat.zero_mul] at hx0
    have hsp : a.spot = none := by
      unfold World.cell? at hx0
      cases hsp : a.spot with
      | none => rfl
      | some s => simp [Addr.add, hsp] at hx0; split at hx0 <;> simp at hx0
    obtain ⟨b, off, spot⟩ := a
    simp only at hsp
    subst hsp
    refine ⟨b, off, rfl, ?_, fun i s hs j u hu => ?_⟩
    · have := World.block_lt_of_cell? w _ hx0
      simpa [Addr.add_lit] using this
    · have := hl2 i s hs j u hu
      rw [Addr.add_lit, Addr.add_lit] at this
      exact this
end Go.Proofs.Ytlcbpodjmafoeaa
