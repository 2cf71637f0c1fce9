/- Rows of bytes that came in. -/
import Derived.Test.YtpkefkoimlecjaaDisk
import Derived.Deep.Matrix
namespace Go.Proofs.Ytpkefkoimlecjaa
open Go.RowKit

/-- Rows of bytes that are read. -/
def RowsIn (w : World) (B : Nat) (vs : List Value) (ls : List (List UInt8)) : Prop :=
  vs.length = ls.length ∧ ∀ i (h : i < ls.length), ∃ A c, vs[i]? = some (.slice A ls[i].length c) ∧ BytesIn w B A c ls[i]
theorem RowsIn.below {w w' : World} {B B' : Nat} {vs : List Value} {ls : List (List UInt8)} (h : RowsIn w B vs ls) (hb : Below B' w w') (hB : B ≤ B') : RowsIn w' B vs ls :=
  ⟨h.1, fun i hi => by obtain ⟨A, c, h1, h2⟩ := h.2 i hi; exact ⟨A, c, h1, h2.below hb hB⟩⟩
theorem RowsIn.more {w : World} {B B' : Nat} {vs : List Value} {ls : List (List UInt8)} (h : RowsIn w B vs ls) (hB : B ≤ B') : RowsIn w B' vs ls :=
  ⟨h.1, fun i hi => by obtain ⟨A, c, h1, h2⟩ := h.2 i hi; exact ⟨A, c, h1, h2.more hB⟩⟩

theorem addr_plain {w : World} {x : Addr} {v : Value} (h : w.cell? x = some v) : ∃ b off, x = ⟨b, off, none⟩ ∧ b < w.heap.size := by
  have hs : x.spot = none := by
    unfold World.cell? at h
    cases hsp : x.spot with
    | none => rfl
    | some s => simp [hsp] at h; split at h <;> simp at h
  obtain ⟨b, off, spot⟩ := x
  simp only at hs
  subst hs
  exact ⟨b, off, rfl, World.block_lt_of_cell? w _ h⟩
theorem rowsIn_open {w : World} {a : Addr} {len cap base : Nat} {A : Nat → Option Addr} {L C : Nat → Nat} {Z : Nat → List Int} (hl : len ≤ cap)
    (h : ∀ r, r < cap → w.cell? (a.add r) = some (.slice (A r) (L r) (C r)) ∧ L r ≤ C r ∧ C r ≤ maxLen ∧ (Z r).length = C r ∧ (∀ n ∈ Z r, (Lit.int .u8 n).wf = true) ∧ (A r = none → C r = 0) ∧
        ∀ a', A r = some a' → base ≤ a'.block ∧ ∀ c, c < C r → w.cell? (a'.add c) = some (.int .u8 ((Z r).getD c 0))) :
    ∃ (vs : List Value) (ls : List (List UInt8)), CellsIn w w.heap.size 1 (some a) len vs ∧ RowsIn w w.heap.size vs ls ∧ len = ls.length := by
  have each : ∀ r, r < len → ∃ l : List UInt8, L r = l.length ∧ BytesIn w w.heap.size (A r) (C r) l := by
    intro r hr
    obtain ⟨_, h2, h3, h4, h5, h6, h7⟩ := h r (by omega)
    cases hA : A r with
    | none =>
      have := h6 hA
      exact ⟨[], by simp; omega, .emp (by omega)⟩
    | some a' => exact bytesIn_open h2 h3 h4 (fun i hi => (h7 a' hA).2 i (by omega)) h5
  obtain ⟨f, hf⟩ := Go.Deep.choose_lt each
  refine ⟨(List.range len).map fun r => .slice (A r) (L r) (C r), (List.range len).map f, ⟨by simp, ?_⟩, ⟨by simp, fun i hi => ?_⟩, by simp⟩
  · by_cases h0 : len = 0
    · left; simp [h0]
    · right
      obtain ⟨b, off, e, hb⟩ := addr_plain (h 0 (by omega)).1
      have e0 : a.add 0 = a := by unfold Addr.add; simp
      rw [e0] at e
      subst e
      refine ⟨b, off, rfl, hb, fun j u hu => ?_⟩
      have hj : j < len := by have := (List.getElem?_eq_some_iff.1 hu).1; simpa using this
      have h1 := (h j (by omega)).1
      rw [Addr.add_lit] at h1
      rw [h1, ← hu]
      simp [hj]
  · simp only [List.length_map, List.length_range] at hi
    obtain ⟨e1, e2⟩ := hf i hi
    refine ⟨A i, C i, ?_, ?_⟩
    · simp [hi, e1]
    · simpa using e2
end Go.Proofs.Ytpkefkoimlecjaa
