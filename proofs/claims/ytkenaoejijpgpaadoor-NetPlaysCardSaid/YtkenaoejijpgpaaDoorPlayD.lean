/- An act over a network and over the document's row: what both have in common. -/
import Derived.Test.YtkenaoejijpgpaaDoorPlay0
import Derived.Deep.Cut
namespace Go.Proofs.YtkenaoejijpgpaaDoor
open Go.RowKit

def absP (p : Pv) : Int × List UInt8 := (p.to_, p.l)
def GoodL (l : List Pv) : Prop := l.length ≤ 1000 ∧ ∀ p ∈ l, p.l.length ≤ 1000
/-- Both are the same. -/
structure Both (w : World) (S B N : Nat) (LA : Option Addr) (Lc : Nat) (A : Option Addr) (n c : Nat) (l : List Pv) : Prop where
  net : NAt w B N LA Lc l
  row : RL w S A n c (l.map absP)
  good : GoodL l
namespace Both
variable {w w' : World} {S B N Lc n c : Nat} {LA A : Option Addr} {l : List Pv}
theorem below (h : Both w S B N LA Lc A n c l) (hb : Below w.heap.size w w') : Both w' S B N LA Lc A n c l := ⟨h.net.below hb, h.row.below hb, h.good⟩
theorem len (h : Both w S B N LA Lc A n c l) : n = l.length := by have := h.row.1; rwa [List.length_map] at this
theorem size (h : Both w S B N LA Lc A n c l) : B ≤ w.heap.size := Nat.le_trans h.net.lN (Nat.le_of_lt h.net.lt)
theorem pk (h : Both w S B N LA Lc A n c l) {j : Nat} {p : Pv} (hp : l[j]? = some p) : ∃ b, A = some ⟨b, 0, none⟩ ∧ b < w.heap.size ∧ w.cell? ⟨b, j * 2, none⟩ = some (.int .i64 p.to_) ∧ w.cell? ⟨b, j * 2 + 1, none⟩ = some (.string (str p.l)) := by
  obtain ⟨b, h1, _, h2, h3, h4, _⟩ := h.row.pk (j := j) (p := absP p) (by rw [List.getElem?_map, hp]; rfl)
  exact ⟨b, h1, h2, h3, h4⟩
end Both
/-- What an act leaves behind. -/
def DoneTo (w : World) (S B N : Nat) (e : Ending) (w' : World) : Prop :=
  ∃ LA Lc A n c l, e = .returned (.tuple #[.slice A n c, .bool true]) ∧ Both w' S B N LA Lc A n c l ∧ Below S w w'
theorem Both.same {w w' : World} {S B N Lc n c : Nat} {LA A : Option Addr} {l : List Pv} (h : Both w' S B N LA Lc A n c l) (hb : Below S w w') : DoneTo w S B N (.returned (.tuple #[.slice A n c, .bool true])) w' := ⟨LA, Lc, A, n, c, l, rfl, h, hb⟩
end Go.Proofs.YtkenaoejijpgpaaDoor
