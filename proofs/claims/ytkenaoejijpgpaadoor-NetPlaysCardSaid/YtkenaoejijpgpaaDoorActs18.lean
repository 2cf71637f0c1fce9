/- A script of acts that came in. -/
import Derived.Test.YtkenaoejijpgpaaDoorActTrod18
namespace Go.Proofs.YtkenaoejijpgpaaDoor
open Go.RowKit Go.Deep Go.ChangeShapes

structure Ac where
  kd : Int
  ix : Int
  to_ : Int
  bit : Int
  A : Option Addr
  n : Nat
  c : Nat
  l : List UInt8
structure ActAt (w : World) (B bb off : Nat) (a : Ac) : Prop where
  k0 : w.cell? ⟨bb, off, none⟩ = some (.int .i64 a.kd)
  k1 : w.cell? ⟨bb, off + 1, none⟩ = some (.int .i64 a.ix)
  k2 : w.cell? ⟨bb, off + 2, none⟩ = some (.int .i64 a.to_)
  k3 : w.cell? ⟨bb, off + 3, none⟩ = some (.int .i64 a.bit)
  k4 : w.cell? ⟨bb, off + 4, none⟩ = some (.slice a.A a.n a.c)
  by_ : BytesIn w B a.A a.c a.l
  ln : a.n = a.l.length
  bt : a.bit ≤ 9223372036854775807
  lt : bb < B
theorem ActAt.below {w w' : World} {B bb off : Nat} {a : Ac} (h : ActAt w B bb off a) (hb : Below B w w') : ActAt w' B bb off a := by
  have k : ∀ i v, w.cell? ⟨bb, i, none⟩ = some v → w'.cell? ⟨bb, i, none⟩ = some v := fun i v hv => (hb.cell (p := ⟨bb, i, none⟩) h.lt).trans hv
  exact ⟨k _ _ h.k0, k _ _ h.k1, k _ _ h.k2, k _ _ h.k3, k _ _ h.k4, h.by_.below hb (Nat.le_refl _), h.ln, h.bt, h.lt⟩
def ActsIn (w : World) (B : Nat) (A : Option Addr) (gs : List Ac) : Prop :=
  gs = [] ∨ ∃ bb off, A = some ⟨bb, off, none⟩ ∧ ∀ i a, gs[i]? = some a → ActAt w B bb (off + i * 5) a
theorem ActsIn.at_ {w : World} {B : Nat} {A : Option Addr} {gs : List Ac} (h : ActsIn w B A gs) {i : Nat} (hi : i < gs.length) : ∃ bb off a, A = some ⟨bb, off, none⟩ ∧ gs[i]? = some a ∧ ActAt w B bb (off + i * 5) a := by
  rcases h with e | ⟨bb, off, e, h⟩
  · subst e; simp at hi
  · exact ⟨bb, off, gs[i], e, List.getElem?_eq_getElem hi, h i _ (List.getElem?_eq_getElem hi)⟩
theorem add_add3 (a : Addr) (i j : Nat) : (a.add i).add j = a.add (i + j) := by
  unfold Addr.add
  by_cases h1 : i = 0 <;> by_cases h2 : j = 0 <;> simp [h1, h2, Nat.add_assoc]
theorem acts_open {w : World} {x : Addr} {len : Nat} (h : ∀ i, i < len → ∃ a : Ac, ∀ bb off, x = ⟨bb, off, none⟩ → ActAt w w.heap.size bb (off + i * 5) a) (hs : 0 < len → ∃ v, w.cell? x = some v) :
    ∃ gs : List Ac, len = gs.length ∧ ActsIn w w.heap.size (some x) gs := by
  by_cases h0 : len = 0
  · exact ⟨[], h0, .inl rfl⟩
  obtain ⟨v, hx0⟩ := hs (by omega)
  have hs : x.spot = none := by
    unfold World.cell? at hx0
    cases hsp : x.spot with
    | none => rfl
    | some s => simp [hsp] at hx0; split at hx0 <;> simp at hx0
  obtain ⟨b, off, spot⟩ := x
  simp only at hs
  subst hs
  have hg : ∀ n, n ≤ len → ∃ gs : List Ac, n = gs.length ∧ ∀ i a, gs[i]? = some a → ActAt w w.heap.size b (off + i * 5) a := by
    intro n
    induction n with
    | zero => intro _; exact ⟨[], rfl, fun i a hi => by simp at hi⟩
    | succ n ih =>
      intro hn
      obtain ⟨gs, hl, hgs⟩ := ih (by omega)
      obtain ⟨a, ha⟩ := h n (by omega)
      refine ⟨gs ++ [a], by simp [hl], fun i a' hi => ?_⟩
      by_cases e : i < gs.length
      · rw [List.getElem?_append_left e] at hi
        exact hgs i a' hi
      · have e : i = gs.length := by
          have := (List.getElem?_eq_some_iff.1 hi).1
          simp at this; omega
        subst e
        simp at hi
        subst hi
        rw [← hl]
        exact ha b off rfl
  obtain ⟨gs, hl, hgs⟩ := hg len (Nat.le_refl _)
  exact ⟨gs, hl, .inr ⟨b, off, rfl, hgs⟩⟩

set_option maxHeartbeats 1000000 in
theorem acts_trod {H : Type} {enc : TypeId × Value → H} {w : World} {base fuel : Nat} {held : Bool} {cs : List Value} {x : DataW H × List MemPlace}
    (h : DataW.trod enc Tryd.prog w base (fun _ => true) held fuel 48 cs = some x) : cs = [.slice none 0 0] ∨ ∃ a len cap gs, cs = [.slice (some a) len cap] ∧ len = gs.length ∧ ActsIn w w.heap.size (some a) gs := by
  rcases open_slice Tryd.underlying48 h with ⟨hcs, _⟩ | ⟨a, len, cap, m, n, D, Pl, hcs, _, hl, hm, hmm, _, hall⟩
  · exact .inl hcs
  right
  have hcc : Tryd.prog.cellsOf 51 = 5 := by kernel_rfl
  rw [hcc] at hall
  have key : ∀ i, i < len → ∃ act : Ac, (∃ v, w.cell? (a.add (i * 5)) = some v) ∧ ∀ bb off, a = ⟨bb, off, none⟩ → ActAt w w.heap.size bb (off + i * 5) act := by
    intro i hi
    obtain ⟨cs', g1, g2⟩ := hall i (by rw [hmm]; split <;> omega)
    obtain ⟨_, hlen, hcell⟩ := World.cells?_some g1
    match cs', hlen with
    | [v0, v1, v2, v3, v4], _ =>
      obtain ⟨kd, ix, to_, bit, A, n, c, l, f0, f1, f2, f3, f4, hn, hb, hbt⟩ := act_trod g2
      subst f0 f1 f2 f3 f4
      have q0 := hcell 0 (by omega)
      have q1 := hcell 1 (by omega)
      have q2 := hcell 2 (by omega)
      have q3 := hcell 3 (by omega)
      have q4 := hcell 4 (by omega)
      rw [add_add3] at q0 q1 q2 q3 q4
      refine ⟨⟨kd, ix, to_, bit, A, n, c, l⟩, ⟨_, by simpa using q0⟩, ?_⟩
      rintro bb off rfl
      rw [Addr.add_lit] at q0 q1 q2 q3 q4
      exact ⟨by simpa using q0, by simpa [Nat.add_assoc] using q1, by simpa [Nat.add_assoc] using q2, by simpa [Nat.add_assoc] using q3, by simpa [Nat.add_assoc] using q4, hb, hn, hbt, World.block_lt_of_cell? w _ q0⟩
  obtain ⟨gs, h1, h2⟩ := acts_open (w := w) (x := a) (len := len) (fun i hi => by obtain ⟨act, _, h⟩ := key i hi; exact ⟨act, h⟩) (fun h0 => by
    obtain ⟨_, ⟨v, hv⟩, _⟩ := key 0 h0
    exact ⟨v, by simpa [Addr.add] using hv⟩)
  exact ⟨a, len, cap, gs, hcs, h1, h2⟩
end Go.Proofs.YtkenaoejijpgpaaDoor
