/- A change of blocks of one kind: what has another kind stays. -/
import Derived.Test.YtoeamofemepgpaaBase
import Derived.Deep.WholeRow
import Derived.Deep.MidRow
import Derived.Deep.RegionHeld3
import Derived.Laws.Rows
import Derived.Laws.Tables
namespace Go.Proofs.Ytoeamofemepgpaa
open Go.RowKit

/-- A message's cells. -/
abbrev mcv (v : Nat → Int) (s : Value) : Array Value := #[.int .i64 (v 0), .int .i64 (v 1), .int .i64 (v 2), .int .i64 (v 3), .int .i64 (v 4), .int .i64 (v 5), .int .i64 (v 6), .int .i64 (v 7), .int .i64 (v 8), .int .i64 (v 9), .int .i64 (v 10), .int .i64 (v 11), .int .i64 (v 12), .int .i64 (v 13), .int .i64 (v 14), .int .i64 (v 15), .int .i64 (v 16), s, .int .i64 (v 18), .int .i64 (v 19), .int .i64 (v 20)]
/-- The kind of a block: its elements' type. -/
def otag : Obj → Nat
  | .cells _ t _ => t + 1
  | _ => 0
/-- One block at most has changed, and new ones have come; it had the kind τ. -/
structure Ch (row : Option Nat) (τ : Nat) (w w' : World) : Prop where
  chg : Chg (fun k => row = some k) w w'
  tg : ∀ k, row = some k → ∃ o, w.heap[k]? = some o ∧ otag o = τ
namespace Ch
variable {row : Option Nat} {τ : Nat} {w w' w'' : World}
theorem blk (h : Ch row τ w w') {b : Nat} {o : Obj} (hb : w.heap[b]? = some o) (ht : otag o ≠ τ) : w'.heap[b]? = some o := by
  have hlt : b < w.heap.size := (Array.getElem?_eq_some_iff.1 hb).1
  refine (h.chg.block b hlt (fun hs => ?_)).trans hb
  obtain ⟨o', h1, h2⟩ := h.tg b hs
  rw [hb] at h1; injection h1 with h1; subst h1; exact ht h2
theorem blkN (h : Ch row τ w w') {b : Nat} {o : Obj} (hb : w.heap[b]? = some o) (hn : ¬ row = some b) : w'.heap[b]? = some o :=
  (h.chg.block b (Array.getElem?_eq_some_iff.1 hb).1 hn).trans hb
theorem own (h : Ch row τ w w') {base : Nat} {e : TypeId} {size : Nat} {v : Value} {n : Nat} {xs : List Value} (ho : w.ownsRow base e size v n xs) (ht : e + 1 ≠ τ) : w'.ownsRow base e size v n xs := by
  refine h.chg.own ho (fun k hk hs => ?_)
  obtain ⟨cur, f, hh⟩ := own_elem ho hk
  obtain ⟨o', h1, h2⟩ := h.tg k hs
  rw [hh] at h1; injection h1 with h1; subst h1; exact ht h2
theorem ownN (h : Ch row τ w w') {base : Nat} {e : TypeId} {size : Nat} {v : Value} {n : Nat} {xs : List Value} (ho : w.ownsRow base e size v n xs) (hn : ∀ k, row = some k → k < base) : w'.ownsRow base e size v n xs :=
  h.chg.own ho (fun k hk hs => by have := hn k hs; have := (ho.lt k hk).1; omega)
theorem below (h : Ch row τ w w') {B : Nat} {w0 : World} (hB : Below B w0 w) (hle : B ≤ w.heap.size) (hlow : ∀ k, row = some k → B ≤ k) : Below B w0 w' :=
  hB.trans (h.chg.below hle (fun k hk hs => by have := hlow k hs; omega))
theorem low (h : Ch row τ w w') {B : Nat} {w0 : World} (hB : Chg (fun k => B ≤ k) w0 w) (hlow : ∀ k, row = some k → B ≤ k) : Chg (fun k => B ≤ k) w0 w' :=
  hB.trans ((h.chg.mono (fun k _ hk => hlow k hk)).mono (fun _ _ h => h))
theorem cells (h : Ch row τ w w') {B size m : Nat} {A : Option Addr} {xs : List Value} (hc : CellsIn w B size A m xs) (hlow : ∀ k, row = some k → B ≤ k) : CellsIn w' B size A m xs := by
  refine ⟨hc.len, ?_⟩
  rcases hc.rd with e | ⟨b, off, e, hb, hr⟩
  · exact .inl e
  · exact .inr ⟨b, off, e, hb, fun j u hu => h.chg.cell (hr j u hu) (fun hs => by have := hlow _ hs; have : b < B := hb; simp at *; omega)⟩
theorem grown (h : Ch row τ w w') : w.grownBy w' row := ⟨h.chg.os, h.chg.tape, h.chg.output, h.chg.size, fun k hk hne => h.chg.block k hk (fun e => hne e.symm)⟩
theorem ne (h : Ch row τ w w') {b : Nat} {o : Obj} (hb : w.heap[b]? = some o) (ht : otag o ≠ τ) : some b ≠ row := fun e => by
  obtain ⟨o', h1, h2⟩ := h.tg b e.symm
  rw [hb] at h1; injection h1 with h1; subst h1; exact ht h2
end Ch
theorem Ch.ofCell {w : World} {P i : Nat} {cs : Array Value} {t : TypeId} {f : Nat × Nat} (hP : w.heap[P]? = some (.cells cs t f)) (v : Value) : Ch (some P) (t + 1) w (w.setCell ⟨P, i, none⟩ v) :=
  ⟨(Chg.refl (fun k => some P = some k) w).setCell (p := ⟨P, i, none⟩) (.inr rfl) _, fun _ hk => ⟨_, (by injection hk with hk; exact hk ▸ hP), rfl⟩⟩
theorem Ch.ofRow {w : World} {P : Nat} {cs : Array Value} {t : TypeId} {f : Nat × Nat} (hP : w.heap[P]? = some (.cells cs t f)) (cs' : Array Value) : Ch (some P) (t + 1) w (w.setRow P cs') :=
  ⟨⟨rfl, rfl, rfl, by simp, fun k _ hn => setRow_other w P k cs' (fun e => hn (by rw [e]))⟩, fun _ hk => ⟨_, (by injection hk with hk; exact hk ▸ hP), rfl⟩⟩
theorem Ch.ofOwn {w w' : World} {base : Nat} {e : TypeId} {size : Nat} {v : Value} {n : Nat} {xs : List Value} (ho : w.ownsRow base e size v n xs) (hg : w.grownBy w' v.ownBlock) : Ch v.ownBlock (e + 1) w w' :=
  ⟨(Chg.refl _ w).grown hg (fun k hk => .inr hk), fun k hk => by obtain ⟨cur, f, hh⟩ := own_elem ho hk; exact ⟨_, hh, rfl⟩⟩
theorem Ch.ofMap {w w' : World} {M : Nat} (hm : ∃ es clock, w.heap[M]? = some (.map es clock)) (hg : w.grownBy w' (some M)) : Ch (some M) 0 w w' :=
  ⟨(Chg.refl _ w).grown hg (fun k hk => .inr hk), fun k hk => by obtain ⟨es, c, hm⟩ := hm; injection hk with hk; exact ⟨_, hk ▸ hm, rfl⟩⟩
theorem Ch.ofChg {w w' : World} {P : Nat} {cs : Array Value} {t : TypeId} {f : Nat × Nat} (hP : w.heap[P]? = some (.cells cs t f)) (hc : Chg (fun k => k = P) w w') : Ch (some P) (t + 1) w w' :=
  ⟨hc.mono (fun k _ hk => by rw [hk]), fun _ hk => ⟨_, (by injection hk with hk; exact hk ▸ hP), rfl⟩⟩
theorem own_lowk {w : World} {base : Nat} {e : TypeId} {size : Nat} {v : Value} {n : Nat} {xs : List Value} (ho : w.ownsRow base e size v n xs) : ∀ k, v.ownBlock = some k → base ≤ k := fun k hk => (ho.lt k hk).1
theorem set_blk {w : World} {P i : Nat} {cs : Array Value} {t : TypeId} {f : Nat × Nat} (hP : w.heap[P]? = some (.cells cs t f)) (v : Value) : (w.setCell ⟨P, i, none⟩ v).heap[P]? = some (.cells (cs.setIfInBounds i v) t f) := by
  simp [World.setCell, Array.getElem?_modify, hP]
theorem alloc_blk {w : World} {b : Nat} {o o' : Obj} (h : w.heap[b]? = some o) : (w.alloc o').heap[b]? = some o := (Below.heap_alloc w o' b (Array.getElem?_eq_some_iff.1 h).1).trans h
theorem alloc_at (w : World) (o : Obj) (k : Nat) (h : w.heap.size = k) : (w.alloc o).heap[k]? = some o := by subst h; exact heap_alloc_new w o
theorem alloc2_first (w : World) (o1 o2 : Obj) : ((w.alloc o1).alloc o2).heap[w.heap.size]? = some o1 := (Below.heap_alloc _ _ _ (by simp)).trans (heap_alloc_new w o1)
theorem alloc2_second (w : World) (o1 o2 : Obj) : ((w.alloc o1).alloc o2).heap[w.heap.size + 1]? = some o2 := by simpa using heap_alloc_new (w.alloc o1) o2
theorem setRow_alloc2_first (w : World) (c c' : Array Value) (t : TypeId) (o : Obj) : ((w.alloc (.cells c t)).alloc o).setRow w.heap.size c' = (w.alloc (.cells c' t)).alloc o := by
  have h := World.setRow_alloc_new w c c' t
  have h2 : ((w.alloc (.cells c t)).alloc o).setRow w.heap.size c' = ((w.alloc (.cells c t)).setRow w.heap.size c').alloc o := by
    simp only [World.setRow, World.alloc]
    congr 1
    apply Array.ext_getElem?
    intro i
    simp only [Array.getElem?_modify, Array.getElem?_push, Array.size_modify, Array.size_push]
    by_cases h : i = w.heap.size + 1
    · subst h
      simp
    · simp [h]
  rw [h2, h]
theorem setRow_alloc2_second (w : World) (c c' : Array Value) (t : TypeId) (o : Obj) : ((w.alloc o).alloc (.cells c t)).setRow (w.heap.size + 1) c' = (w.alloc o).alloc (.cells c' t) := by
  have h := World.setRow_alloc_new (w.alloc o) c c' t
  simpa using h
def putAll : Array Value → Nat → List Value → Array Value
  | cs, _, [] => cs
  | cs, o, v :: r => putAll (cs.setIfInBounds o v) (o + 1) r
theorem setCells_blk {P : Nat} {t : TypeId} {f : Nat × Nat} : ∀ (vs : List Value) (o : Nat) (cs : Array Value) (w : World), w.heap[P]? = some (.cells cs t f) → (w.setCells P o vs).heap[P]? = some (.cells (putAll cs o vs) t f)
  | [], _, _, _, h => h
  | v :: r, o, cs, _, h => setCells_blk r (o + 1) (cs.setIfInBounds o v) _ (set_blk h v)
theorem Ch.ofCells {P : Nat} {t : TypeId} {f : Nat × Nat} : ∀ (vs : List Value) (o : Nat) (cs : Array Value) (w : World), w.heap[P]? = some (.cells cs t f) → Ch (some P) (t + 1) w (w.setCells P o vs)
  | [], _, _, w, h => ⟨Chg.refl _ w, fun _ hk => ⟨_, (by injection hk with hk; exact hk ▸ h), rfl⟩⟩
  | v :: r, o, cs, w, h => ⟨(Ch.ofCell (i := o) h v).chg.trans (Ch.ofCells r (o + 1) _ _ (set_blk h v)).chg, fun _ hk => ⟨_, (by injection hk with hk; exact hk ▸ h), rfl⟩⟩
theorem there_blk {w : World} {P : Nat} {cs : Array Value} {t : TypeId} (h : w.heap[P]? = some (.cells cs t (0, 0))) (o n : Nat) (hn : o + n ≤ cs.size) : w.there P o n := fun j hj => by
  have hv : cs[o + j]? = some (cs[o + j]'(by omega)) := Array.getElem?_eq_getElem (by omega)
  refine ⟨?_, frozen_of_one h⟩
  simp [World.cell?, h, hv]
theorem row_new2 {A1 A2 : Option Addr} {n c n1 c1 N n' c' j : Nat} (h0 : (Value.slice A1 n1 c1).ownBlock ≠ some j) (hor : (Value.slice A2 n c).ownBlock = (Value.slice A1 n1 c1).ownBlock ∨ (Value.slice A2 n c).ownBlock = some N) (hj : j < N) : (Value.slice A2 n' c').ownBlock ≠ some j := by
  intro e
  have e' : (Value.slice A2 n c).ownBlock = some j := by
    cases A2 with
    | none => cases e
    | some a => exact e
  rcases hor with h | h
  · exact h0 (h.symm.trans e')
  · rw [h] at e'; injection e' with e'; omega
theorem cutC {C G : Prop} (h : Shut C → G) (hc : C) : G := h hc
theorem cellsIn_blk {w : World} {b : Nat} {cs : List Value} {e : TypeId} {f : Nat × Nat} (hb : w.heap[b]? = some (.cells cs.toArray e f)) (size m : Nat) (h : cs.length = m * size) : CellsIn w w.heap.size size (some ⟨b, 0, none⟩) m cs := by
  refine ⟨h, .inr ⟨b, 0, rfl, (Array.getElem?_eq_some_iff.1 hb).1, fun j u hu => ?_⟩⟩
  simp only [World.cell?, hb, Nat.zero_add, Option.isSome_none, Bool.false_eq_true, if_false]
  simpa using hu
end Go.Proofs.Ytoeamofemepgpaa
