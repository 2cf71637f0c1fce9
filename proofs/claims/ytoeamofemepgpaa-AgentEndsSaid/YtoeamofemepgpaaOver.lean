/- A range over a function, by positions: the iterator's word, and the statement's law, where the body never leaves. -/
import Derived.Test.YtoeamofemepgpaaBase
import Derived.RangeFuncIn
import Derived.RangeFuncRecord
import Derived.RangeFuncSeq
namespace Go.Proofs.Ytoeamofemepgpaa
open Go.RowKit

/-- An iterator over N positions: what it reads at each (`Rd`: some: it hands over these; none: it passes on), and a round for what it hands over. -/
def Iter (P : Program) (g : Nat) (lb : Array Value) (N : Nat) (R0 : World → Prop) (Rd : Nat → World → Option (Array Value) → Prop) : Prop :=
  ∀ (n l : Nat) (J : Nat → World → Prop) (W : World),
    (∀ i W, J i W → J i W.drew) → (∀ i W, J i W → R0 W) →
    (∀ i W, J i W → i < N → (Rd i W none ∧ J (i + 1) W) ∨ ∃ vs, Rd i W (some vs) ∧ YieldAt Fence.wide n P l vs W (fun e W' => e = .returned (.bool true) ∧ J (i + 1) W')) →
    J 0 W → CallsIn Fence.wide (n + 1) P g (#[.func (.yield l) #[] #[]] ++ lb) W fun e W' => (∃ v, e = .returned v) ∧ J N W'

theorem putObj_chg {W : World} {B l : Nat} (o : Obj) (h : l = B ∨ l = B + 1) : Chg (fun k => k = B ∨ k = B + 1) W (W.putObj l o) :=
  ⟨rfl, rfl, rfl, by simp, fun k _ hk => World.putObj_heap_other (fun e => hk (by subst e; exact h))⟩

/-- The two blocks of book-keeping lie as they lay. -/
def Kept2 (B : Nat) (W W' : World) : Prop := ∀ k, k = B ∨ k = B + 1 → W'.heap[k]? = W.heap[k]?

/-- THE STATEMENT, where the body always goes on. -/
theorem wpIn_over {P : Program} {g : Operand} {ps : Array Tmp} {assign body : Code} {Q : Exit → Act → World → Prop} {a : Act} {w : World} {n gf N : Nat} {lb : Array Value} {R0 : World → Prop} {Rd : Nat → World → Option (Array Value) → Prop}
    (hg : a.eval g = .func (.func gf) #[] lb) (eg : ∀ args w, (callFunc gf args).run P w = .ok (.enter gf args) w) (hit : Iter P gf lb N R0 Rd)
    (I : Nat → World → Prop) (hI : ∀ i W W', I i W → Chg (fun k => k = w.heap.size ∨ k = w.heap.size + 1) W W' → I i W') (h0 : I 0 w) (hR0 : ∀ i W, I i W → R0 W)
    (hps : ∀ i W vs, Rd i W (some vs) → vs.size = ps.size)
    (hround : ∀ i W, I i W → i < N → w.heap.size + 1 < W.heap.size → (Rd i W none ∧ I (i + 1) W) ∨ ∃ vs, Rd i W (some vs) ∧
      assign.wpIn (Fence.wide.inRound (w.heap.size + 1)) n P (Exit.then (fun a₁ w₁ => w₁ = W ∧ ∀ W2, Chg (fun k => k = w.heap.size ∨ k = w.heap.size + 1) W W2 →
        body.wpIn (Fence.wide.inRound (w.heap.size + 1)) n P (fun e _ W' => e = .normal ∧ I (i + 1) W' ∧ Kept2 w.heap.size W2 W') a₁ W2) (fun _ _ _ => False))
        { tmps := (ps.zip vs).foldl (fun t (p, v) => t.setIfInBounds p v) a.tmps, defers := [] } W)
    (hdone : ∀ W, I N W → W.heap[w.heap.size]? = some (.deferred (some [])) → Q .normal { a with defers := { target := .collected w.heap.size, args := #[] } :: a.defers } W) :
    (Code.rangeFunc g ps assign body).wpIn Fence.wide (n + 2) P Q a w := by
  refine wpIn_rangeFunc fun fn _ => ?_
  obtain ⟨L, hL⟩ : ∃ L : LoopState → Option Code → Loop, L = fun st pe => { state := st, pending := pe, fn, tmps := a.tmps, params := ps, assign, body, defers := w.heap.size } := ⟨_, rfl⟩
  obtain ⟨W1, hW1⟩ : ∃ W1, W1 = (w.alloc (.deferred (some []))).alloc (.loop (L .ready none)) := ⟨_, rfl⟩
  have hl1 : W1.heap[w.heap.size + 1]? = some (.loop (L .ready none)) := by
    rw [hW1]; have := World.alloc_heap_new (w.alloc (.deferred (some []))) (.loop (L .ready none)); rwa [World.size_alloc] at this
  have hk1 : W1.heap[w.heap.size]? = some (.deferred (some [])) := by
    rw [hW1]; exact (Below.heap_alloc _ _ _ (by simp)).trans (World.alloc_heap_new w _)
  have hi1 : I 0 W1 := hI 0 w W1 h0 (by rw [hW1]; exact ((Chg.refl _ w).alloc _).alloc _)
  refine ⟨w.heap.size + 1, [{ target := .collected w.heap.size, args := #[] }], W1, { target := .fn (.func gf) lb, args := #[.func (.yield (w.heap.size + 1)) #[] #[]] }, W1, gf,
    #[.func (.yield (w.heap.size + 1)) #[] #[]] ++ lb, W1, ?_, ?_, fun _ _ => trivial, ?_, fun h => (by simp [Fence.wide] at h), ?_⟩
  · rw [hW1, hL]; exact run_enterLoop_outer _ _ _ _ _
  · simp only [resolve, hg]
    simp [go_sem]
  · simp [invoke, go_sem, eg]
  refine (hit n (w.heap.size + 1) (fun i W => I i W ∧ W.heap[w.heap.size + 1]? = some (.loop (L .ready none)) ∧ W.heap[w.heap.size]? = some (.deferred (some []))) W1 (fun i W h => ⟨hI i W _ h.1 (Chg.refl _ W).drew, h.2⟩) (fun i W h => hR0 i W h.1) ?_ ⟨hi1, hl1, hk1⟩).mono ?_
  · rintro i W ⟨hi, hl, hk⟩ hlt
    rcases hround i W hi hlt (Array.getElem?_eq_some_iff.1 hl).1 with ⟨h1, h2⟩ | ⟨vs, h1, h2⟩
    · exact .inl ⟨h1, h2, hl, hk⟩
    · refine .inr ⟨vs, h1, ?_⟩
      have hy := run_yield (P := P) (args := vs) hl (by rw [hL]; exact hps i W vs h1)
      refine ⟨_, _, _, _, hy, ?_⟩
      rw [hL]
      refine roundIn_of_wpIn trivial (wpIn_mono h2 ?_)
      rintro e a' W' he
      cases e with
      | normal =>
        obtain ⟨rfl, hb⟩ := he
        have hlw : w.heap.size + 1 < W'.heap.size := (Array.getElem?_eq_some_iff.1 hl).1
        refine ⟨_, run_beginRound hl (by rw [hL]), wpIn_mono (hb _ (putObj_chg _ (.inr rfl))) ?_⟩
        rintro e2 a2 W3 ⟨rfl, hi3, hkeep⟩
        have hl3 := (hkeep _ (.inr rfl)).trans (World.putObj_heap_same hlw)
        have hk3 := (hkeep _ (.inl rfl)).trans ((World.putObj_heap_other (by omega)).trans hk)
        have hlw3 : w.heap.size + 1 < W3.heap.size := (Array.getElem?_eq_some_iff.1 hl3).1
        refine ⟨_, _, run_endRound none hl3, rfl, hI _ _ _ hi3 (putObj_chg _ (.inr rfl)), ?_, (World.putObj_heap_other (by omega)).trans hk3⟩
        rw [World.putObj_heap_same hlw3, hL]
        rfl
      | _ => exact he.elim
  · rintro e W2 ⟨⟨v, rfl⟩, hi, hl, hk⟩
    refine ⟨none, W2.putObj (w.heap.size + 1) (.loop { L .ready none with state := .exhausted }), ?_, ?_⟩
    · have := run_endLoop (P := P) hl (by rw [hL]; simp)
      rw [this, hL]
    · exact hdone _ (hI _ _ _ hi (putObj_chg _ (.inr rfl))) ((World.putObj_heap_other (by omega)).trans hk)
end Go.Proofs.Ytoeamofemepgpaa
