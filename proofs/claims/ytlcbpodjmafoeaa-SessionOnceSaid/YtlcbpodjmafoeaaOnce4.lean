/- A pair: the server is asked. -/
import Derived.Test.YtlcbpodjmafoeaaOnce3
import Derived.Test.YtlcbpodjmafoeaaServ0
import Derived.Deep.CutRange
namespace Go.Proofs.Ytlcbpodjmafoeaa
open Go.RowKit

def WfM (l : List Mg) : Prop := ∀ m ∈ l, (Lit.int .i64 (m.v 15)).wf = true
theorem wf0 : (Lit.int .i64 0).wf = true := rfl
/-- What a look tells a pair. -/
def LookSum (ep : Int) (k : Kp) (v u : Nat → Int) (x : Int) : Prop :=
  (Lit.int .i64 (u 15)).wf = true ∧ (x = 2 → v 0 = 7 ∧ v 1 = ep ∧ k.q < v 16) ∧
  (x = 1 → v 0 = 7 ∧ u 0 = 8 ∧ u 1 = ep ∧ u 16 = v 16 ∧ (u 18 = 190 ∨ (v 1 = ep ∧ k.q = v 16 ∧ u 18 = k.a))) ∧ (x = 0 ∨ x = 1 ∨ x = 2)
theorem lookrep_sum {ep cl sq a b c : Int} {e : Ending} (k : Kp) (v : Nat → Int) (h : LookRep ep cl sq a b c e) (hw : (Lit.int .i64 cl).wf = true) (h7 : v 0 = 7) (hs : sq = v 16) (ha : a = 190 ∨ (v 1 = ep ∧ k.q = v 16 ∧ a = k.a)) : ∃ x u, LForm e x u ∧ LookSum ep k v u x := by
  obtain ⟨q, _, he⟩ := h
  cases q
  · exact ⟨0, fun _ => 0, he, wf0, fun h => (by cases h), fun h => (by cases h), .inl rfl⟩
  · exact ⟨1, repV ep cl sq a b c, he, hw, fun h => (by cases h), fun _ => ⟨h7, rfl, rfl, hs, ha⟩, .inr (.inl rfl)⟩
theorem look_sum {ep : Int} {f : Int → Kp} {v : Nat → Int} {n : Nat} {last a b d : Int} {e : Ending} (h : Look1 ep f v n last a b d e) (hw : (Lit.int .i64 (v 15)).wf = true) : ∃ x u, LForm e x u ∧ LookSum ep (lookK (f (v 15)) last a b d) v u x := by
  rcases h with ⟨_, h⟩ | ⟨⟨h7, _⟩, h⟩
  · exact ⟨0, fun _ => 0, h, wf0, fun h => (by cases h), fun h => (by cases h), .inl rfl⟩
  · unfold LookPost at h
    split at h
    · rename_i h1
      split at h
      · rename_i h2; exact ⟨2, fun _ => 0, h, wf0, fun _ => ⟨h7, h1, h2⟩, fun h => (by cases h), .inr (.inr rfl)⟩
      · rename_i h2
        split at h
        · exact ⟨0, fun _ => 0, h, wf0, fun h => (by cases h), fun h => (by cases h), .inl rfl⟩
        · rename_i h3; exact lookrep_sum _ v h hw h7 rfl (.inr ⟨h1, by omega, rfl⟩)
    · exact lookrep_sum _ v h hw h7 rfl (.inl rfl)
theorem lookK_do {id : Int} {p : Pst} (_ : Inv id p) {t1 t2 s : Int} (hs : 1 ≤ s) (h : (lookK p.k (lastB p.book) p.told t1 t2).q < s) : p.k.q < s ∧ lastB p.book < s := by
  unfold lookK at h
  split at h
  · rename_i hc
    have h : lastB p.book < s := h
    rcases hc with ⟨h1, _⟩ | h1 <;> omega
  · rename_i hc
    have hn : ¬ p.k.q < lastB p.book := fun e => hc (.inr e)
    omega
theorem lookK_rep {id : Int} {p : Pst} (hi : Inv id p) {t1 t2 s : Int} (hs : 1 ≤ s) (h : (lookK p.k (lastB p.book) p.told t1 t2).q = s) :
    ((lookK p.k (lastB p.book) p.told t1 t2).a = 0 → s ∈ p.book) ∧ ((lookK p.k (lastB p.book) p.told t1 t2).a ≠ 0 → s ∉ p.book ∧ s ≤ p.k.q) := by
  unfold lookK at h ⊢
  split
  · rename_i hc
    rw [if_pos hc] at h
    have h : lastB p.book = s := h
    refine ⟨fun _ => ?_, fun e => absurd hi.told e⟩
    rcases hi.lastin with e | e
    · omega
    · rw [← h]; exact e
  · rename_i hc
    rw [if_neg hc] at h
    exact ⟨fun e => h ▸ hi.kgood e (by omega), fun e => ⟨h ▸ hi.kbad e, by omega⟩⟩
/-- The reply that a look tells may lie under way. -/
theorem look_rep {id : Int} {p : Pst} (hi : Inv id p) {v u : Nat → Int} {t1 t2 : Int} (h : LookSum p.ep (lookK p.k (lastB p.book) p.told t1 t2) v u 1) (hv : 1 ≤ v 16) (A : Option Addr) (n c : Nat) : RepIn p ⟨u, A, n, c⟩ ∧ u 0 ≠ 7 := by
  obtain ⟨h7, h8, h1, h16, h18⟩ := h.2.2.1 rfl
  refine ⟨fun _ => ⟨by show 1 ≤ u 16; omega, fun e0 => ?_, fun e190 e0 => ?_, by show u 1 ≤ p.ep; omega⟩, by omega⟩
  · have e0 : u 18 = 0 := e0
    show u 16 ∈ p.book
    rcases h18 with e | ⟨_, e2, e3⟩
    · omega
    · rw [h16]; exact (lookK_rep hi hv e2).1 (by omega)
  · have e0 : u 18 ≠ 0 := e0
    have e190 : u 18 ≠ 190 := e190
    rcases h18 with e | ⟨_, e2, e3⟩
    · exact absurd e e190
    · have h := (lookK_rep hi hv e2).2 (by omega)
      exact .inr ⟨by show u 16 ∉ p.book; rw [h16]; exact h.1, .inr (by show u 16 ≤ p.k.q; omega)⟩
/-- What was done has its reply. -/
theorem Inv.doneRep {id : Int} {p : Pst} (h : Inv id p) (m : Mg) (hmem : m ∈ p.way) (h7 : m.v 0 = 7) (h1 : m.v 1 = p.ep) (hk : p.k.q < m.v 16) (hl : lastB p.book < m.v 16) (well : Bool) (a b c : Int) (ha : a = if well = true then 0 else 140) (kept : Bool) (u : Nat → Int)
    (hu : (if kept = true then (#[.int .i64 8, .int .i64 p.ep, .int .i64 0, .int .i64 0, .int .i64 0, .int .i64 0, .int .i64 0, .int .i64 0, .int .i64 0, .int .i64 0, .int .i64 0, .int .i64 0, .int .i64 0, .int .i64 0, .int .i64 0, .int .i64 id, .int .i64 ((m.v 16)), .slice none 0 0, .int .i64 a, .int .i64 b, .int .i64 c] : Array Value) else #[.int .i64 0, .int .i64 0, .int .i64 0, .int .i64 0, .int .i64 0, .int .i64 0, .int .i64 0, .int .i64 0, .int .i64 0, .int .i64 0, .int .i64 0, .int .i64 0, .int .i64 0, .int .i64 0, .int .i64 0, .int .i64 0, .int .i64 0, .slice none 0 0, .int .i64 0, .int .i64 0, .int .i64 0]) = #[.int .i64 (u 0), .int .i64 (u 1), .int .i64 (u 2), .int .i64 (u 3), .int .i64 (u 4), .int .i64 (u 5), .int .i64 (u 6), .int .i64 (u 7), .int .i64 (u 8), .int .i64 (u 9), .int .i64 (u 10), .int .i64 (u 11), .int .i64 (u 12), .int .i64 (u 13), .int .i64 (u 14), .int .i64 (u 15), .int .i64 (u 16), .slice none 0 0, .int .i64 (u 18), .int .i64 (u 19), .int .i64 (u 20)]) (way : List Mg) (hw : ∀ y ∈ way, y ∈ p.way) (t1 : Int) (ht : t1 = 0) :
    Inv id { p with k := if kept = true then ⟨m.v 16, a, b, c⟩ else p.k, book := if well = true then p.book ++ [m.v 16] else p.book, way := way ++ [⟨u, none, 0, 0⟩], told := t1 } := by
  subst ht
  have hi := (h.done m hmem h7 h1 hk hl well a b c ha kept).fewer (way := way) hw
  have e : ({ p with k := if kept = true then ⟨m.v 16, a, b, c⟩ else p.k, book := if well = true then p.book ++ [m.v 16] else p.book, way := way, told := 0 } : Pst) = { p with k := if kept = true then ⟨m.v 16, a, b, c⟩ else p.k, book := if well = true then p.book ++ [m.v 16] else p.book, way := way } := by rw [← h.told]
  rw [← e] at hi
  have h16 := (h.asks m hmem h7).2.1
  cases kept
  · have u0 : u 0 = 0 := by have := congrArg (fun c : Array Value => c[0]?) hu; simpa using this.symm
    exact hi.more (m := ⟨u, none, 0, 0⟩) (by show u 0 ≠ 7; omega) (fun e8 => by have e8 : u 0 = 8 := e8; omega)
  · have g (i : Nat) : (#[.int .i64 8, .int .i64 p.ep, .int .i64 0, .int .i64 0, .int .i64 0, .int .i64 0, .int .i64 0, .int .i64 0, .int .i64 0, .int .i64 0, .int .i64 0, .int .i64 0, .int .i64 0, .int .i64 0, .int .i64 0, .int .i64 id, .int .i64 ((m.v 16)), .slice none 0 0, .int .i64 a, .int .i64 b, .int .i64 c] : Array Value)[i]? = (#[.int .i64 (u 0), .int .i64 (u 1), .int .i64 (u 2), .int .i64 (u 3), .int .i64 (u 4), .int .i64 (u 5), .int .i64 (u 6), .int .i64 (u 7), .int .i64 (u 8), .int .i64 (u 9), .int .i64 (u 10), .int .i64 (u 11), .int .i64 (u 12), .int .i64 (u 13), .int .i64 (u 14), .int .i64 (u 15), .int .i64 (u 16), .slice none 0 0, .int .i64 (u 18), .int .i64 (u 19), .int .i64 (u 20)] : Array Value)[i]? := congrArg (fun c : Array Value => c[i]?) hu
    have u0 : u 0 = 8 := by have := g 0; simpa using this.symm
    have u1 : u 1 = p.ep := by have := g 1; simpa using this.symm
    have u16 : u 16 = m.v 16 := by have := g 16; simpa using this.symm
    have u18 : u 18 = a := by have := g 18; simpa using this.symm
    refine hi.more (m := ⟨u, none, 0, 0⟩) (by show u 0 ≠ 7; omega) (fun _ => ⟨by show 1 ≤ u 16; omega, fun e0 => ?_, fun e190 e0 => ?_, by show u 1 ≤ p.ep; omega⟩)
    · have e0 : u 18 = 0 := e0
      have hw : well = true := by
        cases well
        · rw [u18, ha] at e0; simp at e0
        · rfl
      show u 16 ∈ (if well = true then p.book ++ [m.v 16] else p.book)
      rw [u16, hw]; simp
    · have e0 : u 18 ≠ 0 := e0
      have hw : well = false := by
        cases well
        · rfl
        · rw [u18, ha] at e0; simp at e0
      refine .inr ⟨?_, .inr (by show u 16 ≤ m.v 16; omega)⟩
      show u 16 ∉ (if well = true then p.book ++ [m.v 16] else p.book)
      rw [u16, hw]
      intro e
      have := h.top _ e
      omega
end Go.Proofs.Ytlcbpodjmafoeaa
