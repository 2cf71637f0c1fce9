/- A script of readings, and what stays so behind each. -/
import Derived.Test.YtjhjhklidofhgaaEncN
import Derived.Test.YtjhjhklidofhgaaRdS
import Derived.Deep.SlicePairs
import Derived.OpenShut
namespace Go.Proofs.Ytjhjhklidofhgaa
open Go.RowKit

/-- A reader with an error has nothing left. -/
def okR (s : Rd) : Prop := ¬ s.e = 0 → s.l = []
theorem okR_ru {s : Rd} (h : okR s) : okR (ruS s) := by
  intro he
  by_cases h0 : s.e = 0
  · exact ru_bad h0 he
  · have e : ruS s = s := by unfold ruS; rw [if_neg h0]
    rw [e]; exact h h0
theorem okR_fail {s : Rd} (h : okR s) (e : Int) : okR (rfail s e) := by
  unfold rfail
  split
  · intro _; rfl
  · exact h
theorem okR_rc {s : Rd} (h : okR s) (most : Int) : okR (rcS s most) := by
  unfold rcS
  split
  · exact okR_fail (okR_ru h) 11
  · exact okR_ru h
theorem okR_rt {s : Rd} (h : okR s) (most : Int) : okR (rtS s most) := by
  unfold rtS
  split
  · split
    · intro he; exact absurd rfl he
    · intro _; rfl
  · exact okR_rc h most
theorem okR_rr (n : Nat) : ∀ {s : Rd}, okR s → okR (rrS n s) := by
  induction n with
  | zero => intro s h; exact h
  | succ n ih =>
    intro s h
    rw [rrS]
    split
    · exact ih (okR_ru h)
    · exact h
theorem okR_rs {s : Rd} (h : okR s) (most : Int) : okR (rsS s most) := okR_rr _ (okR_rc h most)
theorem rtS_le (s : Rd) (most : Int) : (rtS s most).l.length ≤ s.l.length := by
  unfold rtS
  have h1 := rcS_len s most
  split
  · split
    · simp only [List.length_drop]; omega
    · simp
  · exact h1
theorem rrS_le (n : Nat) : ∀ s : Rd, (rrS n s).l.length ≤ s.l.length := by
  induction n with
  | zero => intro s; exact Nat.le_refl _
  | succ n ih =>
    intro s
    rw [rrS]
    split
    · exact Nat.le_trans (ih _) (ruS_len s)
    · exact Nat.le_refl _
theorem rsS_le (s : Rd) (most : Int) : (rsS s most).l.length ≤ s.l.length := Nat.le_trans (rrS_le _ _) (rcS_len s most)
theorem rrL_bad (n : Nat) (s : Rd) (h : ¬ s.e = 0) : rrL n s = [] := by
  cases n with
  | zero => rfl
  | succ n => rw [rrL, if_neg h]
theorem rrL_le (n : Nat) : ∀ s : Rd, (rrL n s).length ≤ s.l.length + 1 := by
  induction n with
  | zero => intro s; simp [rrL]
  | succ n ih =>
    intro s
    rw [rrL]
    split
    · rename_i h0
      by_cases h1 : (ruS s).e = 0
      · have h2 := ruS_less s h0 h1
        have h3 := ih (ruS s)
        rw [List.length_cons]; omega
      · rw [rrL_bad n _ h1]; simp
    · simp
theorem rsL_le (s : Rd) (most : Int) : (rsL s most).length ≤ s.l.length + 1 := by
  unfold rsL
  split
  · have h1 := rrL_le (rcN s most) (rcS s most)
    have h2 := rcS_len s most
    omega
  · simp

theorem and7 (p : Int) : ∃ K : Nat, K < 8 ∧ bits .and .i64 p 7 = (K : Int) := by
  have h : ∃ b : Nat, bits .and .i64 p 7 = IntKind.i64.wrap ((b % 8 : Nat) : Int) := by
    refine ⟨(BitVec.ofInt 64 p).toNat, ?_⟩
    show IntKind.i64.wrap ((BitVec.ofInt 64 p &&& BitVec.ofInt 64 7).toNat : Int) = _
    have e : (BitVec.ofInt 64 7).toNat = 7 := by decide
    rw [BitVec.toNat_and, e]
    congr 2
    exact Nat.and_two_pow_sub_one_eq_mod _ 3
  obtain ⟨b, hb⟩ := h
  refine ⟨b % 8, Nat.mod_lt _ (by omega), ?_⟩
  rw [hb, IntKind.wrap_i64]
  omega

/-- The pairs lie at A, two cells each. -/
def PairsIn (w : World) (B : Nat) (A : Option Addr) (gs : List (Int × Int)) : Prop :=
  gs = [] ∨ ∃ b off, A = some ⟨b, off, none⟩ ∧ b < B ∧ ∀ i, i < gs.length → w.cell? ⟨b, off + i * 2, none⟩ = some (.int .i64 (gs.getD i (0, 0)).1) ∧ w.cell? ⟨b, off + i * 2 + 1, none⟩ = some (.int .i64 (gs.getD i (0, 0)).2) ∧ inI64 (gs.getD i (0, 0)).2
theorem PairsIn.at_ {w : World} {B : Nat} {A : Option Addr} {gs : List (Int × Int)} (h : PairsIn w B A gs) {k : Nat} (hk : k < gs.length) :
    ∃ b off, A = some ⟨b, off, none⟩ ∧ b < B ∧ w.cell? ⟨b, off + k * 2, none⟩ = some (.int .i64 (gs.getD k (0, 0)).1) ∧ w.cell? ⟨b, off + k * 2 + 1, none⟩ = some (.int .i64 (gs.getD k (0, 0)).2) ∧ inI64 (gs.getD k (0, 0)).2 := by
  rcases h with e | ⟨b, off, e, hb, h⟩
  · subst e; simp at hk
  · exact ⟨b, off, e, hb, h k hk⟩
theorem pairs_open {w : World} {x : Addr} {len : Nat} (h : ∀ i, i < len → ∃ p q, w.cell? (x.add (i * 2)) = some (.int .i64 p) ∧ w.cell? (x.add (i * 2 + 1)) = some (.int .i64 q) ∧ inI64 q) :
    ∃ gs : List (Int × Int), len = gs.length ∧ PairsIn w w.heap.size (some x) gs := by
  by_cases h0 : len = 0
  · exact ⟨[], h0, .inl rfl⟩
  obtain ⟨p0, q0, hx0, _⟩ := h 0 (by omega)
  have hadd : x.add (0 * 2) = x := by unfold Addr.add; simp
  rw [hadd] at hx0
  have hs : x.spot = none := by
    unfold World.cell? at hx0
    cases hsp : x.spot with
    | none => rfl
    | some s => simp [hsp] at hx0; split at hx0 <;> simp at hx0
  obtain ⟨b, off, spot⟩ := x
  simp only at hs
  subst hs
  have hg : ∀ n, n ≤ len → ∃ gs : List (Int × Int), n = gs.length ∧ ∀ i, i < gs.length → w.cell? ⟨b, off + i * 2, none⟩ = some (.int .i64 (gs.getD i (0, 0)).1) ∧ w.cell? ⟨b, off + i * 2 + 1, none⟩ = some (.int .i64 (gs.getD i (0, 0)).2) ∧ inI64 (gs.getD i (0, 0)).2 := by
    intro n
    induction n with
    | zero => intro _; exact ⟨[], rfl, fun i hi => by simp at hi⟩
    | succ n ih =>
      intro hn
      obtain ⟨gs, hl, hgs⟩ := ih (by omega)
      obtain ⟨p, q, h1, h2, h3⟩ := h n (by omega)
      rw [Addr.add_lit] at h1 h2
      refine ⟨gs ++ [(p, q)], by simp [hl], fun i hi => ?_⟩
      by_cases e : i < gs.length
      · rw [show (gs ++ [(p, q)]).getD i (0, 0) = gs.getD i (0, 0) by simp [List.getD, List.getElem?_append_left e]]
        exact hgs i e
      · have e : i = gs.length := by simp at hi; omega
        subst e
        rw [← hl]
        rw [show (gs ++ [(p, q)]).getD n (0, 0) = (p, q) by rw [hl]; simp [List.getD]]
        exact ⟨h1, h2, h3⟩
  obtain ⟨gs, hl, hgs⟩ := hg len (Nat.le_refl _)
  exact ⟨gs, hl, .inr ⟨b, off, rfl, World.block_lt_of_cell? w _ hx0, hgs⟩⟩
end Go.Proofs.Ytjhjhklidofhgaa
