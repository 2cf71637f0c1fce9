/- Who leads, by all takings and renewals: plain law; the four claims in one block; a slice of steps. -/
import Derived.Test.YtcpaimgenfbidaaRenew
import Derived.Test.YtcpaimgenfbidaaAwake
namespace Go.Proofs.Ytcpaimgenfbidaa
open Go.RowKit

def z0 : Cl := ⟨0, 0, 0⟩
def at4 (cl : List Cl) (k : Nat) : Cl := cl.getD k z0
theorem at4_set (cl : List Cl) (i k : Nat) (c : Cl) (hi : i < cl.length) : at4 (cl.set i c) k = if k = i then c else at4 cl k := by
  unfold at4
  simp only [List.getD_eq_getElem?_getD]
  by_cases h : k = i
  · subst h
    rw [if_pos rfl, List.getElem?_set_self hi]; rfl
  · rw [if_neg h, List.getElem?_set_ne (Ne.symm h)]

/-- Behind i steps, now being at most 31 j. -/
structure Lead (i j : Nat) (now : Int) (D : Cl) (E H : Int) (cl : List Cl) : Prop where
  len : cl.length = 4
  hD : D.e = E
  e0 : 0 ≤ E
  e1 : E ≤ i
  n0 : 0 ≤ now
  n1 : now ≤ 31 * j
  du : 0 ≤ D.u
  u : ∀ k, k < 4 → 0 ≤ (at4 cl k).e ∧ (at4 cl k).e ≤ i ∧ 0 ≤ (at4 cl k).u ∧ (at4 cl k).u ≤ now + 40
  st : (H = -1 ∧ E = 0 ∧ ∀ k, k < 4 → (at4 cl k).e = 0) ∨ ∃ h : Nat, h < 4 ∧ H = h ∧ 1 ≤ E ∧ D.h = h ∧ at4 cl h = D ∧ ∀ k, k < 4 → k ≠ h → (at4 cl k).e = 0 ∨ (at4 cl k).u + 2 ≤ now

theorem Lead.start : Lead 0 0 0 z0 0 (-1) [z0, z0, z0, z0] where
  len := rfl
  hD := rfl
  e0 := by decide
  e1 := by decide
  n0 := by decide
  n1 := by decide
  du := by decide
  u := by
    intro k hk
    have : k = 0 ∨ k = 1 ∨ k = 2 ∨ k = 3 := by omega
    rcases this with rfl | rfl | rfl | rfl <;> decide
  st := by
    refine .inl ⟨rfl, rfl, ?_⟩
    intro k hk
    have : k = 0 ∨ k = 1 ∨ k = 2 ∨ k = 3 := by omega
    rcases this with rfl | rfl | rfl | rfl <;> decide

theorem Lead.tick {i j : Nat} {now : Int} {D : Cl} {E H : Int} {cl : List Cl} (L : Lead i j now D E H cl) (t : Int) (h0 : 0 ≤ t) (h1 : t ≤ 31) : Lead i (j + 1) (now + t) D E H cl where
  len := L.len
  hD := L.hD
  e0 := L.e0
  e1 := L.e1
  n0 := by have := L.n0; omega
  n1 := by have := L.n1; omega
  du := L.du
  u := by intro k hk; have := L.u k hk; omega
  st := by
    rcases L.st with h | ⟨h, g1, g2, g3, g4, g5, g6⟩
    · exact .inl h
    · refine .inr ⟨h, g1, g2, g3, g4, g5, fun k hk hne => ?_⟩
      have := g6 k hk hne
      omega

theorem Lead.more {i j : Nat} {now : Int} {D : Cl} {E H : Int} {cl : List Cl} (L : Lead i j now D E H cl) : Lead (i + 1) j now D E H cl where
  len := L.len
  hD := L.hD
  e0 := L.e0
  e1 := by have := L.e1; omega
  n0 := L.n0
  n1 := L.n1
  du := L.du
  u := by intro k hk; have := L.u k hk; omega
  st := L.st

theorem Lead.tk {i j : Nat} {now : Int} {D : Cl} {E H : Int} {cl : List Cl} (L : Lead i j now D E H cl) (hj : j ≤ 60) : tk now = true := by
  have := L.n0
  have := L.n1
  unfold Ytcpaimgenfbidaa.tk
  rw [decide_eq_true (by omega), decide_eq_true (by omega)]; rfl

/-- Taking is held off: by another one, whose claim isn't over. -/
theorem Lead.take_no {i j : Nat} {now : Int} {D : Cl} {E H : Int} {cl : List Cl} (L : Lead i j now D E H cl) (hj : j ≤ 60) (x : Nat) (hx : heldS D x now = true) :
    takeE D x now = 170 ∧ takeC D x now = z0 ∧ takeD D x now = D ∧ ∃ h : Nat, h < 4 ∧ H = h ∧ h ≠ x ∧ now < (at4 cl h).u + 2 := by
  have ht := L.tk hj
  have hE : takeE D x now = 170 := by
    unfold takeE
    rw [if_neg (by rw [ht]; simp), if_pos hx]
  refine ⟨hE, by unfold takeC; rw [if_neg (by rw [hE]; decide)]; rfl, by unfold takeD; rw [if_neg (by rw [hE]; decide)], ?_⟩
  rcases L.st with ⟨h1, h2, _⟩ | ⟨h, g1, g2, g3, g4, g5, g6⟩
  · have := L.hD
    simp [heldS] at hx
    omega
  · refine ⟨h, g1, g2, ?_, ?_⟩
    · intro e
      subst e
      simp [heldS, g4] at hx
    · have hu := L.u h g1
      have n0 := L.n0
      have n1 := L.n1
      rw [g5] at hu ⊢
      simp [heldS] at hx
      omega

theorem Lead.take_ok {i j : Nat} {now : Int} {D : Cl} {E H : Int} {cl : List Cl} (L : Lead i j now D E H cl) (hj : j ≤ 60) (hi : i ≤ 60) (x : Nat) (hx4 : x < 4) (hx : heldS D x now = false) :
    takeE D x now = 0 ∧ takeC D x now = ⟨E + 1, x, now + 40⟩ ∧ takeD D x now = ⟨E + 1, x, now + 40⟩ ∧ (∀ k, k < 4 → k ≠ x → (at4 cl k).e ≤ 0 ∨ (at4 cl k).u + 2 ≤ now) ∧
      Lead (i + 1) j now ⟨E + 1, x, now + 40⟩ (E + 1) x (cl.set x ⟨E + 1, x, now + 40⟩) := by
  have ht := L.tk hj
  have hE : takeE D x now = 0 := by
    unfold takeE
    rw [if_neg (by rw [ht]; simp), if_neg (by rw [hx]; decide), if_neg (by rw [L.hD]; have := L.e1; omega)]
  have hC : takeC D x now = ⟨E + 1, x, now + 40⟩ := by unfold takeC; rw [if_pos hE, L.hD]
  have hfree : ∀ k, k < 4 → k ≠ x → (at4 cl k).e = 0 ∨ (at4 cl k).u + 2 ≤ now := by
    intro k hk hne
    rcases L.st with ⟨h1, h2, h3⟩ | ⟨h, g1, g2, g3, g4, g5, g6⟩
    · exact .inl (h3 k hk)
    · by_cases e : k = h
      · subst e
        right
        rw [g5]
        have := L.hD
        simp [heldS, g4] at hx
        have := hx (by omega) (by omega)
        omega
      · exact g6 k hk e
  refine ⟨hE, hC, by unfold takeD; rw [if_pos hE, hC], fun k hk hne => by have := hfree k hk hne; omega, ?_⟩
  refine ⟨by rw [List.length_set]; exact L.len, rfl, by have := L.e0; omega, by have := L.e1; omega, L.n0, L.n1, by have := L.n0; simp only; omega, ?_, ?_⟩
  · intro k hk
    rw [at4_set _ _ _ _ (by rw [L.len]; exact hx4)]
    have := L.u k hk
    have := L.e0
    have := L.e1
    have := L.n0
    split
    · simp only; omega
    · omega
  · refine .inr ⟨x, hx4, rfl, by have := L.e0; omega, rfl, ?_, ?_⟩
    · rw [at4_set _ _ _ _ (by rw [L.len]; exact hx4), if_pos rfl]
    · intro k hk hne
      rw [at4_set _ _ _ _ (by rw [L.len]; exact hx4), if_neg hne]
      exact hfree k hk hne

theorem Lead.renew_ok {i j : Nat} {now : Int} {D : Cl} {E H : Int} {cl : List Cl} (L : Lead i j now D E H cl) (x : Nat) (hx4 : x < 4) (hx : renewE D (at4 cl x) now = 0) :
    H = x ∧ leadsS (at4 cl x) now = true ∧ (renewC D (at4 cl x) now).e = (at4 cl x).e ∧ ¬ (renewC D (at4 cl x) now).u < (at4 cl x).u ∧ renewD D (at4 cl x) now = renewC D (at4 cl x) now ∧
      Lead (i + 1) j now (renewC D (at4 cl x) now) E H (cl.set x (renewC D (at4 cl x) now)) := by
  have hC : renewC D (at4 cl x) now = ⟨(at4 cl x).e, (at4 cl x).h, if (at4 cl x).u < now + 40 then now + 40 else (at4 cl x).u⟩ := by unfold renewC; rw [if_pos hx]
  have hl : leadsS (at4 cl x) now = true := by
    unfold renewE at hx
    by_cases h1 : Ytcpaimgenfbidaa.tk now = false
    · rw [if_pos h1] at hx; simp at hx
    · rw [if_neg h1] at hx
      by_cases h2 : leadsS (at4 cl x) now = false
      · rw [if_pos h2] at hx; simp at hx
      · simpa using h2
  have hl2 : 0 < (at4 cl x).e ∧ now < (at4 cl x).u := by simpa [leadsS] using hl
  obtain ⟨h, g1, g2, g3, g4, g5, g6⟩ : ∃ h : Nat, h < 4 ∧ H = h ∧ 1 ≤ E ∧ D.h = h ∧ at4 cl h = D ∧ ∀ k, k < 4 → k ≠ h → (at4 cl k).e = 0 ∨ (at4 cl k).u + 2 ≤ now := by
    rcases L.st with ⟨h1, h2, h3⟩ | h
    · have := h3 x hx4; omega
    · exact h
  have hxh : x = h := by
    by_cases e : x = h
    · exact e
    · have := g6 x hx4 e; omega
  subst hxh
  have hu := L.u x hx4
  have hn := L.n0
  refine ⟨g2, hl, by rw [hC], ?_, by unfold renewD; rw [if_pos hx], ?_⟩
  · rw [hC]; simp only; split <;> omega
  · refine ⟨by rw [List.length_set]; exact L.len, by rw [hC, ← L.hD, ← g5], L.e0, by have := L.e1; omega, L.n0, L.n1, ?_, ?_, ?_⟩
    · rw [hC]; simp only; split <;> omega
    · intro k hk
      rw [at4_set _ _ _ _ (by rw [L.len]; exact hx4)]
      have := L.u k hk
      split
      · rw [hC]; simp only; split <;> omega
      · omega
    · refine .inr ⟨x, hx4, g2, g3, by rw [hC]; simp only; rw [g5]; exact g4, ?_, ?_⟩
      · rw [at4_set _ _ _ _ (by rw [L.len]; exact hx4), if_pos rfl]
      · intro k hk hne
        rw [at4_set _ _ _ _ (by rw [L.len]; exact hx4), if_neg hne]
        exact g6 k hk hne

theorem renewD_no {D c : Cl} {n : Int} (h : renewE D c n ≠ 0) : renewD D c n = D := by unfold renewD; rw [if_neg h]

/-- One alone may lead. -/
theorem Lead.one {i j : Nat} {now : Int} {D : Cl} {E H : Int} {cl : List Cl} (L : Lead i j now D E H cl) (k : Nat) (hk : k < 4) (hne : k ≠ H.toNat) : leadsS (at4 cl k) now = false := by
  rcases L.st with ⟨h1, h2, h3⟩ | ⟨h, g1, g2, g3, g4, g5, g6⟩
  · have := h3 k hk
    simp [leadsS]; omega
  · have := g6 k hk (by subst g2; simpa using hne)
    simp [leadsS]; omega

/-- Block p holds four claims. -/
def cells3 (cl : List Cl) : List Value := cl.flatMap fun c => [.int .i64 c.e, .int .i64 c.h, .int .i64 c.u]
def ArrAt (w : World) (p : Nat) (cl : List Cl) : Prop := cl.length = 4 ∧ w.heap[p]? = some (.cells (cells3 cl).toArray 55 (0, 0))
theorem ArrAt.lt {w : World} {p : Nat} {cl : List Cl} (h : ArrAt w p cl) : p < w.heap.size := (Array.getElem?_eq_some_iff.1 h.2).1
theorem ArrAt.chg {S : Nat → Prop} {w w' : World} {p : Nat} {cl : List Cl} (h : ArrAt w p cl) (hc : Chg S w w') (hs : ¬ S p) : ArrAt w' p cl := ⟨h.1, (hc.block p h.lt hs).trans h.2⟩
theorem four_cl {cl : List Cl} (h : cl.length = 4) : ∃ a b c d, cl = [a, b, c, d] := by
  match cl, h with
  | [a, b, c, d], _ => exact ⟨a, b, c, d, rfl⟩
theorem ArrAt.get {w : World} {p : Nat} {cl : List Cl} (h : ArrAt w p cl) (k : Nat) (hk : k < 4) :
    w.cell? ⟨p, k * 3, none⟩ = some (.int .i64 (at4 cl k).e) ∧ w.cell? ⟨p, k * 3 + 1, none⟩ = some (.int .i64 (at4 cl k).h) ∧ w.cell? ⟨p, k * 3 + 2, none⟩ = some (.int .i64 (at4 cl k).u) ∧
      ∀ q, w.frozen? ⟨p, q, none⟩ = false := by
  obtain ⟨h1, h2⟩ := h
  obtain ⟨a, b, c, d, rfl⟩ := four_cl h1
  have : k = 0 ∨ k = 1 ∨ k = 2 ∨ k = 3 := by omega
  refine ⟨?_, ?_, ?_, fun q => by simp [World.frozen?, h2]⟩ <;> rcases this with rfl | rfl | rfl | rfl <;> simp [World.cell?, h2, cells3, at4]
theorem ArrAt.set {w : World} {p : Nat} {cl : List Cl} (h : ArrAt w p cl) (k : Nat) (hk : k < 4) (n : Cl) :
    ArrAt (((w.setCell ⟨p, k * 3, none⟩ (.int .i64 n.e)).setCell ⟨p, k * 3 + 1, none⟩ (.int .i64 n.h)).setCell ⟨p, k * 3 + 2, none⟩ (.int .i64 n.u)) p (cl.set k n) := by
  obtain ⟨h1, h2⟩ := h
  obtain ⟨a, b, c, d, rfl⟩ := four_cl h1
  have : k = 0 ∨ k = 1 ∨ k = 2 ∨ k = 3 := by omega
  refine ⟨by rw [List.length_set]; rfl, ?_⟩
  rcases this with rfl | rfl | rfl | rfl <;> simp [World.setCell, Array.getElem?_modify, h2, cells3]

theorem C3i {w : World} {b : Nat} {c : Cl} (h : C3 w b c) : w.cell? ⟨b, 0, none⟩ = some (.int .i64 c.e) ∧ w.cell? ⟨b, 1, none⟩ = some (.int .i64 c.h) ∧ w.cell? ⟨b, 2, none⟩ = some (.int .i64 c.u) := h.2
theorem and_small (x : Int) (m : Nat) (hm : m < 1000) : ∃ k : Nat, k ≤ m ∧ bits .and .i64 x (m : Int) = (k : Int) := by
  have e : (BitVec.ofInt 64 (m : Int)).toNat = m := by rw [BitVec.toNat_ofInt]; omega
  have hle : (BitVec.ofInt 64 x).toNat &&& m ≤ m := Nat.and_le_right
  refine ⟨(BitVec.ofInt 64 x).toNat &&& m, hle, ?_⟩
  show IntKind.i64.wrap (((BitVec.ofInt 64 x &&& BitVec.ofInt 64 (m : Int)).toNat : Nat) : Int) = _
  rw [BitVec.toNat_and, e]
  generalize (BitVec.ofInt 64 x).toNat &&& m = q at hle
  rw [IntKind.wrap_i64]
  omega

theorem chg_set3 (w : World) (p a b c : Nat) (u v x : Value) : Chg (fun q => q = p) w (((w.setCell ⟨p, a, none⟩ u).setCell ⟨p, b, none⟩ v).setCell ⟨p, c, none⟩ x) :=
  (((Chg.refl (fun q => q = p) w).setCell (p := ⟨p, a, none⟩) (.inr rfl) u).setCell (p := ⟨p, b, none⟩) (.inr rfl) v).setCell (p := ⟨p, c, none⟩) (.inr rfl) x

/-- The steps lie at A, three cells each. -/
structure St where
  who : Int
  ren : Bool
  t : Int
def StepsIn (w : World) (B : Nat) (A : Option Addr) (gs : List St) : Prop :=
  gs = [] ∨ ∃ b off, A = some ⟨b, off, none⟩ ∧ b < B ∧ ∀ i, i < gs.length → ∃ s : St, w.cell? ⟨b, off + i * 3, none⟩ = some (.int .i64 s.who) ∧ w.cell? ⟨b, off + i * 3 + 1, none⟩ = some (.bool s.ren) ∧ w.cell? ⟨b, off + i * 3 + 2, none⟩ = some (.int .i64 s.t)
end Go.Proofs.Ytcpaimgenfbidaa
