/- Pairs in an own row; what a keeper knows is what was granted. -/
import Derived.Test.YtcpaimgenfbidaaPairs
namespace Go.Proofs.Ytcpaimgenfbidaa
open Go.RowKit

def cellsP (gs : List (Int × Int)) : List Value := gs.flatMap fun g => [.int .i64 g.1, .int .i64 g.2]
theorem cellsP_length (gs : List (Int × Int)) : (cellsP gs).length = gs.length * 2 := by
  induction gs with
  | nil => rfl
  | cons g gs ih => simp only [cellsP, List.flatMap_cons] at ih ⊢; simp [ih]; omega
theorem cellsP_snoc (gs : List (Int × Int)) (g : Int × Int) : cellsP (gs ++ [g]) = cellsP gs ++ [.int .i64 g.1, .int .i64 g.2] := by simp [cellsP]
theorem cellsP_get (gs : List (Int × Int)) (i : Nat) (hi : i < gs.length) : (cellsP gs)[i * 2]? = some (.int .i64 (gs.getD i (0, 0)).1) ∧ (cellsP gs)[i * 2 + 1]? = some (.int .i64 (gs.getD i (0, 0)).2) := by
  induction gs generalizing i with
  | nil => simp at hi
  | cons g gs ih =>
    cases i with
    | zero => simp [cellsP]
    | succ i =>
      have := ih i (by simpa using hi)
      rw [show (i + 1) * 2 = i * 2 + 2 by omega, show i * 2 + 2 + 1 = i * 2 + 1 + 2 by omega]
      simpa [cellsP] using this
theorem cellsP_one (gs : List (Int × Int)) : ∀ u ∈ cellsP gs, u.oneCell' = true := by
  intro u hu
  simp only [cellsP, List.mem_flatMap] at hu
  obtain ⟨g, _, h⟩ := hu
  simp at h
  rcases h with rfl | rfl <;> rfl

/-- An own row of pairs, as a slice that is read. -/
theorem pairsIn_of_own {w : World} {base e n : Nat} {A : Option Addr} {c : Nat} {gs : List (Int × Int)} (h : w.ownsRow base e 2 (.slice A n c) n (cellsP gs)) : n = gs.length ∧ PairsIn w w.heap.size A gs := by
  have hl := h.1
  rw [cellsP_length] at hl
  have hn : n = gs.length := by omega
  refine ⟨hn, ?_⟩
  rcases h.2 with ⟨_, h0⟩ | ⟨b, cap, cur, hv, hb, hg, h1, h2, h3, h4⟩
  · left; exact List.eq_nil_of_length_eq_zero (by omega)
  · right
    cases hv
    refine ⟨b, 0, rfl, (Array.getElem?_eq_some_iff.1 hg).1, fun i hi => ?_⟩
    obtain ⟨g1, g2⟩ := cellsP_get gs i hi
    rw [← h4] at g1 g2
    rw [List.getElem?_take] at g1 g2
    rw [if_pos (by omega)] at g1 g2
    constructor
    · simpa [World.cell?, hg] using g1
    · simpa [World.cell?, hg] using g2

/-- What the keeper knows of its m nodes is what was granted; nothing was granted to others. -/
def Knows (m : Nat) (us : List Int) (al : List (Int × Int)) : Prop := (∀ j : Nat, j < m → us.getD j 0 = untilS al j) ∧ ∀ x ∈ al, 0 ≤ x.1 ∧ x.1 < m
theorem untilS_none (al : List (Int × Int)) (i : Int) (h : ∀ x ∈ al, x.1 ≠ i) : untilS al i = 0 := by
  have : ∀ (l : List (Int × Int)) (b : Int), (∀ x ∈ l, x.1 ≠ i) → l.foldl (ustep i) b = b := by
    intro l
    induction l with
    | nil => intro b _; rfl
    | cons g l ih =>
      intro b h
      rw [List.foldl_cons, show ustep i b g = b from if_neg (h g (by simp))]
      exact ih b (fun x hx => h x (by simp [hx]))
  exact this al 0 h
def begins (k : Nat) (b : Int) : List (Int × Int) := (List.range k).map fun (i : Nat) => ((i : Int), b)
theorem begins_snoc (k : Nat) (b : Int) : begins (k + 1) b = begins k b ++ [((k : Int), b)] := by simp [begins, List.range_succ]
theorem begins_length (k : Nat) (b : Int) : (begins k b).length = k := by simp [begins]
theorem begins_until (k : Nat) (b : Int) (j : Nat) (hb : 0 ≤ b) : untilS (begins k b) j = if j < k then b + 24 else 0 := by
  induction k with
  | zero => rfl
  | succ k ih =>
    rw [begins_snoc, untilS_snoc, ih]
    unfold ustep
    by_cases h : j = k
    · subst h
      simp; omega
    · rw [if_neg (by simp only; omega)]
      by_cases h2 : j < k
      · rw [if_pos h2, if_pos (by omega)]
      · rw [if_neg h2, if_neg (by omega)]
theorem knows_begins (m : Nat) (b : Int) (hm : m ≤ 16) (hb : 0 ≤ b) : Knows m (firsts m (b + 24)) (begins m b) := by
  constructor
  · intro j hj
    rw [firsts_get m j _ (by omega), begins_until _ _ _ hb]
  · intro x hx
    simp only [begins, List.mem_map, List.mem_range] at hx
    obtain ⟨i, hi, rfl⟩ := hx
    simp only; omega
theorem Knows.grant {m : Nat} {us : List Int} {al : List (Int × Int)} (h : Knows m us al) (hu : us.length = 16) (hm : m ≤ 16) (i : Nat) (hi : i < m) (n : Int) : Knows m (us.set i (max (us.getD i 0) (n + 24))) (al ++ [((i : Int), n)]) := by
  constructor
  · intro j hj
    rw [untilS_snoc, ← h.1 j hj]
    unfold ustep
    by_cases e : i = j
    · subst e
      rw [if_pos rfl]
      simp only [List.getD_eq_getElem?_getD, List.getElem?_set_self (show i < us.length by omega), Option.getD_some]
      split <;> omega
    · rw [if_neg (by simp only; omega)]
      simp only [List.getD_eq_getElem?_getD, List.getElem?_set_ne e]
  · intro x hx
    rcases List.mem_append.1 hx with hx | hx
    · exact h.2 x hx
    · simp at hx; subst hx; simp only; omega
theorem Ticks.snoc {al : List (Int × Int)} (h : Ticks al) (i n : Int) (h1 : 0 ≤ n) (h2 : n < 1099511627776) : Ticks (al ++ [(i, n)]) := by
  intro x hx
  rcases List.mem_append.1 hx with hx | hx
  · exact h x hx
  · simp at hx; subst hx; exact ⟨h1, h2⟩
theorem ticks_begins (k : Nat) (b : Int) (h1 : 0 ≤ b) (h2 : b < 1099511627776) : Ticks (begins k b) := by
  intro x hx
  simp only [begins, List.mem_map, List.mem_range] at hx
  obtain ⟨i, hi, rfl⟩ := hx
  exact ⟨h1, h2⟩
/-- What the law asks at a node. -/
theorem Knows.at_ {m : Nat} {us : List Int} {al : List (Int × Int)} (h : Knows m us al) (i : Int) :
    (if hasS m i then us.getD i.toNat 0 else 0) = untilS al i := by
  by_cases hi : 0 ≤ i ∧ i < m
  · obtain ⟨j, rfl⟩ := Int.eq_ofNat_of_zero_le hi.1
    rw [if_pos (by simp [hasS]; omega)]
    exact h.1 j (by omega)
  · rw [if_neg (by simp [hasS]; omega)]
    rw [untilS_none]
    intro x hx e
    have := h.2 x hx
    omega
end Go.Proofs.Ytcpaimgenfbidaa
