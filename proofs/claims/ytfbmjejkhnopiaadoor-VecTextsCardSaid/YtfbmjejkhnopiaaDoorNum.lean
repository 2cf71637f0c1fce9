/- Numbers and their texts, plain. -/
import Derived.Test.YtfbmjejkhnopiaaDoorVecT
namespace Go.Proofs.YtfbmjejkhnopiaaDoor
open Go.RowKit

def isD (c : UInt8) : Bool := decide (48 ≤ c.toNat) && decide (c.toNat ≤ 57)
def nv (l : List UInt8) : Int := l.foldl (fun n c => n * 10 + ((c.toNat : Int) - 48)) 0
theorem nv_snoc (l : List UInt8) (c : UInt8) : nv (l ++ [c]) = nv l * 10 + ((c.toNat : Int) - 48) := by simp [nv]
theorem nv_bd (l : List UInt8) (h : l.all isD = true) : 0 ≤ nv l ∧ nv l < 10 ^ l.length := by
  obtain ⟨n, hn⟩ : ∃ n, n = l.length := ⟨_, rfl⟩
  induction n generalizing l with
  | zero =>
    have : l = [] := List.length_eq_zero_iff.1 hn.symm
    subst this; simp [nv]
  | succ n ih =>
    obtain ⟨d, c, rfl⟩ : ∃ d c, l = d ++ [c] := by
      refine ⟨l.dropLast, l.getLast (by intro e; rw [e] at hn; simp at hn), ?_⟩
      rw [List.dropLast_concat_getLast]
    rw [List.all_append, Bool.and_eq_true] at h
    have h1 := ih d h.1 (by simp at hn; omega)
    have h2 : isD c = true := by simpa using h.2
    simp [isD] at h2
    rw [nv_snoc, List.length_append]
    simp only [List.length_cons, List.length_nil, Int.pow_succ, Nat.zero_add]
    constructor <;> omega
/-- The number of a text of 1 to k digits, or -1. -/
def numB (l : List UInt8) (k : Nat) : Int := if l.length = 0 ∨ k < l.length ∨ (1 < l.length ∧ l[0]? = some 48) ∨ l.all isD = false then -1 else nv l
theorem dd_small {u : Nat} (h : u < 10) : Lib.decDigits u = [UInt8.ofNat (48 + u)] := Lib.decDigits_one h
theorem dd_big {u : Nat} (h : ¬ u < 10) : Lib.decDigits u = Lib.decDigits (u / 10) ++ [UInt8.ofNat (48 + u % 10)] := by rw [Lib.decDigits, dif_neg h]
theorem of48 {u : Nat} (h : u < 10) : (UInt8.ofNat (48 + u)).toNat = 48 + u := by simp; omega
theorem dd_all (u : Nat) : (Lib.decDigits u).all isD = true := by
  induction u using Nat.strongRecOn with
  | _ u ih =>
    by_cases h : u < 10
    · rw [dd_small h]; simp only [List.all_cons, List.all_nil, isD, of48 h]; simp; omega
    · rw [dd_big h, List.all_append, ih (u / 10) (by omega)]
      simp only [List.all_cons, List.all_nil, isD, of48 (show u % 10 < 10 by omega)]; simp; omega
theorem dd_nv (u : Nat) : nv (Lib.decDigits u) = u := by
  induction u using Nat.strongRecOn with
  | _ u ih =>
    by_cases h : u < 10
    · rw [dd_small h]; simp only [nv, List.foldl_cons, List.foldl_nil, of48 h]; omega
    · rw [dd_big h, nv_snoc, ih (u / 10) (by omega), of48 (show u % 10 < 10 by omega)]; omega
theorem dd_pos (u : Nat) : 1 ≤ (Lib.decDigits u).length := by
  by_cases h : u < 10
  · rw [dd_small h]; simp
  · rw [dd_big h]; simp
theorem dd_short (k : Nat) : ∀ u, u < 10 ^ (k + 1) → (Lib.decDigits u).length ≤ k + 1 := by
  induction k with
  | zero => intro u h; rw [dd_small (by simpa using h)]; simp
  | succ k ih =>
    intro u h
    by_cases h1 : u < 10
    · rw [dd_small h1]; simp
    · rw [dd_big h1, List.length_append]
      have := ih (u / 10) (by rw [Nat.pow_succ] at h; omega)
      simp; omega
theorem dd_long (k : Nat) : ∀ u, 10 ^ k ≤ u → k < (Lib.decDigits u).length := by
  induction k with
  | zero => intro u _; have := dd_pos u; omega
  | succ k ih =>
    intro u h
    have hp : 1 ≤ 10 ^ k := Nat.pos_of_ne_zero (by simp)
    have h1 : ¬ u < 10 := by rw [Nat.pow_succ] at h; omega
    rw [dd_big h1, List.length_append]
    have := ih (u / 10) (by rw [Nat.pow_succ] at h; omega)
    simp; omega
theorem dd_head (u : Nat) (h : 1 ≤ u) : (Lib.decDigits u)[0]? ≠ some 48 := by
  induction u using Nat.strongRecOn with
  | _ u ih =>
    by_cases h1 : u < 10
    · rw [dd_small h1]
      intro e
      have e : UInt8.ofNat (48 + u) = 48 := by simpa using e
      have := congrArg UInt8.toNat e
      rw [of48 h1] at this
      have h48 : (48 : UInt8).toNat = 48 := rfl
      omega
    · rw [dd_big h1, List.getElem?_append_left (by have := dd_pos (u / 10); omega)]
      exact ih (u / 10) (by omega) (by omega)
theorem num_dd (u : Nat) : numB (Lib.decDigits u) 10 = if u < 10000000000 then (u : Int) else -1 := by
  unfold numB
  by_cases h : u < 10000000000
  · rw [if_pos h, if_neg, dd_nv]
    rintro (h1 | h1 | ⟨h1, h2⟩ | h1)
    · have := dd_pos u; omega
    · have := dd_short 9 u (by simpa using h); omega
    · have hu : 1 ≤ u := by
        rcases Nat.eq_zero_or_pos u with e | e
        · subst e; rw [dd_small (by decide)] at h1; simp at h1
        · exact e
      exact dd_head u hu h2
    · rw [dd_all] at h1; cases h1
  · rw [if_neg h, if_pos (.inr (.inl (dd_long 10 u (by omega))))]
theorem num_itoa (n : Int) : numB (Lib.itoa n) 10 = if 0 ≤ n ∧ n < 10000000000 then n else -1 := by
  unfold Lib.itoa
  by_cases h : n < 0
  · rw [if_pos h, if_neg (by omega)]
    unfold numB
    rw [if_pos]
    exact .inr (.inr (.inr (by rw [List.all_cons]; rfl)))
  · rw [if_neg h, num_dd]
    by_cases h1 : n < 10000000000
    · rw [if_pos (by omega), if_pos (by omega)]; omega
    · rw [if_neg (by omega), if_neg (by omega)]
theorem isD_comma : isD 44 = false := rfl
/-- No comma stands in a number's text. -/
theorem itoa_comma (n : Int) : ∀ c ∈ Lib.itoa n, c ≠ 44 := by
  intro c hc e
  subst e
  unfold Lib.itoa at hc
  split at hc
  · rcases List.mem_cons.1 hc with e | hc
    · cases e
    · have := List.all_eq_true.1 (dd_all _) _ hc; rw [isD_comma] at this; cases this
  · have := List.all_eq_true.1 (dd_all _) _ hc; rw [isD_comma] at this; cases this

/-- A text's parts between commas: what was read of this part, what is to come. -/
def sp (cur : List UInt8) : List UInt8 → List (List UInt8)
  | [] => [cur]
  | c :: t => if c = 44 then cur :: sp [] t else sp (cur ++ [c]) t
theorem sp_cons (cur : List UInt8) (c : UInt8) (t : List UInt8) : sp cur (c :: t) = if c = 44 then cur :: sp [] t else sp (cur ++ [c]) t := rfl
def parts (l : List UInt8) : List (List UInt8) := sp [] l
theorem sp_none (l : List UInt8) (h : ∀ c ∈ l, c ≠ 44) : ∀ cur, sp cur l = [cur ++ l] := by
  induction l with
  | nil => intro cur; simp [sp]
  | cons c t ih =>
    intro cur
    rw [sp_cons, if_neg (h c (by simp)), ih (fun d hd => h d (by simp [hd]))]
    simp
theorem sp_some (a b : List UInt8) (h : ∀ c ∈ a, c ≠ 44) : ∀ cur, sp cur (a ++ 44 :: b) = (cur ++ a) :: sp [] b := by
  induction a with
  | nil => intro cur; simp [sp]
  | cons c t ih =>
    intro cur
    rw [List.cons_append]
    rw [sp_cons, if_neg (h c (by simp)), ih (fun d hd => h d (by simp [hd]))]
    simp
theorem sp_ne (l : List UInt8) : ∀ cur, 1 ≤ (sp cur l).length := by
  induction l with
  | nil => intro cur; simp [sp]
  | cons c t ih => intro cur; rw [sp_cons]; split <;> simp [ih]
theorem parts_none {l : List UInt8} (h : ∀ c ∈ l, c ≠ 44) : parts l = [l] := by have := sp_none l h []; simpa [parts] using this
theorem parts_some {a b : List UInt8} (h : ∀ c ∈ a, c ≠ 44) : parts (a ++ 44 :: b) = a :: parts b := by have := sp_some a b h []; simpa [parts] using this
/-- What strings.Cut tells is the first part, and whether there is another. -/
theorem cut_parts (l : List UInt8) : (Lib.cut l [44] = (l, [], false) ∧ parts l = [l]) ∨ ∃ a b, Lib.cut l [44] = (a, b, true) ∧ parts l = a :: parts b ∧ l = a ++ 44 :: b := by
  unfold Lib.cut
  rw [Lib.index_one]
  have hge := Lib.indexByte_ge l 44
  by_cases h : 0 ≤ Lib.indexByte l 44
  · right
    obtain ⟨o, ho⟩ : ∃ o : Nat, Lib.indexByte l 44 = o := ⟨(Lib.indexByte l 44).toNat, by omega⟩
    obtain ⟨h1, h2⟩ := Lib.indexByte_some ho
    have hlt : o < l.length := by
      rcases Nat.lt_or_ge o l.length with h | h
      · exact h
      · rw [List.getElem?_eq_none h] at h1; cases h1
    have he : l = l.take o ++ 44 :: l.drop (o + 1) := by
      have h3 : l[o] = 44 := by rw [List.getElem?_eq_getElem hlt] at h1; simpa using h1
      rw [← h3, ← List.drop_eq_getElem_cons hlt, List.take_append_drop]
    refine ⟨l.take o, l.drop (o + 1), ?_, ?_, he⟩
    · rw [if_pos h, ho]; simp
    · conv => lhs; rw [he]
      refine parts_some fun c hc e => ?_
      obtain ⟨i, hi, hi2⟩ := List.mem_iff_getElem.1 hc
      have hi3 : i < o := by simp at hi; omega
      have := h2 i hi3
      rw [List.getElem_take] at hi2
      rw [List.getElem?_eq_getElem (by omega), hi2, e] at this
      exact this rfl
  · left
    have hn : Lib.indexByte l 44 = -1 := by omega
    refine ⟨by rw [if_neg h], parts_none fun c hc e => ?_⟩
    obtain ⟨i, hi, hi2⟩ := List.mem_iff_getElem.1 hc
    exact Lib.indexByte_none hn i (by rw [List.getElem?_eq_getElem hi, hi2, e])
end Go.Proofs.YtfbmjejkhnopiaaDoor
