/- Numbers as bytes, and bytes as numbers (plain). -/
import Derived.WalkKit
namespace Go.Proofs.YtkenaoejijpgpaaDoor

/-- The bytes of a number. -/
def vb (n : Nat) : List UInt8 := if _h : n < 128 then [UInt8.ofNat n] else UInt8.ofNat (128 + n % 128) :: vb (n / 128)
termination_by n
decreasing_by omega
theorem vb_small {n : Nat} (h : n < 128) : vb n = [UInt8.ofNat n] := by rw [vb, dif_pos h]
theorem vb_big {n : Nat} (h : ¬ n < 128) : vb n = UInt8.ofNat (128 + n % 128) :: vb (n / 128) := by rw [vb, dif_neg h]
theorem vb_pos (n : Nat) : 0 < (vb n).length := by
  by_cases h : n < 128
  · rw [vb_small h]; simp
  · rw [vb_big h]; simp
theorem vb_len (k : Nat) : ∀ n, n < 128 ^ (k + 1) → (vb n).length ≤ k + 1 := by
  induction k with
  | zero => intro n h; rw [vb_small (by simpa using h)]; simp
  | succ k ih =>
    intro n h
    by_cases h1 : n < 128
    · rw [vb_small h1]; simp
    · rw [vb_big h1, List.length_cons]
      have := ih (n / 128) (by rw [Nat.pow_succ] at h; omega)
      omega
theorem vb_len10 (n : Nat) (h : n < 18446744073709551616) : (vb n).length ≤ 10 := vb_len 9 n (by omega)

/-- What the loop reads: the error, the number, what is left. -/
def rdGo (i n : Nat) : List UInt8 → Nat × Nat × List UInt8
  | [] => (10, 0, [])
  | c :: t => if (i = 9 ∧ 1 < c.toNat) ∨ (0 < i ∧ c.toNat = 0) then (11, 0, []) else if c.toNat < 128 then (0, n + c.toNat * 128 ^ i, t) else rdGo (i + 1) (n + (c.toNat % 128) * 128 ^ i) t

theorem toNat_ofNat8 (n : Nat) (h : n < 256) : (UInt8.ofNat n).toNat = n := by rw [UInt8.toNat_ofNat', Nat.mod_eq_of_lt h]
theorem pow_step (i : Nat) : 128 ^ (i + 1) = 128 ^ i * 128 := Nat.pow_succ ..
theorem rdGo_vb (k : Nat) : ∀ i m n t, n ≤ k → i ≤ 9 → n * 128 ^ i < 18446744073709551616 → (0 < i → n ≠ 0) → rdGo i m (vb n ++ t) = (0, m + n * 128 ^ i, t) := by
  induction k with
  | zero =>
    intro i m n t hn hi hm h0
    obtain rfl : n = 0 := by omega
    have hi0 : i = 0 := by
      rcases Nat.eq_zero_or_pos i with h | h
      · exact h
      · exact absurd rfl (h0 h)
    subst hi0
    rw [vb_small (by omega)]
    simp [rdGo]
  | succ k ih =>
    intro i m n t hn hi hm h0
    by_cases h1 : n < 128
    · rw [vb_small h1]
      have e := toNat_ofNat8 n (by omega)
      have hc : ¬ ((i = 9 ∧ 1 < (UInt8.ofNat n).toNat) ∨ (0 < i ∧ (UInt8.ofNat n).toNat = 0)) := by
        rw [e]
        rintro (⟨rfl, h⟩ | ⟨h, h'⟩)
        · omega
        · exact h0 h h'
      rw [List.singleton_append, rdGo, if_neg hc, e, if_pos h1]
    · rw [vb_big h1]
      have e := toNat_ofNat8 (128 + n % 128) (by omega)
      have hi8 : i < 9 := by
        rcases Nat.lt_or_ge i 9 with h | h
        · exact h
        · obtain rfl : i = 9 := by omega
          omega
      have hc : ¬ ((i = 9 ∧ 1 < (UInt8.ofNat (128 + n % 128)).toNat) ∨ (0 < i ∧ (UInt8.ofNat (128 + n % 128)).toNat = 0)) := by
        rw [e]; omega
      have hd : n / 128 * 128 + n % 128 = n := Nat.div_add_mod' n 128
      have hp : n * 128 ^ i = n / 128 * 128 ^ (i + 1) + n % 128 * 128 ^ i := by
        rw [pow_step, Nat.mul_comm (128 ^ i) 128, ← Nat.mul_assoc, ← Nat.add_mul, hd]
      rw [List.cons_append, rdGo, if_neg hc, e, if_neg (by omega), ih (i + 1) _ (n / 128) t (by omega) (by omega) (by omega) (fun _ => by omega)]
      have : (128 + n % 128) % 128 = n % 128 := by omega
      rw [this, hp]
      congr 2
      omega
theorem rdGo_cut (k : Nat) : ∀ i m n q, n ≤ k → i ≤ 9 → n * 128 ^ i < 18446744073709551616 → q < (vb n).length → rdGo i m ((vb n).take q) = (10, 0, []) := by
  induction k with
  | zero =>
    intro i m n q hn hi hm hq
    obtain rfl : n = 0 := by omega
    rw [vb_small (by omega)] at hq ⊢
    obtain rfl : q = 0 := by simp at hq; exact hq
    rfl
  | succ k ih =>
    intro i m n q hn hi hm hq
    rcases q with _ | q
    · rfl
    by_cases h1 : n < 128
    · rw [vb_small h1] at hq; simp at hq
    · rw [vb_big h1] at hq ⊢
      have e := toNat_ofNat8 (128 + n % 128) (by omega)
      have hi8 : i < 9 := by
        rcases Nat.lt_or_ge i 9 with h | h
        · exact h
        · obtain rfl : i = 9 := by omega
          omega
      have hc : ¬ ((i = 9 ∧ 1 < (UInt8.ofNat (128 + n % 128)).toNat) ∨ (0 < i ∧ (UInt8.ofNat (128 + n % 128)).toNat = 0)) := by
        rw [e]; omega
      have hd : n / 128 * 128 + n % 128 = n := Nat.div_add_mod' n 128
      have hp : n * 128 ^ i = n / 128 * 128 ^ (i + 1) + n % 128 * 128 ^ i := by
        rw [pow_step, Nat.mul_comm (128 ^ i) 128, ← Nat.mul_assoc, ← Nat.add_mul, hd]
      rw [List.take_succ_cons, rdGo, if_neg hc, e, if_neg (by omega)]
      exact ih (i + 1) _ (n / 128) q (by omega) (by omega) (by omega) (by simpa using hq)
theorem rdGo_ok (l : List UInt8) : ∀ i m v t, rdGo i m l = (0, v, t) → ∃ n, v = m + n * 128 ^ i ∧ l = vb n ++ t ∧ (0 < i → n ≠ 0) := by
  induction l with
  | nil => intro i m v t h; simp [rdGo] at h
  | cons c l ih =>
    intro i m v t h
    have hc := c.toNat_lt
    by_cases hb : (i = 9 ∧ 1 < c.toNat) ∨ (0 < i ∧ c.toNat = 0)
    · rw [rdGo, if_pos hb] at h; simp at h
    · rw [rdGo, if_neg hb] at h
      by_cases h1 : c.toNat < 128
      · rw [if_pos h1] at h
        simp at h
        obtain ⟨h2, h3⟩ := h
        refine ⟨c.toNat, h2.symm, ?_, fun hi h0 => hb (.inr ⟨hi, h0⟩)⟩
        rw [vb_small h1, h3]; simp
      · rw [if_neg h1] at h
        obtain ⟨n, h2, h3, h4⟩ := ih _ _ _ _ h
        have hn : n ≠ 0 := h4 (by omega)
        refine ⟨c.toNat % 128 + n * 128, ?_, ?_, fun _ => by omega⟩
        · rw [h2, pow_step, Nat.add_mul, Nat.mul_assoc, Nat.mul_comm 128 (128 ^ i)]; omega
        · rw [vb_big (by omega), h3]
          have e1 : (c.toNat % 128 + n * 128) % 128 = c.toNat % 128 := by omega
          have e2 : (c.toNat % 128 + n * 128) / 128 = n := by omega
          rw [e1, e2]
          have e3 : 128 + c.toNat % 128 = c.toNat := by omega
          rw [e3]; simp
theorem rdGo_err (l : List UInt8) : ∀ i m, (rdGo i m l).1 = 0 ∨ ((rdGo i m l).1 = 10 ∨ (rdGo i m l).1 = 11) ∧ (rdGo i m l).2 = (0, []) := by
  induction l with
  | nil => intro i m; exact .inr ⟨.inl rfl, rfl⟩
  | cons c l ih =>
    intro i m
    by_cases hb : (i = 9 ∧ 1 < c.toNat) ∨ (0 < i ∧ c.toNat = 0)
    · rw [rdGo, if_pos hb]; exact .inr ⟨.inr rfl, rfl⟩
    · rw [rdGo, if_neg hb]
      by_cases h1 : c.toNat < 128
      · rw [if_pos h1]; exact .inl rfl
      · rw [if_neg h1]; exact ih _ _
theorem pow_le9 (i : Nat) (h : i ≤ 9) : 128 ^ i ≤ 9223372036854775808 := Nat.le_trans (Nat.pow_le_pow_right (by omega) h) (by omega)
theorem pow_pos128 (i : Nat) : 0 < 128 ^ i := Nat.pow_pos (by omega)
theorem rdGo_lt (l : List UInt8) : ∀ i m, i ≤ 9 → m < 128 ^ i → (rdGo i m l).2.1 < 18446744073709551616 ∧ (rdGo i m l).2.2.length ≤ l.length := by
  induction l with
  | nil => intro i m _ _; exact ⟨by simp [rdGo], by simp [rdGo]⟩
  | cons c l ih =>
    intro i m hi hm
    have hc := c.toNat_lt
    by_cases hb : (i = 9 ∧ 1 < c.toNat) ∨ (0 < i ∧ c.toNat = 0)
    · rw [rdGo, if_pos hb]; simp
    · rw [rdGo, if_neg hb]
      by_cases h1 : c.toNat < 128
      · rw [if_pos h1]
        refine ⟨?_, by simp⟩
        show m + c.toNat * 128 ^ i < _
        rcases Nat.lt_or_ge i 9 with h | h
        · have h2 := Nat.pow_le_pow_right (show 0 < 128 by omega) (show i ≤ 8 by omega)
          have h3 : c.toNat * 128 ^ i ≤ 127 * 128 ^ i := Nat.mul_le_mul_right _ (by omega)
          omega
        · obtain rfl : i = 9 := by omega
          have h3 : c.toNat ≤ 1 := by
            rcases Nat.lt_or_ge 1 c.toNat with h4 | h4
            · exact absurd (.inl ⟨rfl, h4⟩) hb
            · exact h4
          have h4 : c.toNat * 128 ^ 9 ≤ 1 * 128 ^ 9 := Nat.mul_le_mul_right _ h3
          omega
      · rw [if_neg h1]
        have hi9 : i ≠ 9 := by
          rintro rfl
          exact hb (.inl ⟨rfl, by omega⟩)
        have h5 : c.toNat % 128 * 128 ^ i ≤ 127 * 128 ^ i := Nat.mul_le_mul_right _ (by omega)
        have := ih (i + 1) (m + c.toNat % 128 * 128 ^ i) (by omega) (by rw [pow_step]; omega)
        exact ⟨this.1, by rw [List.length_cons]; omega⟩

/-- A number of either sign as one without. -/
def zz (n : Int) : Nat := if 0 ≤ n then (2 * n).toNat else (-2 * n - 1).toNat
def unzz (n : Nat) : Int := if n % 2 = 0 then (n / 2 : Nat) else -((n / 2 : Nat) : Int) - 1
theorem unzz_zz (n : Int) : unzz (zz n) = n := by
  unfold zz unzz
  by_cases h : 0 ≤ n
  · rw [if_pos h, if_pos (by omega)]; omega
  · rw [if_neg h, if_neg (by omega)]; omega
theorem zz_unzz (n : Nat) : zz (unzz n) = n := by
  unfold unzz zz
  by_cases h : n % 2 = 0
  · rw [if_pos h, if_pos (by omega)]; omega
  · rw [if_neg h, if_neg (by omega)]; omega
theorem zz_lt (n : Int) (h1 : -9223372036854775808 ≤ n) (h2 : n ≤ 9223372036854775807) : zz n < 18446744073709551616 := by
  unfold zz
  by_cases h : 0 ≤ n
  · rw [if_pos h]; omega
  · rw [if_neg h]; omega
theorem unzz_bd (n : Nat) (h : n < 18446744073709551616) : -9223372036854775808 ≤ unzz n ∧ unzz n ≤ 9223372036854775807 := by
  unfold unzz
  by_cases h1 : n % 2 = 0
  · rw [if_pos h1]; omega
  · rw [if_neg h1]; omega

/-- The bytes of a text, of a row of numbers. -/
def vtext (s : List UInt8) : List UInt8 := vb s.length ++ s
def vrow : List Int → List UInt8
  | [] => []
  | n :: l => vb (zz n) ++ vrow l
def vints (l : List Int) : List UInt8 := vb l.length ++ vrow l
theorem vrow_snoc (l : List Int) (n : Int) : vrow (l ++ [n]) = vrow l ++ vb (zz n) := by
  induction l with
  | nil => simp [vrow]
  | cons m l ih => simp [vrow, ih]
def inI64 (n : Int) : Prop := -9223372036854775808 ≤ n ∧ n ≤ 9223372036854775807
theorem vrow_len (l : List Int) (h : ∀ n ∈ l, inI64 n) : (vrow l).length ≤ 10 * l.length := by
  induction l with
  | nil => simp [vrow]
  | cons m l ih =>
    have h1 := ih (fun n hn => h n (List.mem_cons_of_mem _ hn))
    have h2 := h m List.mem_cons_self
    have h3 := vb_len10 (zz m) (zz_lt m h2.1 h2.2)
    rw [vrow, List.length_append, List.length_cons]
    omega

/-- A reader: what is left, and the error. -/
structure Rd where
  l : List UInt8
  e : Int
def rfail (s : Rd) (e : Int) : Rd := if s.e = 0 ∧ ¬ e = 0 then ⟨[], e⟩ else s
def ruN (s : Rd) : Nat := if s.e = 0 then (rdGo 0 0 s.l).2.1 else 0
def ruS (s : Rd) : Rd := if s.e = 0 then ⟨(rdGo 0 0 s.l).2.2, ((rdGo 0 0 s.l).1 : Int)⟩ else s
def riN (s : Rd) : Int := unzz (ruN s)
def top (most : Int) : Nat := (max most 0).toNat
def rcN (s : Rd) (most : Int) : Nat := if top most < ruN s then 0 else ruN s
def rcS (s : Rd) (most : Int) : Rd := if top most < ruN s then rfail (ruS s) 11 else ruS s
def rtL (s : Rd) (most : Int) : List UInt8 := if (rcS s most).e = 0 ∧ rcN s most ≤ (rcS s most).l.length then (rcS s most).l.take (rcN s most) else []
def rtS (s : Rd) (most : Int) : Rd := if (rcS s most).e = 0 then (if rcN s most ≤ (rcS s most).l.length then ⟨(rcS s most).l.drop (rcN s most), 0⟩ else ⟨[], 10⟩) else rcS s most
/-- So many numbers, till an error. -/
def rrL : Nat → Rd → List Int
  | 0, _ => []
  | n + 1, s => if s.e = 0 then riN s :: rrL n (ruS s) else []
def rrS : Nat → Rd → Rd
  | 0, s => s
  | n + 1, s => if s.e = 0 then rrS n (ruS s) else s
def rsS (s : Rd) (most : Int) : Rd := rrS (rcN s most) (rcS s most)
def rsL (s : Rd) (most : Int) : List Int := if (rsS s most).e = 0 then rrL (rcN s most) (rcS s most) else []
def rendS (s : Rd) : Rd := if 0 < s.l.length then rfail s 11 else s
theorem ruN_lt (s : Rd) : ruN s < 18446744073709551616 := by
  unfold ruN
  split
  · exact (rdGo_lt s.l 0 0 (by omega) (by omega)).1
  · omega
theorem ruS_len (s : Rd) : (ruS s).l.length ≤ s.l.length := by
  unfold ruS
  split
  · exact (rdGo_lt s.l 0 0 (by omega) (by omega)).2
  · omega
end Go.Proofs.YtkenaoejijpgpaaDoor
