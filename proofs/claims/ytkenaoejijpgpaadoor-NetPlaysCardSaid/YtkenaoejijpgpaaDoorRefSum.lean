/- The document's sum, bit by bit, is the sum by half bytes. -/
import Derived.Test.YtkenaoejijpgpaaDoorSum
namespace Go.Proofs.YtkenaoejijpgpaaDoor
open Go.RowKit

def bstep (r : Nat) : Nat := if r % 2 = 1 then (r / 2) ^^^ 3988292384 else r / 2
def bsteps : Nat → Nat → Nat
  | 0, r => r
  | n + 1, r => bstep (bsteps n r)
theorem bstep_lt (r : Nat) (h : r < 4294967296) : bstep r < 4294967296 := by
  unfold bstep; split
  · exact Nat.xor_lt_two_pow (n := 32) (by omega) (by omega)
  · omega
theorem bsteps_lt (n : Nat) (r : Nat) (h : r < 4294967296) : bsteps n r < 4294967296 := by
  induction n with
  | zero => exact h
  | succ n ih => exact bstep_lt _ ih
theorem div_xor (a b n : Nat) : (a ^^^ b) / 2 ^ n = (a / 2 ^ n) ^^^ (b / 2 ^ n) := by
  rw [← Nat.shiftRight_eq_div_pow, ← Nat.shiftRight_eq_div_pow, ← Nat.shiftRight_eq_div_pow]
  exact Nat.shiftRight_xor_distrib
theorem bstep_xor (a b : Nat) : bstep (a ^^^ b) = bstep a ^^^ bstep b := by
  have hd := div_xor a b 1
  simp only [Nat.pow_one] at hd
  have hm : (a ^^^ b) % 2 = (a % 2 + b % 2) % 2 := by
    rw [← Nat.and_one_is_mod, Nat.and_xor_distrib_right, Nat.and_one_is_mod, Nat.and_one_is_mod]
    rcases Nat.mod_two_eq_zero_or_one a with h | h <;> rcases Nat.mod_two_eq_zero_or_one b with h' | h' <;> rw [h, h'] <;> rfl
  unfold bstep
  rw [hd, hm]
  rcases Nat.mod_two_eq_zero_or_one a with h | h <;> rcases Nat.mod_two_eq_zero_or_one b with h' | h' <;> simp [h, h']
  · ac_rfl
  · ac_rfl
  · rw [show a / 2 ^^^ 3988292384 ^^^ (b / 2 ^^^ 3988292384) = a / 2 ^^^ (b / 2) ^^^ (3988292384 ^^^ 3988292384) by ac_rfl]
    simp
theorem bsteps_xor (n a b : Nat) : bsteps n (a ^^^ b) = bsteps n a ^^^ bsteps n b := by
  induction n with
  | zero => rfl
  | succ n ih => simp only [bsteps, ih, bstep_xor]
theorem bsteps_low : ∀ k : Fin 16, bsteps 4 k.1 = tab k.1 := by decide
theorem bsteps_high (q : Nat) : bsteps 4 (16 * q) = q := by
  have e (m : Nat) : bstep (2 * m) = m := by unfold bstep; rw [if_neg (by omega)]; omega
  show bstep (bstep (bstep (bstep (16 * q)))) = q
  rw [show 16 * q = 2 * (2 * (2 * (2 * q))) by omega, e, e, e, e]
theorem half_eq (a : Nat) : half a = bsteps 4 a := by
  have h : a = (16 * (a / 16)) ^^^ (a % 16) := by
    have h1 := Nat.two_pow_add_eq_or_of_lt (b := a % 16) (i := 4) (by omega) (a / 16)
    have h2 : 2 ^ 4 * (a / 16) ||| a % 16 = 2 ^ 4 * (a / 16) ^^^ a % 16 := by
      apply Nat.eq_of_testBit_eq; intro i
      rw [Nat.testBit_or, Nat.testBit_xor, Nat.testBit_two_pow_mul]
      by_cases hi : i < 4
      · simp only [ge_iff_le, show ¬ 4 ≤ i by omega, decide_false, Bool.false_and, Bool.false_or, Bool.false_xor]
      · have : (a % 16).testBit i = false := Nat.testBit_lt_two_pow (Nat.lt_of_lt_of_le (Nat.mod_lt _ (by omega)) (Nat.pow_le_pow_right (n := 2) (by omega) (show 4 ≤ i by omega)))
        simp [this]
    rw [← h2, ← h1]; omega
  conv => rhs; rw [h]
  rw [bsteps_xor, bsteps_high, bsteps_low ⟨a % 16, by omega⟩]; rfl
theorem bsteps_add (m n r : Nat) : bsteps m (bsteps n r) = bsteps (m + n) r := by
  induction m with
  | zero => simp [bsteps]
  | succ m ih => rw [Nat.succ_add]; simp only [bsteps, ih]
theorem upd_eq (r : Nat) (c : UInt8) : upd r c = bsteps 8 (r ^^^ c.toNat) := by
  unfold upd; rw [half_eq, half_eq, bsteps_add]

set_option maxHeartbeats 400000 in
theorem rsum_any (A : Option Addr) (c : Nat) (l : List UInt8) (w : World) (B : Nat) (h : BytesIn w B A c l) :
    Calls Tryd.prog 56 #[.slice A l.length c] w fun e w' => e = .returned (.int .u32 (crc l : Int)) ∧ w = w' := by
  have h1 := h.le
  have h2 := h.cap
  have HB := Lib.hid h; clear h
  go_enter Tryd.func56, Tryd.ntmps56
  go_wp2
  go_loop [3, 4] (fun r i => ∃ k x : Nat, k ≤ l.length ∧ i = .int .i64 k ∧ x < 4294967296 ∧ Hid (x = reg 4294967295 (l.take k)) ∧ r = .int .u32 (x : Int)) (fun _ i => l.length - (intOf i).toNat)
  case atStart => exact ⟨0, 4294967295, Nat.zero_le _, rfl, by omega, rfl, rfl⟩
  case round =>
    obtain ⟨k, x, hk, rfl, hx, hX, rfl⟩ := hrel
    by_cases hlt : k < l.length
    · obtain ⟨b, off, rfl, hb, hc⟩ := HB.out.at_ hlt
      have hc1 := hc k hlt
      clear hc
      have e1 := xor_c x l[k] hx
      obtain ⟨a1, ha1, hA1, E1⟩ : ∃ a1 : Nat, bits .xor .u32 (x : Int) ((l[k].toNat : Int) % 4294967296) = (a1 : Int) ∧ a1 < 4294967296 ∧ Hid (a1 = x ^^^ l[k].toNat) := ⟨_, e1, Nat.xor_lt_two_pow (n := 32) hx (by have := l[k].toNat_lt; omega), rfl⟩
      clear e1
      go_wp2
      go_loop [3, 5] (fun r i => ∃ n y : Nat, n ≤ 8 ∧ i = .int .i64 n ∧ y < 4294967296 ∧ Hid (y = bsteps n a1) ∧ r = .int .u32 (y : Int)) (fun _ i => 8 - (intOf i).toNat)
      case atStart => exact ⟨0, a1, Nat.zero_le _, rfl, hA1, rfl, rfl⟩
      case round =>
        obtain ⟨n, y, hn, rfl, hy, hY, rfl⟩ := hrel
        by_cases hn8 : n < 8
        · by_cases hp : y % 2 = 1
          · obtain ⟨z, hz, hzl, hZ⟩ : ∃ z : Nat, bits .xor .u32 ((y : Int) / 2) 3988292384 = (z : Int) ∧ z < 4294967296 ∧ Hid (z = bstep y) := by
              refine ⟨bstep y, ?_, bstep_lt y hy, rfl⟩
              have := u32_xor_nat (y / 2) 3988292384 (by omega) (by omega)
              rw [show ((y : Int) / 2) = ((y / 2 : Nat) : Int) by omega, show (3988292384 : Int) = ((3988292384 : Nat) : Int) from rfl, this, bstep, if_pos hp]
            have q1 : ((y : Int) % 2 == 1) = true := by rw [beq_iff_eq]; omega
            clear hp
            go_wp2
            go_round
            case rel => exact ⟨n + 1, z, by omega, by go_num, hzl, by rw [hZ.out, hY.out]; rfl, rfl⟩
            case measure => simp [intOf]; omega
          · have q1 : ((y : Int) % 2 == 1) = false := by rw [beq_eq_false_iff_ne]; omega
            have hb0 : bstep y = y / 2 := by unfold bstep; rw [if_neg hp]
            have HB0 := Lib.hid hb0; clear hb0
            clear hp
            go_wp2
            go_round
            case rel => exact ⟨n + 1, y / 2, by omega, by go_num, by omega, by show y / 2 = bsteps (n + 1) a1; rw [← HB0.out, hY.out]; rfl, by go_num⟩
            case measure => simp [intOf]; omega
        · have en : n = 8 := by omega
          have hY8 : reg 4294967295 (List.take (k + 1) l) = y := by
            rw [take_snoc l k hlt, reg_snoc, ← hX.out, upd_eq, ← E1.out, hY.out, en]
          have HY8 := Lib.hid hY8; clear hY8 en
          go_wp2
          go_round
          case rel => exact ⟨k + 1, y, by omega, by go_num, hy, HY8.out.symm, rfl⟩
          case measure => simp [intOf]; omega
    · have e0 : l.take k = l := List.take_of_length_le (by omega)
      rw [e0] at hX
      clear e0
      go_wp2
      go_ret
      exact ⟨ret_int (by rw [crc, ← hX.out]; omega), rfl⟩
theorem rsum_n (A : Option Addr) (c n : Nat) (l : List UInt8) (w : World) (B : Nat) (h : BytesIn w B A c l) (hn : n = l.length) :
    Calls Tryd.prog 56 #[.slice A n c] w fun e w' => e = .returned (.int .u32 (crc l : Int)) ∧ w = w' := by
  subst hn; exact rsum_any A c l w B h
end Go.Proofs.YtkenaoejijpgpaaDoor
