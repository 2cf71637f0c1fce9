/- The arithmetic of the numbers as bytes: shifts and bits. -/
import Derived.Test.YtkenaoejijpgpaaDoorBase
import Derived.Test.YtkenaoejijpgpaaDoorVint
namespace Go.Proofs.YtkenaoejijpgpaaDoor
open Go.RowKit

/-- An operation whose run is known. -/
theorem wpList_op {P : Program} {ops : Array Oper} {rest : List Oper} {o : Oper} {a : Act} {w : World} {Q : Exit → Act → World → Prop} (hgd : o.guard = none) (v : Value)
    (hrun : (execOp a.eval o).run P w = .ok (.value v) w) (h : wpList P ops Q rest (a.put o.dst v) w) : wpList P ops Q (o :: rest) a w := by
  refine wpList_plain hgd fun K hK => ?_
  unfold Oper.wp
  rw [hrun]
  exact hK _ _ h
theorem wpList_shl {P : Program} {ops : Array Oper} {rest : List Oper} {o : Oper} {a : Act} {w : World} {Q : Exit → Act → World → Prop} (hgd : o.guard = none) (x y : Operand) (t u : TypeId) (ho : o.op = .binOp .shl t x y u)
    (k : IntKind) (m s z : Int) (hx : a.eval x = .int k m) (hy : a.eval y = .int .i64 s) (hs : 0 ≤ s) (hz : k.wrap (m * 2 ^ min s.toNat k.bits) = z)
    (h : wpList P ops Q rest (a.put o.dst (.int k z)) w) : wpList P ops Q (o :: rest) a w := by
  refine wpList_op hgd (.int k z) ?_ h
  unfold execOp
  rw [ho]
  simp only [hx, hy]
  have e : Op.shift .shl k m .i64 s = pure (.int k z) := by rw [← hz]; exact shift_shl_any k .i64 m s hs
  simp [eqGuard_shl, binOp_shl, e]
theorem wpList_or {P : Program} {ops : Array Oper} {rest : List Oper} {o : Oper} {a : Act} {w : World} {Q : Exit → Act → World → Prop} (hgd : o.guard = none) (x y : Operand) (t u : TypeId) (ho : o.op = .binOp .or t x y u)
    (k : IntKind) (m s z : Int) (hx : a.eval x = .int k m) (hy : a.eval y = .int k s) (hz : bits .or k m s = z)
    (h : wpList P ops Q rest (a.put o.dst (.int k z)) w) : wpList P ops Q (o :: rest) a w := by
  refine wpList_op hgd (.int k z) ?_ h
  unfold execOp
  rw [ho]
  simp only [hx, hy]
  simp [go_sem, hz]
theorem wpList_mul {P : Program} {ops : Array Oper} {rest : List Oper} {o : Oper} {a : Act} {w : World} {Q : Exit → Act → World → Prop} (hgd : o.guard = none) (x y : Operand) (t u : TypeId) (ho : o.op = .binOp .mul t x y u)
    (m s z : Int) (hx : a.eval x = .int .u64 m) (hy : a.eval y = .int .u64 s) (hz : IntKind.u64.wrap (m * s) = z)
    (h : wpList P ops Q rest (a.put o.dst (.int .u64 z)) w) : wpList P ops Q (o :: rest) a w := by
  refine wpList_op hgd (.int .u64 z) ?_ h
  unfold execOp
  rw [ho]
  simp only [hx, hy]
  have e : (binOp .mul t (.int .u64 m) (.int .u64 s)) = pure (.int .u64 z) := by rw [← hz]; rfl
  have e2 : eqGuard .mul t x y (.int .u64 m) (.int .u64 s) = pure () := rfl
  simp [e, e2]
theorem wpList_add {P : Program} {ops : Array Oper} {rest : List Oper} {o : Oper} {a : Act} {w : World} {Q : Exit → Act → World → Prop} (hgd : o.guard = none) (x y : Operand) (t u : TypeId) (ho : o.op = .binOp .add t x y u)
    (m s z : Int) (hx : a.eval x = .int .u64 m) (hy : a.eval y = .int .u64 s) (hz : IntKind.u64.wrap (m + s) = z)
    (h : wpList P ops Q rest (a.put o.dst (.int .u64 z)) w) : wpList P ops Q (o :: rest) a w := by
  refine wpList_op hgd (.int .u64 z) ?_ h
  unfold execOp
  rw [ho]
  simp only [hx, hy]
  have e : (binOp .add t (.int .u64 m) (.int .u64 s)) = pure (.int .u64 z) := by rw [← hz]; rfl
  have e2 : eqGuard .add t x y (.int .u64 m) (.int .u64 s) = pure () := rfl
  simp [e, e2]

theorem and127 (D : Nat) (h : D < 256) : bits .and .u8 (D : Int) 127 = ((D % 128 : Nat) : Int) := by
  have := u8_and_nat D 127 h (by omega)
  rw [show (127 : Int) = ((127 : Nat) : Int) from rfl, this]
  congr 1
  exact Nat.and_two_pow_sub_one_eq_mod D 7
theorem pow128 (k : Nat) : 2 ^ (7 * k) = 128 ^ k := by rw [Nat.pow_mul]
/-- What a byte adds is no more than there is room for. -/
theorem room (k M x : Nat) (hk : k ≤ 9) (hx : x < 128 ^ k) (hM : M < 128) (h9 : k = 9 → M ≤ 1) : x + M * 128 ^ k < 18446744073709551616 := by
  rcases Nat.lt_or_ge k 9 with h | h
  · have h2 := Nat.pow_le_pow_right (show 0 < 128 by omega) (show k ≤ 8 by omega)
    have h3 : M * 128 ^ k ≤ 127 * 128 ^ k := Nat.mul_le_mul_right _ (by omega)
    omega
  · obtain rfl : k = 9 := by omega
    have h4 : M * 128 ^ 9 ≤ 1 * 128 ^ 9 := Nat.mul_le_mul_right _ (h9 rfl)
    omega
theorem shl_u64 (k M Y : Nat) (hk : k ≤ 9) (hY : Y = M * 128 ^ k) (h : Y < 18446744073709551616) : IntKind.u64.wrap ((M : Int) * 2 ^ min (7 * (k : Int)).toNat IntKind.u64.bits) = (Y : Int) := by
  have e1 : min (7 * (k : Int)).toNat IntKind.u64.bits = 7 * k := by
    have : IntKind.u64.bits = 64 := rfl
    rw [this]; omega
  have e2 : ((M : Int) * 2 ^ (7 * k)) = (Y : Int) := by
    rw [hY, ← pow128]
    simp
  rw [e1, e2, IntKind.wrap_u64]
  omega
theorem or_u64 (k x Y M : Nat) (hY : Y = M * 128 ^ k) (hx : x < 128 ^ k) (h : x + Y < 18446744073709551616) : bits .or .u64 (x : Int) (Y : Int) = ((x + Y : Nat) : Int) := by
  rw [u64_or_nat x Y (by omega) (by omega)]
  congr 1
  rw [← pow128] at hx hY
  have := Nat.two_pow_add_eq_or_of_lt hx M
  rw [hY, Nat.mul_comm M, Nat.add_comm, this, Nat.or_comm]
theorem mul_u64 (k p M Y : Nat) (hp : p = 128 ^ k) (hY : Y = M * 128 ^ k) (h : Y < 18446744073709551616) : IntKind.u64.wrap ((p : Int) * (M : Int)) = (Y : Int) := by
  have e : ((p : Int) * (M : Int)) = (Y : Int) := by
    rw [hY, hp]
    have : ((128 ^ k * M : Nat) : Int) = ((M * 128 ^ k : Nat) : Int) := by rw [Nat.mul_comm]
    rw [← this]; simp
  rw [e, IntKind.wrap_u64]
  omega
theorem add_u64 (x Y : Nat) (h : x + Y < 18446744073709551616) : IntKind.u64.wrap ((x : Int) + (Y : Int)) = ((x + Y : Nat) : Int) := by
  rw [IntKind.wrap_u64]; omega
theorem mul128_u64 (k p : Nat) (hp : p = 128 ^ k) (hk : k < 9) : IntKind.u64.wrap ((p : Int) * 128) = ((128 ^ (k + 1) : Nat) : Int) := by
  have h1 := pow_le9 (k + 1) (by omega)
  have e : ((p : Int) * 128) = ((128 ^ (k + 1) : Nat) : Int) := by rw [pow_step, hp]; simp
  rw [e, IntKind.wrap_u64]
  omega
theorem ofInt_i64 (a : Int) (h1 : -9223372036854775808 ≤ a) (h2 : a ≤ 9223372036854775807) : ((BitVec.ofInt 64 a).toNat : Int) = if 0 ≤ a then a else a + 18446744073709551616 := by
  rw [BitVec.toNat_ofInt]
  by_cases h : 0 ≤ a
  · rw [if_pos h]; omega
  · rw [if_neg h]; omega
theorem i64_xor_0 (a : Int) (h1 : -9223372036854775808 ≤ a) (h2 : a ≤ 9223372036854775807) : bits .xor .i64 a 0 = a := by
  show IntKind.i64.wrap ((BitVec.ofInt 64 a ^^^ BitVec.ofInt 64 0).toNat : Int) = _
  have e : BitVec.ofInt 64 0 = 0#64 := by decide
  rw [e, BitVec.xor_zero, ofInt_i64 a h1 h2, IntKind.wrap_i64]
  by_cases h : 0 ≤ a
  · rw [if_pos h]; omega
  · rw [if_neg h]; omega
theorem i64_xor_m1 (a : Int) (h1 : -9223372036854775808 ≤ a) (h2 : a ≤ 9223372036854775807) : bits .xor .i64 a (-1) = -a - 1 := by
  show IntKind.i64.wrap ((BitVec.ofInt 64 a ^^^ BitVec.ofInt 64 (-1)).toNat : Int) = _
  have e : BitVec.ofInt 64 (-1) = BitVec.allOnes 64 := by decide
  rw [e, BitVec.xor_allOnes, BitVec.toNat_not, IntKind.wrap_i64]
  have h3 := ofInt_i64 a h1 h2
  have h4 := (BitVec.ofInt 64 a).isLt
  by_cases h : 0 ≤ a
  · rw [if_pos h] at h3; omega
  · rw [if_neg h] at h3; omega
theorem u64_xor_0 (a : Nat) (h : a < 18446744073709551616) : bits .xor .u64 (a : Int) 0 = (a : Int) := by
  have := u64_xor_nat a 0 h (by omega)
  simpa using this
theorem u64_xor_m (a : Nat) (h : a < 18446744073709551616) : bits .xor .u64 (a : Int) 18446744073709551615 = ((18446744073709551615 - a : Nat) : Int) := by
  have e2 : (a ^^^ 18446744073709551615 : Nat) = 18446744073709551615 - a := by
    have h1 : (BitVec.ofNat 64 a ^^^ BitVec.allOnes 64).toNat = (~~~ BitVec.ofNat 64 a).toNat := by rw [BitVec.xor_allOnes]
    rw [BitVec.toNat_xor, BitVec.toNat_not, BitVec.toNat_ofNat, BitVec.toNat_allOnes, Nat.mod_eq_of_lt (by omega)] at h1
    simpa using h1
  have := u64_xor_nat a 18446744073709551615 h (by omega)
  rw [e2] at this
  exact this
theorem wrap64_in (a : Int) (h1 : -9223372036854775808 ≤ a) (h2 : a ≤ 9223372036854775807) : wrap64 a = a := by unfold wrap64; omega
/-- A number of either sign, out of the one without. -/
theorem int_of (n : Nat) (h : n < 18446744073709551616) : bits .xor .i64 (wrap64 ((n : Int) / 2)) (wrap64 (-wrap64 (bits .and .u64 (n : Int) 1))) = unzz n := by
  have e1 : wrap64 ((n : Int) / 2) = (n : Int) / 2 := wrap64_in _ (by omega) (by omega)
  have e2 : bits .and .u64 (n : Int) 1 = ((n % 2 : Nat) : Int) := by
    have := u64_and_nat n 1 h (by omega)
    rw [Nat.and_one_is_mod] at this
    exact this
  rw [e1, e2]
  unfold unzz
  by_cases h2 : n % 2 = 0
  · rw [if_pos h2, h2]
    have e3 : wrap64 (-wrap64 ((0 : Nat) : Int)) = 0 := by unfold wrap64; rfl
    rw [e3, i64_xor_0 _ (by omega) (by omega)]
    omega
  · have h3 : n % 2 = 1 := by omega
    rw [if_neg h2, h3]
    have e3 : wrap64 (-wrap64 ((1 : Nat) : Int)) = -1 := by unfold wrap64; rfl
    rw [e3, i64_xor_m1 _ (by omega) (by omega)]
    omega
theorem drop_cons8 (l : List UInt8) (k : Nat) (h : k < l.length) : l.drop k = l[k] :: l.drop (k + 1) := List.drop_eq_getElem_cons h
end Go.Proofs.YtkenaoejijpgpaaDoor
