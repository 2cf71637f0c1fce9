/- Another epoch. -/
import Derived.Test.YtpkefkoimlecjaaDoorDone
namespace Go.Proofs.YtpkefkoimlecjaaDoor
open Go.RowKit

theorem xor1_ne (e : Int) : bits .xor .i64 e 1 ≠ e := by
  intro h
  have h1 : bits .xor .i64 e 1 = IntKind.i64.wrap ((BitVec.ofInt 64 e ^^^ BitVec.ofInt 64 1).toNat : Int) := rfl
  rw [h1, IntKind.wrap_i64] at h
  have h2 : BitVec.ofInt 64 e = BitVec.ofInt 64 e ^^^ BitVec.ofInt 64 1 := by
    apply BitVec.eq_of_toNat_eq
    have hx := (BitVec.ofInt 64 e ^^^ BitVec.ofInt 64 1).isLt
    have he : ((BitVec.ofInt 64 e).toNat : Int) = e % 18446744073709551616 := by rw [BitVec.toNat_ofInt]; omega
    omega
  have h3 : (BitVec.ofInt 64 e).getLsbD 0 = (BitVec.ofInt 64 e ^^^ BitVec.ofInt 64 1).getLsbD 0 := by rw [← h2]
  have h4 : (BitVec.ofInt 64 1).getLsbD 0 = true := by decide
  rw [BitVec.getLsbD_xor, h4] at h3
  cases hb : (BitVec.ofInt 64 e).getLsbD 0 <;> rw [hb] at h3 <;> cases h3
end Go.Proofs.YtpkefkoimlecjaaDoor
