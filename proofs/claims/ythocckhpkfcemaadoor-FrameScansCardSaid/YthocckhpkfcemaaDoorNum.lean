/- The four bytes of a number, and back. -/
import Derived.Test.YthocckhpkfcemaaDoorRefSum
import Derived.Deep.QuietTactic
import Derived.BigQuiet
namespace Go.Proofs.YthocckhpkfcemaaDoor
open Go.RowKit

/-- The number of the first four bytes. -/
def num4 (l : List UInt8) : Nat := 16777216 * (l.getD 0 0).toNat + 65536 * (l.getD 1 0).toNat + 256 * (l.getD 2 0).toNat + (l.getD 3 0).toNat
theorem num4_lt (l : List UInt8) : num4 l < 4294967296 := by
  unfold num4
  have h0 := (l.getD 0 0).toNat_lt
  have h1 := (l.getD 1 0).toNat_lt
  have h2 := (l.getD 2 0).toNat_lt
  have h3 := (l.getD 3 0).toNat_lt
  omega

theorem wraps_u32 (n : Int) (h₀ : 0 ≤ n) (h₁ : n < 2 ^ 32) : IntKind.u32.wrap n = n := by rw [IntKind.wrap_u32]; omega
theorem or_join (i : Nat) (x y : Int) (hx₀ : 0 ≤ x) (hx : x % 2 ^ i = 0) (hx₁ : x < 2 ^ 32) (hy₀ : 0 ≤ y) (hy : y < 2 ^ i) (hy₁ : y < 2 ^ 32) : bits .or .u32 x y = x + y :=
  bits_join .u32 32 (by decide) wraps_u32 i x y hx₀ hx hx₁ hy₀ hy hy₁
theorem or4 (a b c d : UInt8) : bits .or .u32 (bits .or .u32 (bits .or .u32 ((a.toNat : Int) % 4294967296 * 16777216 % 4294967296) ((b.toNat : Int) % 4294967296 * 65536 % 4294967296)) ((c.toNat : Int) % 4294967296 * 256 % 4294967296)) ((d.toNat : Int) % 4294967296) =
    ((16777216 * a.toNat + 65536 * b.toNat + 256 * c.toNat + d.toNat : Nat) : Int) := by
  have h0 := a.toNat_lt
  have h1 := b.toNat_lt
  have h2 := c.toNat_lt
  have h3 := d.toNat_lt
  rw [or_join 24 ((a.toNat : Int) % 4294967296 * 16777216 % 4294967296) ((b.toNat : Int) % 4294967296 * 65536 % 4294967296) (by omega) (by omega) (by omega) (by omega) (by omega) (by omega)]
  rw [or_join 16 _ ((c.toNat : Int) % 4294967296 * 256 % 4294967296) (by omega) (by omega) (by omega) (by omega) (by omega) (by omega)]
  rw [or_join 8 _ ((d.toNat : Int) % 4294967296) (by omega) (by omega) (by omega) (by omega) (by omega) (by omega)]
  omega

set_option maxHeartbeats 400000 in
theorem number_any (A : Option Addr) (c : Nat) (l : List UInt8) (w : World) (B n : Nat) (h : BytesIn w B A c l) (h4 : 4 ≤ l.length) (hn : n = l.length) :
    Calls Tryd.prog 25 #[.slice A n c] w fun e w' => e = .returned (.int .u32 (num4 l : Int)) ∧ ∃ n, w' = w.drewN n := by
  subst hn
  obtain ⟨b, off, rfl, hb, hc⟩ := h.at_ (show 0 < l.length by omega)
  have hh4 : (3 : Int) < (l.length : Int) := by omega
  have c0 := hc 0 (by omega)
  have c1 := hc 1 (by omega)
  have c2 := hc 2 (by omega)
  have c3 := hc 3 (by omega)
  obtain ⟨b0, hb0⟩ : ∃ x, x = l[0] := ⟨_, rfl⟩
  obtain ⟨b1, hb1⟩ : ∃ x, x = l[1] := ⟨_, rfl⟩
  obtain ⟨b2, hb2⟩ : ∃ x, x = l[2] := ⟨_, rfl⟩
  obtain ⟨b3, hb3⟩ : ∃ x, x = l[3] := ⟨_, rfl⟩
  rw [← hb0] at c0
  rw [← hb1] at c1
  rw [← hb2] at c2
  rw [← hb3] at c3
  have hl0 : (0 : Int) < l.length := by omega
  have hl1 : (1 : Int) < l.length := by omega
  have hl2 : (2 : Int) < l.length := by omega
  have hfin : num4 l = 16777216 * b0.toNat + 65536 * b1.toNat + 256 * b2.toNat + b3.toNat := by
    rw [hb0, hb1, hb2, hb3]; unfold num4
    rw [← List.getElem_eq_getD 0 (h := by omega), ← List.getElem_eq_getD 0 (h := by omega), ← List.getElem_eq_getD 0 (h := by omega), ← List.getElem_eq_getD 0 (h := by omega)]
  have HF := Lib.hid hfin; clear hfin
  clear hc h4 hb0 hb1 hb2 hb3
  simp only [Nat.add_zero] at c0
  go_enter Tryd.func25, Tryd.ntmps25
  go_wp2
  go_quiet (fail)
  go_wp2
  go_ret
  exact ⟨ret_int (by rw [HF.out]; exact or4 b0 b1 b2 b3), nq, rfl⟩

set_option maxHeartbeats 400000 in
theorem rnumber_any (A : Option Addr) (c : Nat) (l : List UInt8) (w : World) (B n : Nat) (h : BytesIn w B A c l) (h4 : 4 ≤ l.length) (hn : n = l.length) :
    Calls Tryd.prog 24 #[.slice A n c] w fun e w' => e = .returned (.int .i64 (num4 l : Int)) ∧ ∃ n, w' = w.drewN n := by
  subst hn
  obtain ⟨b, off, rfl, hb, hc⟩ := h.at_ (show 0 < l.length by omega)
  have hh4 : (3 : Int) < (l.length : Int) := by omega
  have c0 := hc 0 (by omega)
  have c1 := hc 1 (by omega)
  have c2 := hc 2 (by omega)
  have c3 := hc 3 (by omega)
  obtain ⟨b0, hb0⟩ : ∃ x, x = l[0] := ⟨_, rfl⟩
  obtain ⟨b1, hb1⟩ : ∃ x, x = l[1] := ⟨_, rfl⟩
  obtain ⟨b2, hb2⟩ : ∃ x, x = l[2] := ⟨_, rfl⟩
  obtain ⟨b3, hb3⟩ : ∃ x, x = l[3] := ⟨_, rfl⟩
  rw [← hb0] at c0
  rw [← hb1] at c1
  rw [← hb2] at c2
  rw [← hb3] at c3
  have hl0 : (0 : Int) < l.length := by omega
  have hl1 : (1 : Int) < l.length := by omega
  have hl2 : (2 : Int) < l.length := by omega
  have hfin : num4 l = 16777216 * b0.toNat + 65536 * b1.toNat + 256 * b2.toNat + b3.toNat := by
    rw [hb0, hb1, hb2, hb3]; unfold num4
    rw [← List.getElem_eq_getD 0 (h := by omega), ← List.getElem_eq_getD 0 (h := by omega), ← List.getElem_eq_getD 0 (h := by omega), ← List.getElem_eq_getD 0 (h := by omega)]
  have HF := Lib.hid hfin; clear hfin
  clear hc h4 hb0 hb1 hb2 hb3
  simp only [Nat.add_zero] at c0
  have g0 : b0.toNat < 256 := b0.toNat_lt
  have g1 : b1.toNat < 256 := b1.toNat_lt
  have g2 : b2.toNat < 256 := b2.toNat_lt
  have g3 : b3.toNat < 256 := b3.toNat_lt
  go_enter Tryd.func24, Tryd.ntmps24
  go_wp2
  go_quiet (fail)
  go_wp2
  go_ret
  refine ⟨ret_int ?_, nq, rfl⟩
  rw [HF.out]; omega
end Go.Proofs.YthocckhpkfcemaaDoor
