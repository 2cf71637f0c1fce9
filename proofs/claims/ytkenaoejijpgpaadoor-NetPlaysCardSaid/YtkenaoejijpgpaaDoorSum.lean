/- The sum of bytes: what frame.Sum and the document's Sum compute. -/
import Derived.Test.YtkenaoejijpgpaaDoorBase
namespace Go.Proofs.YtkenaoejijpgpaaDoor
open Go.RowKit

def tab (k : Nat) : Nat := [0, 498536548, 997073096, 651767980, 1994146192, 1802195444, 1303535960, 1342533948, 3988292384, 4027552580, 3604390888, 3412177804, 2607071920, 2262029012, 2685067896, 3183342108].getD k 0
def Hal (w : World) : Prop := ∀ i, i < 16 → w.cell? ⟨0, i, none⟩ = some (.int .u32 (tab i : Int))

def half (a : Nat) : Nat := (a / 16) ^^^ tab (a % 16)
def upd (r : Nat) (c : UInt8) : Nat := half (half (r ^^^ c.toNat))
def reg (r : Nat) (l : List UInt8) : Nat := l.foldl upd r
def crc (l : List UInt8) : Nat := 4294967295 - reg 4294967295 l

theorem tab_lt (k : Nat) : tab k < 4294967296 := by
  by_cases h : k < 16
  · have : ∀ k : Fin 16, tab k.1 < 4294967296 := by decide
    exact this ⟨k, h⟩
  · unfold tab; rw [List.getD_eq_getElem?_getD, List.getElem?_eq_none (by simpa using h)]; decide
theorem half_lt (a : Nat) (h : a < 4294967296) : half a < 4294967296 := by
  unfold half
  exact Nat.xor_lt_two_pow (n := 32) (by omega) (tab_lt _)
theorem upd_lt (r : Nat) (c : UInt8) (h : r < 4294967296) : upd r c < 4294967296 := by
  unfold upd
  have := c.toNat_lt
  exact half_lt _ (half_lt _ (Nat.xor_lt_two_pow (n := 32) h (by omega)))
theorem reg_lt (l : List UInt8) : ∀ r, r < 4294967296 → reg r l < 4294967296 := by
  induction l with
  | nil => intro r h; exact h
  | cons c l ih => intro r h; exact ih _ (upd_lt r c h)
theorem reg_snoc (r : Nat) (l : List UInt8) (c : UInt8) : reg r (l ++ [c]) = upd (reg r l) c := by unfold reg; simp

theorem xor_c (x : Nat) (c : UInt8) (h : x < 4294967296) : bits .xor .u32 (x : Int) ((c.toNat : Int) % 4294967296) = ((x ^^^ c.toNat : Nat) : Int) := by
  have hc := c.toNat_lt
  have : ((c.toNat : Int) % 4294967296) = (c.toNat : Int) := by omega
  rw [this]; exact u32_xor_nat _ _ h (by omega)
theorem not_u32 (x : Nat) (h : x < 4294967296) : bits .xor .u32 IntKind.u32.max (x : Int) = ((4294967295 - x : Nat) : Int) := by
  have e : IntKind.u32.max = ((4294967295 : Nat) : Int) := by decide
  have e2 : (4294967295 ^^^ x : Nat) = 4294967295 - x := by
    have h1 : (BitVec.allOnes 32 ^^^ BitVec.ofNat 32 x).toNat = (~~~ BitVec.ofNat 32 x).toNat := by rw [BitVec.allOnes_xor]
    rw [BitVec.toNat_xor, BitVec.toNat_not, BitVec.toNat_ofNat, BitVec.toNat_allOnes, Nat.mod_eq_of_lt (by omega)] at h1
    simpa using h1
  rw [e, u32_xor_nat _ _ (by omega) h, e2]
theorem half_facts (a : Nat) (h : a < 4294967296) : ∃ i b : Nat, i < 16 ∧ b < 4294967296 ∧ bits .and .u32 (a : Int) 15 = (i : Int) ∧ bits .xor .u32 ((a : Int) / 16) (tab i : Int) = (b : Int) ∧ Hid (b = half a) := by
  refine ⟨a % 16, half a, by omega, half_lt a h, ?_, ?_, rfl⟩
  · have := u32_and_nat a 15 h (by omega)
    rw [show (15 : Int) = ((15 : Nat) : Int) from rfl, this]
    congr 1
    exact Nat.and_two_pow_sub_one_eq_mod a 4
  · have := u32_xor_nat (a / 16) (tab (a % 16)) (by omega) (tab_lt _)
    rw [show ((a : Int) / 16) = ((a / 16 : Nat) : Int) by omega, this]; rfl

theorem ret_int {k : IntKind} {a b : Int} (h : a = b) : Ending.returned (.int k a) = .returned (.int k b) := by rw [h]
theorem take_snoc {α : Type} (l : List α) (k : Nat) (h : k < l.length) : l.take (k + 1) = l.take k ++ [l[k]] := by
  rw [List.take_succ_eq_append_getElem h]

set_option maxHeartbeats 400000 in
theorem sum_any (A : Option Addr) (c : Nat) (l : List UInt8) (w : World) (B : Nat) (h : BytesIn w B A c l) (hh : Hal w) :
    Calls Tryd.prog 65 #[.slice A l.length c] w fun e w' => e = .returned (.int .u32 (crc l : Int)) ∧ w = w' := by
  have h1 := h.le
  have h2 := h.cap
  have HB := Lib.hid h; clear h
  have HH := Lib.hid hh; clear hh
  go_enter Tryd.func65, Tryd.ntmps65
  go_wp2
  go_loop [3, 8] (fun r i => ∃ k x : Nat, k ≤ l.length ∧ i = .int .i64 k ∧ x < 4294967296 ∧ Hid (x = reg 4294967295 (l.take k)) ∧ r = .int .u32 (x : Int)) (fun _ i => l.length - (intOf i).toNat)
  case atStart => exact ⟨0, 4294967295, Nat.zero_le _, rfl, by omega, rfl, rfl⟩
  case round =>
    obtain ⟨k, x, hk, rfl, hx, hX, rfl⟩ := hrel
    by_cases hlt : k < l.length
    · obtain ⟨b, off, rfl, hb, hc⟩ := HB.out.at_ hlt
      have hc1 := hc k hlt
      clear hc
      have e1 := xor_c x l[k] hx
      obtain ⟨a1, ha1, hA1, E1⟩ : ∃ a1 : Nat, bits .xor .u32 (x : Int) ((l[k].toNat : Int) % 4294967296) = (a1 : Int) ∧ a1 < 4294967296 ∧ Hid (a1 = x ^^^ l[k].toNat) := ⟨_, e1, Nat.xor_lt_two_pow (n := 32) hx (by have := l[k].toNat_lt; omega), rfl⟩
      clear e1
      obtain ⟨i1, a2, hi1, ha2, f1, f2, E2⟩ := half_facts a1 hA1
      obtain ⟨i2, a3, hi2, ha3, g1, g2, E3⟩ := half_facts a2 ha2
      have t1 := HH.out i1 hi1
      have t2 := HH.out i2 hi2
      go_wp2
      go_round
      case rel => exact ⟨k + 1, a3, by omega, by go_num, ha3, by rw [take_snoc l k hlt, reg_snoc, ← hX.out, E3.out, E2.out, E1.out]; rfl, rfl⟩
      case measure => simp [intOf]; omega
    · have hk' : k = l.length := by omega
      have e0 : l.take k = l := List.take_of_length_le (by omega)
      rw [e0] at hX
      clear e0
      have n1 := not_u32 x hx
      go_wp2
      go_ret
      exact ⟨by rw [crc, ← hX.out]; rfl, rfl⟩
theorem sum_n (A : Option Addr) (c n : Nat) (l : List UInt8) (w : World) (B : Nat) (h : BytesIn w B A c l) (hh : Hal w) (hn : n = l.length) :
    Calls Tryd.prog 65 #[.slice A n c] w fun e w' => e = .returned (.int .u32 (crc l : Int)) ∧ w = w' := by
  subst hn; exact sum_any A c l w B h hh
theorem Hal.below {w w' : World} {B : Nat} (h : Hal w) (hb : Below B w w') (h0 : 0 < B) : Hal w' :=
  fun i hi => (hb.cell (p := ⟨0, i, none⟩) h0).trans (h i hi)
end Go.Proofs.YtkenaoejijpgpaaDoor
