/- An act over both, whole. -/
import Derived.Test.YtkenaoejijpgpaaDoorPlayA
import Derived.Test.YtkenaoejijpgpaaDoorPlayB
import Derived.Test.YtkenaoejijpgpaaDoorPlayC
import Derived.Test.YtkenaoejijpgpaaDoorActs18
namespace Go.Proofs.YtkenaoejijpgpaaDoor
open Go.RowKit

theorem and7 (p : Int) : ∃ K : Nat, K < 8 ∧ bits .and .i64 p 7 = (K : Int) := by
  have h : ∃ b : Nat, bits .and .i64 p 7 = IntKind.i64.wrap ((b % 8 : Nat) : Int) := by
    refine ⟨(BitVec.ofInt 64 p).toNat, ?_⟩
    show IntKind.i64.wrap ((BitVec.ofInt 64 p &&& BitVec.ofInt 64 7).toNat : Int) = _
    have e : (BitVec.ofInt 64 7).toNat = 7 := by decide
    rw [BitVec.toNat_and, e]
    congr 2
    exact Nat.and_two_pow_sub_one_eq_mod _ 3
  obtain ⟨b, hb⟩ := h
  refine ⟨b % 8, Nat.mod_lt _ (by omega), ?_⟩
  rw [hb, IntKind.wrap_i64]
  omega

theorem done_of (kd ix to_ bit : Int) (Ab : Option Addr) (nb cb : Nat) (bs : List UInt8) {w : World} {S B N Lc n c : Nat} {LA A : Option Addr} {l : List Pv} (h : Both w S B N LA Lc A n c l) (hSB : S ≤ B) (hby : BytesIn w S Ab cb bs) (hnb : nb = bs.length) (hbs : nb ≤ 1000) (hbt : bit ≤ 9223372036854775807) :
    Calls Tryd.prog 24 #[.pointer (some ⟨N, 0, none⟩), .slice A n c, .agg #[.int .i64 kd, .int .i64 ix, .int .i64 to_, .int .i64 bit, .slice Ab nb cb]] w fun e w' => DoneTo w S B N e w' := by
  obtain ⟨K, hK, e⟩ := and7 kd
  by_cases hin : 0 ≤ ix ∧ ix < (n : Int)
  · obtain ⟨j, rfl⟩ : ∃ j : Nat, ix = (j : Int) := ⟨ix.toNat, by omega⟩
    have hj : j < n := by omega
    rcases (show K = 0 ∨ K = 1 ∨ K = 2 ∨ K = 3 ∨ K = 4 ∨ K = 5 ∨ K = 6 ∨ K = 7 by omega) with rfl | rfl | rfl | rfl | rfl | rfl | rfl | rfl
    · exact done_0T kd to_ bit j Ab nb cb bs h hSB hby hnb hbs hj e
    · exact done_1T kd to_ bit j Ab nb cb bs h hSB hby hnb hbs hj e
    · exact done_2T kd to_ bit j Ab nb cb bs h hSB hby hnb hbs hj e
    · exact done_3T kd to_ bit j Ab nb cb bs h hSB hby hnb hbs hj e
    · exact done_4T kd to_ bit j Ab nb cb bs h hSB hby hnb hbs hj e
    · exact done_5T kd to_ bit j Ab nb cb bs h hSB hby hnb hbs hj e
    · by_cases hneg : bit < 0
      · exact done_6N kd to_ bit j Ab nb cb bs h hSB hby hnb hbs hj e hneg
      · obtain ⟨tt, rfl⟩ : ∃ tt : Nat, bit = (tt : Int) := ⟨bit.toNat, by omega⟩
        have hjl : j < l.length := by have := h.len; omega
        by_cases hf : (l[j]).l.length ≤ tt / 8
        · exact done_6R kd to_ _ j Ab nb cb bs h hSB hby hnb hbs hj e tt rfl (by omega) (fun p hp => by rw [List.getElem?_eq_getElem hjl] at hp; injection hp with hp; rw [← hp]; exact hf)
        · exact done_6K kd to_ _ j Ab nb cb bs h hSB hby hnb hbs hj e tt rfl (by omega) (fun p hp => by rw [List.getElem?_eq_getElem hjl] at hp; injection hp with hp; rw [← hp]; exact Nat.lt_of_not_le hf)
    · exact done_7T kd to_ bit j Ab nb cb bs h hSB hby hnb hbs hj e
  · rcases (show K = 0 ∨ K = 1 ∨ K = 2 ∨ K = 3 ∨ K = 4 ∨ K = 5 ∨ K = 6 ∨ K = 7 by omega) with rfl | rfl | rfl | rfl | rfl | rfl | rfl | rfl
    · exact done_0F kd ix to_ bit Ab nb cb bs h hSB hby hnb hbs hin e
    · exact done_1F kd ix to_ bit Ab nb cb bs h hSB hby hnb hbs hin e
    · exact done_2F kd ix to_ bit Ab nb cb bs h hSB hby hnb hbs hin e
    · exact done_3F kd ix to_ bit Ab nb cb bs h hSB hby hnb hbs hin e
    · exact done_4F kd ix to_ bit Ab nb cb bs h hSB hby hnb hbs hin e
    · exact done_5F kd ix to_ bit Ab nb cb bs h hSB hby hnb hbs hin e
    · exact done_6F kd ix to_ bit Ab nb cb bs h hSB hby hnb hbs hin e
    · exact done_7F kd ix to_ bit Ab nb cb bs h hSB hby hnb hbs hin e
end Go.Proofs.YtkenaoejijpgpaaDoor
