/- Two rows of bytes that are the same. -/
import Derived.Test.YthocckhpkfcemaaDoorEach
namespace Go.Proofs.YthocckhpkfcemaaDoor
open Go.RowKit

/-- Rows of bytes that are read. -/
def RowsIn (w : World) (B : Nat) (vs : List Value) (ls : List (List UInt8)) : Prop :=
  vs.length = ls.length ∧ ∀ i (h : i < ls.length), ∃ A c, vs[i]? = some (.slice A ls[i].length c) ∧ BytesIn w B A c ls[i]
theorem RowsIn.of_own {w : World} {base : Nat} {vs : List Value} {ls : List (List UInt8)} (h : RowsOwn w base vs ls) : RowsIn w w.heap.size vs ls :=
  ⟨h.1, fun i hi => by obtain ⟨A, c, h1, h2⟩ := h.2 i hi; exact ⟨A, c, h1, (bytesIn_of_own h2).2⟩⟩
theorem RowsIn.below {w w' : World} {B B' : Nat} {vs : List Value} {ls : List (List UInt8)} (h : RowsIn w B vs ls) (hb : Below B' w w') (hB : B ≤ B') : RowsIn w' B vs ls :=
  ⟨h.1, fun i hi => by obtain ⟨A, c, h1, h2⟩ := h.2 i hi; exact ⟨A, c, h1, h2.below hb hB⟩⟩
theorem RowsIn.more {w : World} {B B' : Nat} {vs : List Value} {ls : List (List UInt8)} (h : RowsIn w B vs ls) (hB : B ≤ B') : RowsIn w B' vs ls :=
  ⟨h.1, fun i hi => by obtain ⟨A, c, h1, h2⟩ := h.2 i hi; exact ⟨A, c, h1, h2.more hB⟩⟩

set_option maxHeartbeats 1000000 in
theorem same_any (A1 A2 : Option Addr) (c1 c2 m : Nat) (vs1 vs2 : List Value) (ls : List (List UInt8)) (w : World) (B1 B2 : Nat) (hm : m = ls.length) (hm2 : m ≤ 100000000)
    (h1 : CellsIn w B1 1 A1 m vs1) (r1 : RowsIn w B1 vs1 ls) (h2 : CellsIn w B2 1 A2 m vs2) (r2 : RowsIn w B2 vs2 ls) :
    Calls Tryd.prog 16 #[.slice A1 m c1, .slice A2 m c2] w fun e w' => e = .returned (.bool true) ∧ ∃ n, w' = w.drewN n := by
  have H1 := Lib.hid h1; clear h1
  have H2 := Lib.hid h2; clear h2
  have R1 := Lib.hid r1; clear r1
  have R2 := Lib.hid r2; clear r2
  have HM := Lib.hid hm; clear hm
  go_enter Tryd.func16, Tryd.ntmps16
  go_wp2
  go_loopw [5] (fun i wr => ∃ k q : Nat, k ≤ m ∧ i = .int .i64 k ∧ Hid (wr = w.drewN q)) (fun i _ => m - (intOf i).toNat)
  case atStart => exact ⟨0, 0, Nat.zero_le _, rfl, rfl⟩
  case round =>
    obtain ⟨k, q, hk, rfl, HW⟩ := hrel
    by_cases hkm : k < m
    · have hkl : k < ls.length := by have := HM.out; omega
      obtain ⟨B1', d1, v1, y1⟩ := R1.out.2 k hkl
      obtain ⟨B2', d2, v2, y2⟩ := R2.out.2 k hkl
      obtain ⟨b1, o1, rfl, _, x1⟩ := H1.out.at_ v1
      obtain ⟨b2, o2, rfl, _, x2⟩ := H2.out.at_ v2
      have x1' : wr.cell? ⟨b1, o1 + k, none⟩ = some (.slice B1' ls[k].length d1) := by rw [HW.out]; exact x1
      have x2' : wr.cell? ⟨b2, o2 + k, none⟩ = some (.slice B2' ls[k].length d2) := by rw [HW.out]; exact x2
      have z1 : ∀ n, (convert 22 9 (.slice B1' ls[k].length d1)).run Tryd.prog (wr.drewN n) = .ok (.string (str ls[k])) (wr.drewN n) := fun n => by
        rw [HW.out]; exact run_string ((y1.drewN q).drewN n) rfl 22 5 9 Tryd.underlying22 Tryd.underlying5 Tryd.underlying9
      have z2 : ∀ n, (convert 22 9 (.slice B2' ls[k].length d2)).run Tryd.prog (wr.drewN n) = .ok (.string (str ls[k])) (wr.drewN n) := fun n => by
        rw [HW.out]; exact run_string ((y2.drewN q).drewN n) rfl 22 5 9 Tryd.underlying22 Tryd.underlying5 Tryd.underlying9
      have hkm' : (k : Int) < (m : Int) := by omega
      have hk0 : (0 : Int) ≤ (k : Int) := by omega
      obtain ⟨N, hN⟩ : ∃ N, N = ls[k].length := ⟨_, rfl⟩
      obtain ⟨s, hs⟩ : ∃ s, s = str ls[k] := ⟨_, rfl⟩
      rw [← hN, ← hs] at z1 z2
      rw [← hN] at x1' x2'
      clear hN hs x1 x2 v1 v2 y1 y2
      go_wp2_with fail
      go_quiet (fail)
      go_wp2_with fail
      go_roundw
      case rel => exact ⟨k + 1, q + nq, by omega, by go_num, Lib.hid (by rw [HW.out]; simp)⟩
      case measure => simp [intOf]; omega
    · have hE : ∃ n, wr = w.drewN n := ⟨q, HW.out⟩
      have HE := Lib.hid hE; clear hE
      go_wp2_with fail
      go_ret
      exact ⟨rfl, HE.out⟩
end Go.Proofs.YthocckhpkfcemaaDoor
