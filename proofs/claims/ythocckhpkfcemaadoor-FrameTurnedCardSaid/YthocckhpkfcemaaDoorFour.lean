/- Four bytes put behind a row of the call's own; the document's four bytes. -/
import Derived.Test.YthocckhpkfcemaaDoorNum
namespace Go.Proofs.YthocckhpkfcemaaDoor
open Go.RowKit

def be4 (n : Nat) : List UInt8 := [UInt8.ofNat (n / 16777216), UInt8.ofNat (n / 65536), UInt8.ofNat (n / 256), UInt8.ofNat n]
theorem be4_length (n : Nat) : (be4 n).length = 4 := rfl
theorem u8_of (n : Nat) : ((UInt8.ofNat n).toNat : Int) = (n : Int) % 256 := by simp

theorem Tryd.info5 : (Tryd.prog.info? 5).map (fun i => (i.zero, i.size, i.bytes)) = some (some (.int .u8 0), 1, 1) := by kernel_rfl

theorem be4_cells (n : Nat) (h : n < 4294967296) : [Value.int .u8 ((n : Int) / 16777216), .int .u8 ((n : Int) / 65536 % 256), .int .u8 ((n : Int) / 256 % 256), .int .u8 ((n : Int) % 256)] = cells8 (be4 n) := by
  unfold cells8 be4
  simp only [List.map_cons, List.map_nil, u8_of]
  rw [show (((n / 16777216 : Nat) : Int)) % 256 = (n : Int) / 16777216 by omega]
  simp only [Int.natCast_ediv]
  rfl

set_option maxHeartbeats 400000 in
theorem four_any (A : Option Addr) (c : Nat) (l : List UInt8) (n : Nat) (w : World) (base m : Nat) (hn : n < 4294967296) (h : w.ownsRow base 5 1 (.slice A m c) m (cells8 l))
    (hl : m ≤ 100000000) (hbase : base ≤ w.heap.size) :
    Calls Tryd.prog 19 #[.slice A m c, .int .u32 (n : Int)] w fun e w' => ∃ A2 c2, e = .returned (.slice A2 (m + 4) c2) ∧ w'.ownsRow base 5 1 (.slice A2 (m + 4) c2) (m + 4) (cells8 (l ++ be4 n)) ∧ w.grownBy w' (Value.ownBlock (.slice A m c)) := by
  obtain ⟨i0, hi, hz0, hz1, hz2⟩ := info_parts Tryd.info5
  have H := Lib.hid h; clear h
  go_enter Tryd.func19, Tryd.ntmps19
  go_wp2_with (at_builtin; refine wpList_append_row _ rfl (.tmp 5) (.tmp 17) _ rfl base 5 i0 _ 1 1 Tryd.underlying22 hi hz0 hz1 hz2 rfl (by omega) A m c (cells8 l) rfl (H.out.alloc _) _ _ 4 _ _ rfl (cellsIn_alloc _ _ _ _ 1 4 rfl) ?c1 ?c2 ?c3 ?c4 ?_)
  case c1 => exact ⟨rfl, rfl, rfl, rfl⟩
  case c2 => unfold maxLen; omega
  case c3 => omega
  case c4 => simp; omega
  intro A2 c2 w1 hown1 hg1 _
  have hfin : w1.ownsRow base 5 1 (.slice A2 (m + 4) c2) (m + 4) (cells8 (l ++ be4 n)) := by
    rw [cells8_append, ← be4_cells n hn]; exact hown1
  have HF := Lib.hid hfin
  clear hown1 hfin
  have hg2 : w.grownBy w1 (Value.ownBlock (.slice A m c)) := World.grownBy.trans (World.grownBy_alloc w _ _) hg1
  have HG := Lib.hid hg2
  clear hg1 hg2
  go_wp2
  go_ret
  exact ⟨A2, c2, rfl, HF.out, HG.out⟩

set_option maxHeartbeats 400000 in
theorem rfour_any (n : Nat) (w : World) (hn : n < 4294967296) :
    Calls Tryd.prog 20 #[.int .u32 (n : Int)] w fun e w' => ∃ A2 c2, e = .returned (.slice A2 4 c2) ∧ w'.ownsRow w.heap.size 5 1 (.slice A2 4 c2) 4 (cells8 (be4 n)) ∧ Below w.heap.size w w' := by
  go_enter Tryd.func20, Tryd.ntmps20
  go_wp2
  go_ret
  refine ⟨_, _, rfl, ?_, (Below.refl _ _).alloc (Nat.le_refl _) _⟩
  rw [← be4_cells n hn]
  exact own_alloc w _ 5 1 4 _ rfl (by unfold maxLen; omega) (Nat.le_refl _)
end Go.Proofs.YthocckhpkfcemaaDoor
