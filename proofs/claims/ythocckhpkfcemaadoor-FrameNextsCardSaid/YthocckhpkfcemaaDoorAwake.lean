/- The document's examples hold. -/
import Derived.Test.YthocckhpkfcemaaDoorRefScan
namespace Go.Proofs.YthocckhpkfcemaaDoor
open Go.RowKit

theorem crc_9 : crc [49, 50, 51, 52, 53, 54, 55, 56, 57] = 3421780262 := by decide +kernel
theorem look_a : lookE (frameOf [97] ++ [1, 2]) = 0 := by decide +kernel
theorem num_a : num4 (frameOf [97] ++ [1, 2]) = 1 := by decide +kernel
theorem body_a : bodyOf (frameOf [97] ++ [1, 2]) = [97] := by decide +kernel
theorem look_b : lookE ((frameOf [97] ++ [1, 2]).drop 9) = 10 := by decide +kernel
theorem scan_a : scanL (frameOf [97] ++ [1, 2]) = [[97]] := by
  rw [scanL_ok look_a, num_a, body_a, scanL_no (by rw [look_b]; decide)]
theorem at_a : scanAt (frameOf [97] ++ [1, 2]) = 9 := by
  rw [scanAt_ok look_a, num_a, scanAt_no (by rw [look_b]; decide)]
set_option maxHeartbeats 1000000 in
theorem awake_any (w : World) (h0 : 0 < w.heap.size) (hh : Hal w) :
    Calls Tryd.prog 9 #[] w fun e w' => e = .returned (.bool true) ∧ Below w.heap.size w w' := by
  obtain ⟨i5, hi, hz0, hz1, hz2⟩ := info_parts Tryd.info5
  have hb1 : Below w.heap.size w (w.alloc (.cells #[.int .u8 97] 5 (1, 2))) := (Below.refl _ _).alloc (Nat.le_refl _) _
  have HH := Lib.hid (hh.below hb1 h0)
  have HB := Lib.hid (bytes_new w #[.int .u8 97] 5 (1, 2) [97] 1 rfl rfl (by omega))
  have HB1 := Lib.hid hb1; clear hb1
  have HH0 := Lib.hid hh; clear hh
  have kc := fun (w : World) (C : Array Value) (n c : Nat) => Lib.run_convert_bytes_const (P := Tryd.prog) w 22 5 C n c Tryd.underlying22 Tryd.underlying5
  go_enter Tryd.func9, Tryd.ntmps9
  go_wp2_with fail
  refine (frame_any _ _ _ [97] _ (by simpa using HB.out) HH.out (by simp) (by decide) rfl).mono ?_
  rintro e w1 ⟨A2, c2, rfl, hown, hb⟩
  have HB2 := Lib.hid (HB1.out.trans (hb.mono (by simp)))
  have HO : Hid (w1.ownsRow w.heap.size 5 1 (.slice A2 9 c2) 9 (cells8 (frameOf [97]))) := Lib.hid (own_low hown (by simp))
  have hs2 : w.heap.size ≤ w1.heap.size := HB2.out.size
  clear hown hb HB HB1 HH
  go_wp2_with (at_builtin; refine wpList_append_row _ rfl (.tmp 11) (.tmp 12) _ rfl w.heap.size 5 i5 _ 1 1 Tryd.underlying22 hi hz0 hz1 hz2 rfl (by omega) A2 9 c2 (cells8 (frameOf [97])) rfl (HO.out.alloc _) _ _ 2 _ _ rfl (cellsIn_alloc w1 #[.int .u8 1, .int .u8 2] 5 (0, 0) 1 2 rfl) (by simp [Value.oneCell']) (by unfold maxLen; omega) (by omega) (by simp; omega) ?_; intro A3 c3 w3 hown3 hg3 hat3; have HO3 := Lib.hid hown3; have HG3 := Lib.hid hg3; clear hown3 hg3 hat3)
  have hb3 : Below w.heap.size w w3 := (HB2.out.alloc hs2 _).grown HG3.out (by simp; omega) (fun q hq => (HO.out.lt q hq).1)
  have hr3 : BytesIn w3 w3.heap.size A3 c3 (frameOf [97] ++ [1, 2]) := (bytesIn_of_own (n := 11) (e := 5) (base := w.heap.size) (by rw [cells8_append]; exact HO3.out)).2
  have HB3 := Lib.hid hb3
  have HR3 := Lib.hid hr3
  have hs3 : w.heap.size ≤ w3.heap.size := HB3.out.size
  clear hb3 hr3 HG3 HO3 HO
  refine (scan_any _ _ _ _ w3 HR3.out (by omega) (HH0.out.below HB3.out h0) (by decide +kernel) (by omega)).mono ?_
  rw [scan_a, at_a]
  rintro e w5 ⟨Ao, co, vs, rfl, hown5, hrow5, hb5⟩
  obtain ⟨hv1, hv2⟩ := hrow5
  obtain ⟨Ab, cb, hv3, hown6⟩ := hv2 0 (by decide)
  have hc0 := (bytesIn_of_own hown6).2
  obtain ⟨g, off, rfl, hg, hcell⟩ := (cellsIn_of_own hown5).at_ hv3
  have HB5 := Lib.hid (HB3.out.trans (hb5.mono hs3))
  have hs5 : w.heap.size ≤ w5.heap.size := HB5.out.size
  have hb6 : Below w5.heap.size w5 (w5.alloc (.cells #[.int .u8 49, .int .u8 50, .int .u8 51, .int .u8 52, .int .u8 53, .int .u8 54, .int .u8 55, .int .u8 56, .int .u8 57] 5 (9, 10))) := (Below.refl _ _).alloc (Nat.le_refl _) _
  have hal6 := Lib.hid ((HH0.out.below HB5.out h0).below hb6 (by omega))
  have hr6 := Lib.hid (bytes_new w5 #[.int .u8 49, .int .u8 50, .int .u8 51, .int .u8 52, .int .u8 53, .int .u8 54, .int .u8 55, .int .u8 56, .int .u8 57] 5 (9, 10) [49, 50, 51, 52, 53, 54, 55, 56, 57] 9 rfl rfl (by omega))
  have hc6 : (w5.alloc (.cells #[.int .u8 49, .int .u8 50, .int .u8 51, .int .u8 52, .int .u8 53, .int .u8 54, .int .u8 55, .int .u8 56, .int .u8 57] 5 (9, 10))).cell? ⟨g, off, none⟩ = some (.slice Ab 1 cb) := by
    rw [hb6.cell (p := ⟨g, off, none⟩) hg]; exact hcell
  have hz6 : (convert 22 9 (.slice Ab 1 cb)).run Tryd.prog (w5.alloc (.cells #[.int .u8 49, .int .u8 50, .int .u8 51, .int .u8 52, .int .u8 53, .int .u8 54, .int .u8 55, .int .u8 56, .int .u8 57] 5 (9, 10))) = .ok (.string (str [97])) (w5.alloc (.cells #[.int .u8 49, .int .u8 50, .int .u8 51, .int .u8 52, .int .u8 53, .int .u8 54, .int .u8 55, .int .u8 56, .int .u8 57] 5 (9, 10))) :=
    run_string (hc0.below hb6 (Nat.le_refl _)) rfl 22 5 9 Tryd.underlying22 Tryd.underlying5 Tryd.underlying9
  have HB6 := Lib.hid (HB5.out.trans (hb6.mono hs5))
  clear hcell hv1 hv2 hv3 hown5 hown6 hb5 hc0 hb6
  go_wp2_with fail
  refine (sum_n _ _ _ [49, 50, 51, 52, 53, 54, 55, 56, 57] _ _ hr6.out hal6.out rfl).mono ?_
  rw [crc_9]
  rintro e w' ⟨rfl, rfl⟩
  go_wp2_with fail
  go_ret
  exact ⟨rfl, HB6.out⟩
end Go.Proofs.YthocckhpkfcemaaDoor
