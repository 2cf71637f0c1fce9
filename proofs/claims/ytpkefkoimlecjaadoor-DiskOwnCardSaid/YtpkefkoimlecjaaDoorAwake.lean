/- The document's examples hold. -/
import Derived.Test.YtpkefkoimlecjaaDoorFenced
namespace Go.Proofs.YtpkefkoimlecjaaDoor
open Go.RowKit

def e0 : Dk := ⟨9, z0, [], [], [], false, 0⟩
def e1 : Dk := ⟨9, ⟨1, 7, 40⟩, [], [], [], false, 0⟩
def e2 : Dk := ⟨9, ⟨1, 7, 40⟩, [97, 98, 99], [], [], false, 0⟩
def e3 : Dk := ⟨9, ⟨1, 7, 40⟩, [97, 98, 99], [], [], true, 1⟩
def e4 : Dk := ⟨9, ⟨1, 7, 40⟩, [97, 98, 99, 100], [], [], false, 1⟩

set_option maxHeartbeats 1000000 in
theorem awake_any (w : World) : Calls Tryd.prog 7 #[] w fun e w' => e = .returned (.bool true) ∧ Below w.heap.size w w' := by
  obtain ⟨N, hN⟩ : ∃ N, N = w.heap.size := ⟨_, rfl⟩
  rw [← hN]
  have kc := fun (w : World) (C : Array Value) (n c : Nat) => Lib.run_convert_bytes_const (P := Tryd.prog) w 22 5 C n c Tryd.underlying22 Tryd.underlying5
  have HNN := Lib.hid hN
  have hnew := new_any 9 w
  rw [← hN, show fresh 9 = e0 from by decide] at hnew
  have HW := Lib.hid hnew
  clear hN hnew
  go_enter Tryd.func7, Tryd.ntmps7
  go_wp2_with fail
  refine HW.out.mono ?_
  clear HW
  rintro e w1 ⟨rfl, hd1, hb1⟩
  have HB1 := Lib.hid hb1
  have hsw := swap_any N e0 Lay.none ⟨0, 0, 0⟩ ⟨1, 7, 40⟩ w1 hd1
  rw [show swapE e0.c ⟨0, 0, 0⟩ ⟨1, 7, 40⟩ = 0 from by decide, show ({ e0 with c := swapC e0.c ⟨0, 0, 0⟩ ⟨1, 7, 40⟩ } : Dk) = e1 from by decide] at hsw
  have HS := Lib.hid hsw
  clear hsw hd1 hb1
  go_wp2_with fail
  refine HS.out.mono ?_
  clear HS
  rintro e w2 ⟨rfl, hd2, hch2⟩
  have HB2 := Lib.hid (HB1.out.trans (hch2.below (B := N) (by rw [HNN.out]; exact HB1.out.size) (fun k hk e => by omega)))
  clear hch2
  have hbn := (bytes_new w2 #[.int .u8 97, .int .u8 98, .int .u8 99] 5 (3, 4) [97, 98, 99] 3 rfl rfl (by omega))
  have hap := append_any N 3 e1 Lay.none 1 0 (some ⟨w2.heap.size, 0, none⟩) 3 [97, 98, 99] (w2.alloc (.cells #[.int .u8 97, .int .u8 98, .int .u8 99] 5 (3, 4))) (hd2.chg0 ((Chg.refl NoBlk w2).alloc _)) rfl (by simpa using hbn) (fun _ ad e => by injection e with e; subst e; have := hd2.glt; simp only; omega)
  rw [show apN e1 1 0 [97, 98, 99] = 3 from by decide, show apE e1 1 0 [97, 98, 99] = 0 from by decide, show apD e1 1 0 [97, 98, 99] = e2 from by decide] at hap
  have hba := Lib.hid (HB2.out.alloc (by have := hd2.glt; omega) (.cells #[.int .u8 97, .int .u8 98, .int .u8 99] 5 (3, 4)))
  have hda := Lib.hid (hd2.chg0 ((Chg.refl NoBlk w2).alloc (.cells #[.int .u8 97, .int .u8 98, .int .u8 99] 5 (3, 4))))
  have HS := Lib.hid hap
  clear hap hbn
  go_wp2_with fail
  refine HS.out.mono ?_
  clear HS
  rintro e w3 ⟨rfl, y3, hd3, hf3⟩
  have HB3 := Lib.hid (hba.out.trans (hf3.below (Nat.le_refl _) hda.out))
  clear hba hda hf3
  have hbn := (bytes_new w3 #[.int .u8 100] 5 (1, 2) [100] 1 rfl rfl (by omega))
  have hap := append_any N 1 e2 y3 0 3 (some ⟨w3.heap.size, 0, none⟩) 1 [100] (w3.alloc (.cells #[.int .u8 100] 5 (1, 2))) (hd3.chg0 ((Chg.refl NoBlk w3).alloc _)) rfl (by simpa using hbn) (fun _ ad e => by injection e with e; subst e; have := hd3.glt; simp only; omega)
  rw [show apN e2 0 3 [100] = 0 from by decide, show apE e2 0 3 [100] = 150 from by decide, show apD e2 0 3 [100] = e2 from by decide] at hap
  have hba := Lib.hid (HB3.out.alloc (by have := hd3.glt; omega) (.cells #[.int .u8 100] 5 (1, 2)))
  have hda := Lib.hid (hd3.chg0 ((Chg.refl NoBlk w3).alloc (.cells #[.int .u8 100] 5 (1, 2))))
  have HS := Lib.hid hap
  clear hap hbn
  go_wp2_with fail
  refine HS.out.mono ?_
  clear HS
  rintro e w4 ⟨rfl, y4, hd4, hf4⟩
  have HB4 := Lib.hid (hba.out.trans (hf4.below (Nat.le_refl _) hda.out))
  clear hba hda hf4
  have hcu := cut_any N e2 y4 1 w4 hd4
  rw [show ({ e2 with cut := true, at_ := 1 } : Dk) = e3 from by decide] at hcu
  have HS := Lib.hid hcu
  clear hcu
  go_wp2_with fail
  refine HS.out.mono ?_
  clear HS
  rintro e w5 ⟨rfl, hd5, hch5⟩
  have HB5 := Lib.hid (HB4.out.trans (hch5.below (B := N) (by have := hd4.glt; omega) (fun k hk e => by omega)))
  clear hch5
  have hbn := (bytes_new w5 #[.int .u8 100, .int .u8 101] 5 (2, 3) [100, 101] 2 rfl rfl (by omega))
  have hap := append_any N 2 e3 y4 1 3 (some ⟨w5.heap.size, 0, none⟩) 2 [100, 101] (w5.alloc (.cells #[.int .u8 100, .int .u8 101] 5 (2, 3))) (hd5.chg0 ((Chg.refl NoBlk w5).alloc _)) rfl (by simpa using hbn) (fun _ ad e => by injection e with e; subst e; have := hd5.glt; simp only; omega)
  rw [show apN e3 1 3 [100, 101] = 0 from by decide, show apE e3 1 3 [100, 101] = 152 from by decide, show apD e3 1 3 [100, 101] = e4 from by decide] at hap
  have hba := Lib.hid (HB5.out.alloc (by have := hd5.glt; omega) (.cells #[.int .u8 100, .int .u8 101] 5 (2, 3)))
  have hda := Lib.hid (hd5.chg0 ((Chg.refl NoBlk w5).alloc (.cells #[.int .u8 100, .int .u8 101] 5 (2, 3))))
  have HS := Lib.hid hap
  clear hap hbn
  go_wp2_with fail
  refine HS.out.mono ?_
  clear HS
  rintro e w6 ⟨rfl, y6, hd6, hf6⟩
  have HB6 := Lib.hid (hba.out.trans (hf6.below (Nat.le_refl _) hda.out))
  clear hba hda hf6
  have hlo := log_any N e4 y6 w6 hd6
  have HS := Lib.hid hlo
  clear hlo
  go_wp2_with fail
  refine HS.out.mono ?_
  clear HS
  rintro e w7 ⟨A7, c7, rfl, ho7, hb7⟩
  have hd7 := hd6.chg0 (Chg.of_below hb7)
  have HB7 := Lib.hid (HB6.out.trans (hb7.mono (by have := hd6.glt; omega)))
  have z7 : (convert 22 9 (.slice A7 4 c7)).run Tryd.prog w7 = .ok (.string (str [97, 98, 99, 100])) w7 := run_string (bytes_own ho7).2 rfl 22 5 9 Tryd.underlying22 Tryd.underlying5 Tryd.underlying9
  have hlen : e4.log.length = 4 := rfl
  have hcl : Hid (Calls Tryd.prog 20 #[.pointer (some ⟨N, 0, none⟩)] w7 fun e w' => e = .returned (.agg #[.int .i64 1, .int .i64 7, .int .i64 40]) ∧ w7.alloc (.cells #[.int .i64 1, .int .i64 7, .int .i64 40] 31) = w') := Lib.hid (claim_any N e4 y6 w7 hd7)
  have hrm : Hid (Calls Tryd.prog 18 #[.pointer (some ⟨N, 0, none⟩)] (w7.alloc (.cells #[.int .i64 1, .int .i64 7, .int .i64 40] 31)) fun e w' => e = .returned (.int .i64 9) ∧ w7.alloc (.cells #[.int .i64 1, .int .i64 7, .int .i64 40] 31) = w') := Lib.hid (room_any N e4 y6 _ (hd7.chg0 ((Chg.refl NoBlk w7).alloc (.cells #[.int .i64 1, .int .i64 7, .int .i64 40] 31))))
  have hbz := Lib.hid (HB7.out.alloc (by have := hd7.glt; omega) (.cells #[.int .i64 1, .int .i64 7, .int .i64 40] 31))
  have hfl : ∀ w, (Instr.field 31 (.agg #[.int .i64 1, .int .i64 7, .int .i64 40]) 1).run Tryd.prog w = .ok (.int .i64 7) w := fun w => by simp [Instr.field, asAgg, go_sem]
  clear ho7 hb7
  go_wp2_with fail
  refine hcl.out.mono ?_
  rintro e w' ⟨rfl, rfl⟩
  go_wp2_with fail
  refine hrm.out.mono ?_
  rintro e w' ⟨rfl, rfl⟩
  go_wp2_with fail
  go_ret
  exact ⟨rfl, hbz.out⟩
end Go.Proofs.YtpkefkoimlecjaaDoor
