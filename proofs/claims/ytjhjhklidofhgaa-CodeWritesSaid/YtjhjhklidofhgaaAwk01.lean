/- The document's examples hold. -/
import Derived.Test.YtjhjhklidofhgaaREnc
import Derived.Deep.RegionWith
import Derived.Deep.DrawnRows
namespace Go.Proofs.Ytjhjhklidofhgaa
open Go.RowKit
attribute [local go_sem ↓] Go.wp_at_zero Go.wp_at_succ

def a0 : Rd := ⟨[172, 2, 1, 2, 97, 98], 0⟩
theorem vb300 : vb 300 = [172, 2] := by rw [vb_big (by omega), vb_small (by omega)]; decide
theorem a0_1 : ruN a0 = 300 := by decide
theorem a0_2 : ruS a0 = ⟨[1, 2, 97, 98], 0⟩ := rfl
theorem a0_3 : riN ⟨[1, 2, 97, 98], 0⟩ = -1 := by decide
theorem a0_4 : ruS ⟨[1, 2, 97, 98], 0⟩ = ⟨[2, 97, 98], 0⟩ := rfl
theorem a0_5 : rtL ⟨[2, 97, 98], 0⟩ 2 = [97, 98] := by decide
theorem a0_6 : rtS ⟨[2, 97, 98], 0⟩ 2 = ⟨[], 0⟩ := rfl
theorem a0_7 : rendS ⟨[], 0⟩ = ⟨[], 0⟩ := rfl

theorem conv_own {w : World} {base c : Nat} {A : Option Addr} (h : w.ownsRow base 5 1 (.slice A 2 c) 2 (cells8 [172, 2])) : (convert 22 9 (.slice A 2 c)).run Try.prog w = .ok (.string (str [172, 2])) w :=
  run_string (l := [172, 2]) (bytesIn_of_own h).2 rfl 22 5 9 Try.underlying22 Try.underlying5 Try.underlying9
theorem conv_own_alloc {w : World} {base c : Nat} {A : Option Addr} (h : w.ownsRow base 5 1 (.slice A 2 c) 2 (cells8 [172, 2])) (o : Obj) : (convert 22 9 (.slice A 2 c)).run Try.prog (w.alloc o) = .ok (.string (str [172, 2])) (w.alloc o) :=
  conv_own (h.alloc o)
theorem conv_new (w : World) : (convert 22 9 (.slice (some ⟨w.heap.size, 0, none⟩) 2 2)).run Try.prog (w.alloc (.cells #[.int .u8 172, .int .u8 2] 5)) = .ok (.string (str [172, 2])) (w.alloc (.cells #[.int .u8 172, .int .u8 2] 5)) :=
  conv_own (own_alloc w #[.int .u8 172, .int .u8 2] 5 1 2 0 rfl (by unfold maxLen; omega) (Nat.zero_le _))
theorem conv_new_drew (w : World) : (convert 22 9 (.slice (some ⟨w.heap.size, 0, none⟩) 2 2)).run Try.prog (w.alloc (.cells #[.int .u8 172, .int .u8 2] 5)).drew = .ok (.string (str [172, 2])) (w.alloc (.cells #[.int .u8 172, .int .u8 2] 5)).drew :=
  conv_new w.drew
theorem conv_after {w w' : World} (h : Below (w.alloc (.cells #[.int .u8 172, .int .u8 2] 5)).drew.heap.size (w.alloc (.cells #[.int .u8 172, .int .u8 2] 5)).drew w') : (convert 22 9 (.slice (some ⟨w.heap.size, 0, none⟩) 2 2)).run Try.prog w' = .ok (.string (str [172, 2])) w' :=
  conv_own (base := 0) ((own_alloc w #[.int .u8 172, .int .u8 2] 5 1 2 0 rfl (by unfold maxLen; omega) (Nat.zero_le _)).drew.kept (grown_of_below h none) (by simp [Value.ownBlock]))

set_option maxHeartbeats 4000000 in
set_option maxRecDepth 100000 in
theorem awake_any (w : World) : Calls Try.prog 9 #[] w fun e w' => e = .returned (.bool true) ∧ Below w.heap.size w w' := by
  have hb1 : Below w.heap.size w (w.alloc (.cells #[.int .u8 172, .int .u8 2, .int .u8 1, .int .u8 2, .int .u8 97, .int .u8 98] 5)) := (Below.refl _ _).alloc (Nat.le_refl _) _
  have hy1 := bytes_new w #[.int .u8 172, .int .u8 2, .int .u8 1, .int .u8 2, .int .u8 97, .int .u8 98] 5 (0, 0) [172, 2, 1, 2, 97, 98] 6 rfl rfl (by omega)
  have HB1 := Lib.hid hb1
  have HY1 := Lib.hid hy1
  clear hb1 hy1
  go_enter Try.func9, Try.ntmps9
  go_wp2_with fail
  refine (read_any _ 6 6 (w.heap.size + 1) [172, 2, 1, 2, 97, 98] _ HY1.out rfl (by simp)).mono ?_
  rintro e w1 ⟨rfl, hr1, hw1⟩
  have hb2 : Below w.heap.size w w1 := by rw [← hw1]; exact HB1.out.alloc (by simp) _
  have hsz : (w.alloc (.cells #[.int .u8 172, .int .u8 2, .int .u8 1, .int .u8 2, .int .u8 97, .int .u8 98] 5)).heap.size = w.heap.size + 1 := by simp
  rw [hsz] at hr1 ⊢
  have hN : w1.heap.size = w.heap.size + 2 := by rw [← hw1]; simp
  obtain ⟨g, hg⟩ : ∃ g, g = w.heap.size + 1 := ⟨_, rfl⟩
  rw [← hg] at hr1 ⊢
  have HB2 := Lib.hid hb2
  obtain ⟨Ar, cr, hr0⟩ : ∃ Ar cr, RdAt 60 w1 g g a0 Ar cr := ⟨_, _, hr1⟩
  have HR1 := Lib.hid hr0
  have HGl : w.heap.size ≤ g := by omega
  have hgl : g < w1.heap.size := hr1.glt
  clear hw1 hb2 hsz hg hr1 hr0 hN HB1 HY1
  go_wp2_with fail
  have kn := conv_new
  have knd := conv_new_drew
  go_region_with (first
    | (go_at_call 14; refine (eu_any none 0 0 [] 300 _ (.emp (by omega)) rfl (by omega) (by omega)).mono ?_; rw [vb300]; rintro e w2 ⟨A2, c2, rfl, ho2, hb2⟩; have z2 := conv_own ho2; have z2a := conv_own_alloc ho2; (try (have z3 := conv_after hb2)); have HC : Hid (Chg NoBlk w1 w2) := (by first | exact ((Chg.refl _ w1).drew).trans (Chg.of_below hb2) | exact (((Chg.refl _ w1).alloc _).drew).trans (Chg.of_below hb2)); clear ho2 hb2)
    | (go_at_call 11; refine (ru_any g g a0 Ar cr _ ?hr).mono ?_; (case hr => first | exact HR1.out.chg0 HC.out | exact HR1.out.chg0 (HC.out.alloc _)); rw [a0_1, a0_2]; rintro e w3 ⟨rfl, hr3⟩; have HB3 : Hid (Below w.heap.size w w3) := (by first | exact Lib.hid (HB2.out.trans ((HC.out.mono (S' := fun k => k = g) (fun _ _ h => h.elim)).trans hr3.chg |>.below (by omega) (fun k hk e => by omega))) | exact Lib.hid (HB2.out.trans (((HC.out.alloc _).mono (S' := fun k => k = g) (fun _ _ h => h.elim)).trans hr3.chg |>.below (by omega) (fun k hk e => by omega)))); obtain ⟨A3, c3, hr4⟩ := hr3.open_; have HR3 := Lib.hid hr4; have hg3 := hr4.glt; clear hr3 hr4)
    | (go_at_call 15; refine (ri_any g g _ A3 c3 w3 HR3.out).mono ?_; rw [a0_3, a0_4]; rintro e w4 ⟨rfl, hr3⟩; have HB4 := Lib.hid (HB3.out.trans (hr3.chg.below (B := w.heap.size) (by omega) (fun k hk e => by omega))); obtain ⟨A4, c4, hr4⟩ := hr3.open_; have HR4 := Lib.hid hr4; have hg4 := hr4.glt; clear hr3 hr4)
    | (go_at_call 25; refine (rt_any g g _ A4 c4 2 (by omega) w4 HR4.out).mono ?_; rw [a0_5, a0_6]; rintro e w5 ⟨rfl, hr3⟩; have HB5 := Lib.hid (HB4.out.trans (hr3.chg.below (B := w.heap.size) (by omega) (fun k hk e => by omega))); obtain ⟨A5, c5, hr4⟩ := hr3.open_; have HR5 := Lib.hid hr4; have hg5 := hr4.glt; clear hr3 hr4)
    | (go_at_call 32; refine (end_any g g _ A5 c5 w5 HR5.out).mono ?_; rw [a0_7]; rintro e w6 ⟨rfl, hr3⟩; have HB6 := Lib.hid (HB5.out.trans (hr3.chg.below (B := w.heap.size) (by omega) (fun k hk e => by omega))); clear hr3))
  all_goals
    go_wp2_with fail
    go_ret
    exact ⟨rfl, HB6.out⟩
end Go.Proofs.Ytjhjhklidofhgaa
