/- The law LeaseNone: the walk. -/
import Derived.Test.YtcpaimgenfbidaaAwake
namespace Go.Proofs.Ytcpaimgenfbidaa
open Go.RowKit

theorem take_nil (h n : Int) (w : World) : Calls Try.prog 12 #[.pointer none, .int .i64 h, .int .i64 n] w fun e w' => e = .returned (.tuple #[.agg #[.int .i64 0, .int .i64 0, .int .i64 0], .int .i64 1]) ∧ Below w.heap.size w w' := by
  go_enter Try.func12, Try.ntmps12
  go_wp2_with fail
  exact bodyPost_ret (v := .tuple #[.agg #[.int .i64 0, .int .i64 0, .int .i64 0], .int .i64 1]) (by simp [results, Try.results12, go_sem]) rfl ⟨rfl, (Below.refl _ w).alloc (by simp) _⟩
theorem renew_nil (c : Cl) (n : Int) (w : World) : Calls Try.prog 21 #[.pointer none, .agg #[.int .i64 c.e, .int .i64 c.h, .int .i64 c.u], .int .i64 n] w fun e w' => e = .returned (.tuple #[.agg #[.int .i64 0, .int .i64 0, .int .i64 0], .int .i64 1]) ∧ Below w.heap.size w w' := by
  go_enter Try.func21, Try.ntmps21
  go_wp2_with fail
  exact bodyPost_ret (v := .tuple #[.agg #[.int .i64 0, .int .i64 0, .int .i64 0], .int .i64 1]) (by simp [results, Try.results21, go_sem]) rfl ⟨rfl, ((Below.refl _ w).alloc (by simp) _).alloc (by simp) _⟩
theorem has_nil (i : Int) (w : World) : Calls Try.prog 27 #[.pointer none, .int .i64 i] w fun e w' => e = .returned (.bool false) ∧ w = w' := by
  go_enter Try.func27, Try.ntmps27
  go_wp2_with fail
  go_ret
  exact ⟨rfl, rfl⟩
theorem until_nil (i : Int) (w : World) : Calls Try.prog 19 #[.pointer none, .int .i64 i] w fun e w' => e = .returned (.int .i64 0) ∧ w = w' := by
  go_enter Try.func19, Try.ntmps19
  go_wp2_with fail
  refine (has_nil i _).mono ?_
  rintro e w' ⟨rfl, rfl⟩
  go_wp2_with fail
  go_ret
  exact ⟨rfl, rfl⟩
theorem lost_nil (i n : Int) (w : World) : Calls Try.prog 20 #[.pointer none, .int .i64 i, .int .i64 n] w fun e w' => e = .returned (.bool false) ∧ w = w' := by
  go_enter Try.func20, Try.ntmps20
  go_wp2_with fail
  refine (has_nil i _).mono ?_
  rintro e w' ⟨rfl, rfl⟩
  go_wp2_with fail
  go_ret
  exact ⟨rfl, rfl⟩
theorem grant_nil (i n : Int) (w : World) : Calls Try.prog 17 #[.pointer none, .int .i64 i, .int .i64 n] w fun e w' => e = .returned (.tuple #[.int .i64 0, .bool false]) ∧ w = w' := by
  go_enter Try.func17, Try.ntmps17
  go_wp2_with fail
  refine (has_nil i _).mono ?_
  rintro e w' ⟨rfl, rfl⟩
  go_wp2_with fail
  go_ret2
  exact ⟨rfl, rfl⟩

set_option maxHeartbeats 4000000 in
theorem law_none (c : Cl) (h n : Int) (w : World) :
    Calls Try.prog 7 #[.agg #[.int .i64 c.e, .int .i64 c.h, .int .i64 c.u], .int .i64 h, .int .i64 n] w fun e w' => e = .returned (.bool true) ∧ Below w.heap.size w w' := by
  have hba : Below w.heap.size w (w.alloc (.cells #[.int .i64 c.e, .int .i64 c.h, .int .i64 c.u] 23)) := (Below.refl _ _).alloc (Nat.le_refl _) _
  have HBA := Lib.hid hba; clear hba
  have HC0 := Lib.hid (C3.new w c)
  go_enter Try.func7, Try.ntmps7
  go_wp2_with fail
  refine (awake_any _).mono ?_
  rintro e w1 ⟨rfl, hb1⟩
  have HB1 := Lib.hid (HBA.out.trans (hb1.mono (by simp)))
  have HC1 := Lib.hid (HC0.out.chg (Chg.of_below (S := NoBlk) hb1) (fun h => h))
  have hs1 : w.heap.size + 1 ≤ w1.heap.size := by have := hb1.size; simpa using this
  clear hb1
  go_wp2_with fail
  refine (take_nil h n w1).mono ?_
  rintro e w2 ⟨rfl, hb2⟩
  have HB2 := Lib.hid (HB1.out.trans (hb2.mono (by omega)))
  have HC2 := Lib.hid (HC1.out.chg ((Chg.of_below (S := NoBlk) hb2).alloc (.cells #[.int .i64 0, .int .i64 0, .int .i64 0] 23)) (fun h => h))
  have HA2 := Lib.hid (C3.new w2 ⟨0, 0, 0⟩)
  have hs2 : w1.heap.size ≤ w2.heap.size := hb2.size
  obtain ⟨_, k0, k1, k2⟩ := HC2.out
  clear hb2
  go_wp2_with fail
  refine (renew_nil c n _).mono ?_
  rintro e w3 ⟨rfl, hb3⟩
  have HB3 := Lib.hid ((HB2.out.alloc (by omega) (.cells #[.int .i64 0, .int .i64 0, .int .i64 0] 23)).trans (hb3.mono (by simp; omega)))
  have HA3 := Lib.hid (HA2.out.chg ((Chg.of_below (S := NoBlk) hb3).alloc (.cells #[.int .i64 0, .int .i64 0, .int .i64 0] 23)) (fun h => h))
  have HE3 := Lib.hid (C3.new w3 ⟨0, 0, 0⟩)
  have hs3 : w2.heap.size + 1 ≤ w3.heap.size := by have := hb3.size; simpa using this
  obtain ⟨_, m0, m1, m2⟩ := HA3.out
  clear hb3 k0 k1 k2
  go_wp2_with fail
  refine (grant_nil h n _).mono ?_
  rintro e w' ⟨rfl, rfl⟩
  go_wp2_with fail
  refine (until_nil h _).mono ?_
  rintro e w' ⟨rfl, rfl⟩
  go_wp2_with fail
  refine (lost_nil h n _).mono ?_
  rintro e w' ⟨rfl, rfl⟩
  go_wp2_with fail
  refine (keeper_no 17 0 _ (by decide)).mono ?_
  rintro e w' ⟨rfl, rfl⟩
  go_wp2_with fail
  refine (keeper_no (-1) 0 _ (by decide)).mono ?_
  rintro e w' ⟨rfl, rfl⟩
  go_wp2_with fail
  refine (leads_any ⟨0, 0, 5⟩ 0 _).mono ?_
  rintro e w' ⟨rfl, rfl⟩
  go_wp2_with fail
  go_ret
  exact ⟨rfl, by repeat (first | exact HB3.out | apply Below.drew | refine Below.alloc ?_ (by first | omega | (simp; omega)) _)⟩
end Go.Proofs.Ytcpaimgenfbidaa
