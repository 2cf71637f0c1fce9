/- The document's taking. -/
import Derived.Test.YtcpaimgenfbidaaTake2
namespace Go.Proofs.Ytcpaimgenfbidaa
open Go.RowKit

set_option maxHeartbeats 2000000 in
theorem rtake_any (c : Cl) (h n : Int) (w : World) (hb1 : -9223372036854775808 ≤ c.e) (hb2 : -9223372036854775808 ≤ c.u) :
    Calls Try.prog 13 #[.agg #[.int .i64 c.e, .int .i64 c.h, .int .i64 c.u], .int .i64 h, .int .i64 n] w fun e w' => e = .returned (.tuple #[.agg #[.int .i64 (takeC c h n).e, .int .i64 (takeC c h n).h, .int .i64 (takeC c h n).u], .int .i64 (takeE c h n)]) ∧ Below w.heap.size w w' := by
  cases hT : tk n
  · have e1 : takeE c h n = 1 := by unfold takeE; rw [if_pos (.inr hT)]
    have e2 : takeC c h n = ⟨0, 0, 0⟩ := by unfold takeC; rw [if_neg (by rw [e1]; decide)]
    have E1 := Lib.hid e1
    have E2 := Lib.hid e2
    clear e1 e2
    go_enter Try.func13, Try.ntmps13
    go_wp2_with fail
    refine (rtick_any n _).mono ?_
    rintro e w' ⟨rfl, rfl⟩
    rw [hT]
    go_wp2_with fail
    all_goals exact bodyPost_ret (v := .tuple #[.agg #[.int .i64 0, .int .i64 0, .int .i64 0], .int .i64 1]) (by simp [results, Try.results13, go_sem]) rfl ⟨by rw [E1.out, E2.out], (((Below.refl _ w).alloc (by simp) _).alloc (by simp <;> omega) _)⟩
  by_cases h1 : h < 0
  · have e1 : takeE c h n = 1 := by unfold takeE; rw [if_pos (.inl h1)]
    have e2 : takeC c h n = ⟨0, 0, 0⟩ := by unfold takeC; rw [if_neg (by rw [e1]; decide)]
    have E1 := Lib.hid e1
    have E2 := Lib.hid e2
    clear e1 e2
    go_enter Try.func13, Try.ntmps13
    go_wp2_with fail
    refine (rtick_any n _).mono ?_
    rintro e w' ⟨rfl, rfl⟩
    rw [hT]
    go_wp2_with fail
    exact bodyPost_ret (v := .tuple #[.agg #[.int .i64 0, .int .i64 0, .int .i64 0], .int .i64 1]) (by simp [results, Try.results13, go_sem]) rfl ⟨by rw [E1.out, E2.out], (((Below.refl _ w).alloc (by simp) _).alloc (by simp <;> omega) _)⟩
  by_cases hH : heldS c h n = true
  · have e1 : takeE c h n = 170 := by unfold takeE; rw [if_neg (by rw [hT]; simp; omega), if_pos hH]
    have e2 : takeC c h n = ⟨0, 0, 0⟩ := by unfold takeC; rw [if_neg (by rw [e1]; decide)]
    have E1 := Lib.hid e1
    have E2 := Lib.hid e2
    clear e1 e2
    go_enter Try.func13, Try.ntmps13
    go_wp2_with fail
    refine (rtick_any n _).mono ?_
    rintro e w' ⟨rfl, rfl⟩
    rw [hT]
    go_wp2_with fail
    refine (rfree_any c h n _ hb2).mono ?_
    rintro e w' ⟨rfl, rfl⟩
    rw [hH]
    go_wp2_with fail
    exact bodyPost_ret (v := .tuple #[.agg #[.int .i64 0, .int .i64 0, .int .i64 0], .int .i64 170]) (by simp [results, Try.results13, go_sem]) rfl ⟨by rw [E1.out, E2.out], ((((Below.refl _ w).alloc (by simp) _).alloc (by simp <;> omega) _).alloc (by simp <;> omega) _)⟩
  have hHf : heldS c h n = false := by simpa using hH
  by_cases h3 : 1099511627776 ≤ c.e
  · have e1 : takeE c h n = 2 := by unfold takeE; rw [if_neg (by rw [hT]; simp; omega), if_neg hH, if_pos h3]
    have e2 : takeC c h n = ⟨0, 0, 0⟩ := by unfold takeC; rw [if_neg (by rw [e1]; decide)]
    have E1 := Lib.hid e1
    have E2 := Lib.hid e2
    clear e1 e2
    clear hH
    go_enter Try.func13, Try.ntmps13
    go_wp2_with fail
    refine (rtick_any n _).mono ?_
    rintro e w' ⟨rfl, rfl⟩
    rw [hT]
    go_wp2_with fail
    refine (rfree_any c h n _ hb2).mono ?_
    rintro e w' ⟨rfl, rfl⟩
    rw [hHf]
    go_wp2_with fail
    exact bodyPost_ret (v := .tuple #[.agg #[.int .i64 0, .int .i64 0, .int .i64 0], .int .i64 2]) (by simp [results, Try.results13, go_sem]) rfl ⟨by rw [E1.out, E2.out], ((((Below.refl _ w).alloc (by simp) _).alloc (by simp <;> omega) _).alloc (by simp <;> omega) _)⟩
  · have e1 : takeE c h n = 0 := by unfold takeE; rw [if_neg (by rw [hT]; simp; omega), if_neg hH, if_neg h3]
    have e2 : takeC c h n = ⟨c.e + 1, h, n + 40⟩ := by unfold takeC; rw [if_pos e1]
    have E1 := Lib.hid e1
    have E2 := Lib.hid e2
    clear e1 e2
    clear hH
    have hn0 : 0 ≤ n ∧ n < 1099511627776 := by simpa [tk] using hT
    obtain ⟨hn1, hn2⟩ := hn0
    go_enter Try.func13, Try.ntmps13
    go_wp2_with fail
    refine (rtick_any n _).mono ?_
    rintro e w' ⟨rfl, rfl⟩
    rw [hT]
    go_wp2_with fail
    refine (rfree_any c h n _ hb2).mono ?_
    rintro e w' ⟨rfl, rfl⟩
    rw [hHf]
    go_wp2_with fail
    exact bodyPost_ret (v := .tuple #[.agg #[.int .i64 (c.e + 1), .int .i64 h, .int .i64 (n + 40)], .int .i64 0]) (by simp [results, Try.results13, go_sem]) rfl ⟨by rw [E1.out, E2.out], ((((Below.refl _ w).alloc (by simp) _).alloc (by simp <;> omega) _).alloc (by simp <;> omega) _)⟩
end Go.Proofs.Ytcpaimgenfbidaa
