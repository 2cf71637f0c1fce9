/- A disk that is none. -/
import Derived.Test.YtpkefkoimlecjaaDoorCommit2
namespace Go.Proofs.YtpkefkoimlecjaaDoor
open Go.RowKit

theorem fenced_nil (ep : Int) (fv : Value) (w : World) : Calls Tryd.prog 23 #[.pointer none, .int .i64 ep, fv] w fun e w' => e = .returned (.int .i64 1) ∧ w = w' := by
  go_enter Tryd.func23, Tryd.ntmps23
  go_wp2_with fail
  go_ret
  exact ⟨rfl, rfl⟩
theorem cut_nil (n : Int) (w : World) : Calls Tryd.prog 11 #[.pointer none, .int .i64 n] w fun e w' => e = .returned (.tuple #[]) ∧ w = w' := by
  go_enter Tryd.func11, Tryd.ntmps11
  go_wp2_with fail
  go_end0
  exact ⟨rfl, rfl⟩
theorem room_nil (w : World) : Calls Tryd.prog 18 #[.pointer none] w fun e w' => e = .returned (.int .i64 0) ∧ w = w' := by
  go_enter Tryd.func18, Tryd.ntmps18
  go_wp2_with fail
  go_ret
  exact ⟨rfl, rfl⟩
theorem log_nil (w : World) : Calls Tryd.prog 15 #[.pointer none] w fun e w' => e = .returned (.slice none 0 0) ∧ w = w' := by
  go_enter Tryd.func15, Tryd.ntmps15
  go_wp2_with fail
  go_ret
  exact ⟨rfl, rfl⟩
theorem snap_nil (w : World) : Calls Tryd.prog 16 #[.pointer none] w fun e w' => e = .returned (.slice none 0 0) ∧ w = w' := by
  go_enter Tryd.func16, Tryd.ntmps16
  go_wp2_with fail
  go_ret
  exact ⟨rfl, rfl⟩
theorem claim_nil (w : World) : Calls Tryd.prog 20 #[.pointer none] w fun e w' => e = .returned (.agg #[.int .i64 0, .int .i64 0, .int .i64 0]) ∧ Below w.heap.size w w' := by
  have hb : Below w.heap.size w (w.alloc (.cells #[.int .i64 0, .int .i64 0, .int .i64 0] 31)) := (Below.refl w.heap.size w).alloc (Nat.le_refl _) (.cells #[.int .i64 0, .int .i64 0, .int .i64 0] 31)
  have HB := Lib.hid hb
  clear hb
  go_enter Tryd.func20, Tryd.ntmps20
  go_wp2_with fail
  exact bodyPost_ret (v := .agg #[.int .i64 0, .int .i64 0, .int .i64 0]) (by simp [results, Tryd.results20, go_sem]) rfl ⟨rfl, HB.out⟩
theorem swap_nil (o n : Cl) (w : World) : Calls Tryd.prog 9 #[.pointer none, .agg #[.int .i64 o.e, .int .i64 o.h, .int .i64 o.u], .agg #[.int .i64 n.e, .int .i64 n.h, .int .i64 n.u]] w fun e w' => e = .returned (.int .i64 1) ∧ Below w.heap.size w w' := by
  have hb : Below w.heap.size w ((w.alloc (.cells #[.int .i64 o.e, .int .i64 o.h, .int .i64 o.u] 31)).alloc (.cells #[.int .i64 n.e, .int .i64 n.h, .int .i64 n.u] 31)) := ((Below.refl w.heap.size w).alloc (Nat.le_refl _) (.cells #[.int .i64 o.e, .int .i64 o.h, .int .i64 o.u] 31)).alloc (by simp) (.cells #[.int .i64 n.e, .int .i64 n.h, .int .i64 n.u] 31)
  have HB := Lib.hid hb
  clear hb
  go_enter Tryd.func9, Tryd.ntmps9
  go_wp2_with fail
  go_ret
  exact ⟨rfl, HB.out⟩
theorem append_nil (ep n : Int) (A : Option Addr) (m c : Nat) (w : World) : Calls Tryd.prog 10 #[.pointer none, .int .i64 ep, .int .i64 n, .slice A m c] w fun e w' => e = .returned (.tuple #[.int .i64 0, .int .i64 1]) ∧ Below w.heap.size w w' := by
  have hb : Below w.heap.size w (((w.alloc (.cells #[.pointer none] 26)).alloc (.cells #[.int .i64 n] 3)).alloc (.cells #[.slice A m c] 22)) := (((Below.refl w.heap.size w).alloc (Nat.le_refl _) (.cells #[.pointer none] 26)).alloc (by simp) (.cells #[.int .i64 n] 3)).alloc (by simp; omega) (.cells #[.slice A m c] 22)
  have HB := Lib.hid hb
  clear hb
  go_enter Tryd.func10, Tryd.ntmps10
  go_wp2_with fail
  refine (fenced_nil _ _ _).mono ?_
  rintro e w' ⟨rfl, rfl⟩
  go_wp2_with fail
  exact bodyPost_ret (v := .tuple #[.int .i64 0, .int .i64 1]) (by simp [results, Tryd.results10, go_sem]) rfl ⟨rfl, HB.out⟩
theorem chop_nil (ep n : Int) (w : World) : Calls Tryd.prog 22 #[.pointer none, .int .i64 ep, .int .i64 n] w fun e w' => e = .returned (.int .i64 1) ∧ Below w.heap.size w w' := by
  have hb : Below w.heap.size w ((w.alloc (.cells #[.pointer none] 26)).alloc (.cells #[.int .i64 n] 3)) := ((Below.refl w.heap.size w).alloc (Nat.le_refl _) (.cells #[.pointer none] 26)).alloc (by simp) (.cells #[.int .i64 n] 3)
  have HB := Lib.hid hb
  clear hb
  go_enter Tryd.func22, Tryd.ntmps22
  go_wp2_with fail
  refine (fenced_nil _ _ _).mono ?_
  rintro e w' ⟨rfl, rfl⟩
  go_wp2_with fail
  go_ret
  exact ⟨rfl, HB.out⟩
theorem stage_nil (ep : Int) (A : Option Addr) (m c : Nat) (w : World) : Calls Tryd.prog 12 #[.pointer none, .int .i64 ep, .slice A m c] w fun e w' => e = .returned (.int .i64 1) ∧ Below w.heap.size w w' := by
  have hb : Below w.heap.size w ((w.alloc (.cells #[.pointer none] 26)).alloc (.cells #[.slice A m c] 22)) := ((Below.refl w.heap.size w).alloc (Nat.le_refl _) (.cells #[.pointer none] 26)).alloc (by simp) (.cells #[.slice A m c] 22)
  have HB := Lib.hid hb
  clear hb
  go_enter Tryd.func12, Tryd.ntmps12
  go_wp2_with fail
  refine (fenced_nil _ _ _).mono ?_
  rintro e w' ⟨rfl, rfl⟩
  go_wp2_with fail
  go_ret
  exact ⟨rfl, HB.out⟩
theorem commit_nil (ep s n : Int) (w : World) : Calls Tryd.prog 14 #[.pointer none, .int .i64 ep, .int .u32 s, .int .i64 n] w fun e w' => e = .returned (.int .i64 1) ∧ Below w.heap.size w w' := by
  have hb : Below w.heap.size w (((w.alloc (.cells #[.pointer none] 26)).alloc (.cells #[.int .u32 s] 36)).alloc (.cells #[.int .i64 n] 3)) := (((Below.refl w.heap.size w).alloc (Nat.le_refl _) (.cells #[.pointer none] 26)).alloc (by simp) (.cells #[.int .u32 s] 36)).alloc (by simp; omega) (.cells #[.int .i64 n] 3)
  have HB := Lib.hid hb
  clear hb
  go_enter Tryd.func14, Tryd.ntmps14
  go_wp2_with fail
  refine (fenced_nil _ _ _).mono ?_
  rintro e w' ⟨rfl, rfl⟩
  go_wp2_with fail
  go_ret
  exact ⟨rfl, HB.out⟩
end Go.Proofs.YtpkefkoimlecjaaDoor
