/- A client and a server that are none. -/
import Derived.Test.YtlcbpodjmafoeaaLook
namespace Go.Proofs.Ytlcbpodjmafoeaa
open Go.RowKit

theorem ask_nil (B : Option Addr) (n cb : Nat) (w : World) : Calls Try.prog 17 #[.pointer none, .slice B n cb] w fun e w' => e = .returned (.int .i64 1) ∧ w = w' := by
  go_enter Try.func17, Try.ntmps17
  go_wp2_with fail
  go_ret
  exact ⟨rfl, rfl⟩
theorem state_nil (w : World) : Calls Try.prog 23 #[.pointer none] w fun e w' => e = .returned (.tuple #[.int .i64 0, .int .i64 0, .bool false]) ∧ w = w' := by
  go_enter Try.func23, Try.ntmps23
  go_wp2_with fail
  exact bodyPost_ret (v := .tuple #[.int .i64 0, .int .i64 0, .bool false]) (by simp [results, Try.results23, go_sem]) rfl ⟨rfl, rfl⟩
set_option maxRecDepth 100000 in
theorem send_nil (now : Int) (w : World) : Calls Try.prog 19 #[.pointer none, .int .i64 now] w fun e w' => e = .returned (.tuple #[.agg #[.int .i64 0, .int .i64 0, .int .i64 0, .int .i64 0, .int .i64 0, .int .i64 0, .int .i64 0, .int .i64 0, .int .i64 0, .int .i64 0, .int .i64 0, .int .i64 0, .int .i64 0, .int .i64 0, .int .i64 0, .int .i64 0, .int .i64 0, .slice none 0 0, .int .i64 0, .int .i64 0, .int .i64 0], .bool false]) ∧ Below w.heap.size w w' := by
  have HB := Lib.hid ((Below.refl w.heap.size w).alloc (Nat.le_refl _) (.cells #[.int .i64 0, .int .i64 0, .int .i64 0, .int .i64 0, .int .i64 0, .int .i64 0, .int .i64 0, .int .i64 0, .int .i64 0, .int .i64 0, .int .i64 0, .int .i64 0, .int .i64 0, .int .i64 0, .int .i64 0, .int .i64 0, .int .i64 0, .slice none 0 0, .int .i64 0, .int .i64 0, .int .i64 0] 36))
  go_enter Try.func19, Try.ntmps19
  go_wp2_with (refine wpList_store_row rfl 36 (.tmp 4) (.tmp 46) rfl w.heap.size _ rfl rfl 36 _ (heap_alloc_new w _) (by kernel_rfl) rfl (by simp [Value.oneCell']) ?_; rw [World.setRow_alloc_new])
  refine bodyPost_ret (v := .tuple #[.agg #[.int .i64 0, .int .i64 0, .int .i64 0, .int .i64 0, .int .i64 0, .int .i64 0, .int .i64 0, .int .i64 0, .int .i64 0, .int .i64 0, .int .i64 0, .int .i64 0, .int .i64 0, .int .i64 0, .int .i64 0, .int .i64 0, .int .i64 0, .slice none 0 0, .int .i64 0, .int .i64 0, .int .i64 0], .bool false]) (results_msg _ _ w.heap.size _ rfl (heap_alloc_new w _) rfl) rfl ?_
  exact ⟨rfl, HB.out⟩
set_option maxRecDepth 100000 in
set_option maxHeartbeats 4000000 in
theorem hear_nil (v : Nat → Int) (B : Option Addr) (n cb : Nat) (w : World) : Calls Try.prog 21 #[.pointer none, .agg #[.int .i64 (v 0), .int .i64 (v 1), .int .i64 (v 2), .int .i64 (v 3), .int .i64 (v 4), .int .i64 (v 5), .int .i64 (v 6), .int .i64 (v 7), .int .i64 (v 8), .int .i64 (v 9), .int .i64 (v 10), .int .i64 (v 11), .int .i64 (v 12), .int .i64 (v 13), .int .i64 (v 14), .int .i64 (v 15), .int .i64 (v 16), .slice B n cb, .int .i64 (v 18), .int .i64 (v 19), .int .i64 (v 20)]] w fun e w' => e = .returned (.tuple #[.agg #[.int .i64 0, .int .i64 0, .int .i64 0], .bool false]) ∧ Below w.heap.size w w' := by
  obtain ⟨W, hW⟩ : ∃ W, W = (w.alloc (.cells #[.int .i64 (v 0), .int .i64 (v 1), .int .i64 (v 2), .int .i64 (v 3), .int .i64 (v 4), .int .i64 (v 5), .int .i64 (v 6), .int .i64 (v 7), .int .i64 (v 8), .int .i64 (v 9), .int .i64 (v 10), .int .i64 (v 11), .int .i64 (v 12), .int .i64 (v 13), .int .i64 (v 14), .int .i64 (v 15), .int .i64 (v 16), .slice B n cb, .int .i64 (v 18), .int .i64 (v 19), .int .i64 (v 20)] 36)).alloc (.cells #[.int .i64 0, .int .i64 0, .int .i64 0] 34) := ⟨_, rfl⟩
  obtain ⟨S, hS⟩ : ∃ S, S = w.heap.size := ⟨_, rfl⟩
  have hr : W.heap[S + 1]? = some (.cells #[.int .i64 0, .int .i64 0, .int .i64 0] 34 (0, 0)) := by
    have := heap_alloc_new (w.alloc (.cells #[.int .i64 (v 0), .int .i64 (v 1), .int .i64 (v 2), .int .i64 (v 3), .int .i64 (v 4), .int .i64 (v 5), .int .i64 (v 6), .int .i64 (v 7), .int .i64 (v 8), .int .i64 (v 9), .int .i64 (v 10), .int .i64 (v 11), .int .i64 (v 12), .int .i64 (v 13), .int .i64 (v 14), .int .i64 (v 15), .int .i64 (v 16), .slice B n cb, .int .i64 (v 18), .int .i64 (v 19), .int .i64 (v 20)] 36)) (.cells #[.int .i64 0, .int .i64 0, .int .i64 0] 34)
    rw [hW, hS]; simpa using this
  have hb : Below w.heap.size w W := by rw [hW]; exact ((Below.refl w.heap.size w).alloc (Nat.le_refl _) _).alloc (by simp) _
  have HR := Lib.hid hr
  have HB := Lib.hid hb
  have HSW : Hid (w.heap.size = S) := Lib.hid hS.symm
  clear hr hb
  go_enter Try.func21, Try.ntmps21
  go_wp2_with fail
  rw [← hS]
  rw [← hW]
  clear hW hS
  go_quiet (fail)
  have HRq : Hid ((W.drewN nq).heap[S + 1]? = some (.cells #[.int .i64 0, .int .i64 0, .int .i64 0] 34 (0, 0))) := HR
  have HRET := Lib.hid (setRow_heap (W.drewN nq) (S + 1) _ #[.int .i64 0, .int .i64 0, .int .i64 0] _ _ HRq.out)
  have HBF := Lib.hid (below_setRow (g := S + 1) (below_dn (n := nq) HB.out) (by have := HSW.out; omega) #[.int .i64 0, .int .i64 0, .int .i64 0])
  go_wp2_with (refine wpList_store_row rfl 34 (.tmp 4) (.tmp 43) rfl (S + 1) _ rfl rfl 34 _ HRq.out (by kernel_rfl) rfl (by simp [Value.oneCell']) ?_)
  refine bodyPost_ret (v := .tuple #[.agg #[.int .i64 0, .int .i64 0, .int .i64 0], .bool false]) (results_rep _ _ (S + 1) _ rfl HRET.out rfl) rfl ?_
  exact ⟨rfl, HBF.out⟩
set_option maxRecDepth 100000 in
set_option maxHeartbeats 4000000 in
theorem look_nil (v : Nat → Int) (B : Option Addr) (n cb : Nat) (last a b c : Int) (w : World) : Calls Try.prog 10 #[.pointer none, .agg #[.int .i64 (v 0), .int .i64 (v 1), .int .i64 (v 2), .int .i64 (v 3), .int .i64 (v 4), .int .i64 (v 5), .int .i64 (v 6), .int .i64 (v 7), .int .i64 (v 8), .int .i64 (v 9), .int .i64 (v 10), .int .i64 (v 11), .int .i64 (v 12), .int .i64 (v 13), .int .i64 (v 14), .int .i64 (v 15), .int .i64 (v 16), .slice B n cb, .int .i64 (v 18), .int .i64 (v 19), .int .i64 (v 20)], .int .i64 last, .agg #[.int .i64 a, .int .i64 b, .int .i64 c]] w fun e w' => e = .returned (.tuple #[.int .i64 0, .agg #[.int .i64 0, .int .i64 0, .int .i64 0, .int .i64 0, .int .i64 0, .int .i64 0, .int .i64 0, .int .i64 0, .int .i64 0, .int .i64 0, .int .i64 0, .int .i64 0, .int .i64 0, .int .i64 0, .int .i64 0, .int .i64 0, .int .i64 0, .slice none 0 0, .int .i64 0, .int .i64 0, .int .i64 0]]) ∧ Below w.heap.size w w' := by
  obtain ⟨W, hW⟩ : ∃ W, W = ((w.alloc (.cells #[.int .i64 (v 0), .int .i64 (v 1), .int .i64 (v 2), .int .i64 (v 3), .int .i64 (v 4), .int .i64 (v 5), .int .i64 (v 6), .int .i64 (v 7), .int .i64 (v 8), .int .i64 (v 9), .int .i64 (v 10), .int .i64 (v 11), .int .i64 (v 12), .int .i64 (v 13), .int .i64 (v 14), .int .i64 (v 15), .int .i64 (v 16), .slice B n cb, .int .i64 (v 18), .int .i64 (v 19), .int .i64 (v 20)] 36)).alloc (.cells #[.int .i64 a, .int .i64 b, .int .i64 c] 34)).alloc (.cells #[.int .i64 0, .int .i64 0, .int .i64 0, .int .i64 0, .int .i64 0, .int .i64 0, .int .i64 0, .int .i64 0, .int .i64 0, .int .i64 0, .int .i64 0, .int .i64 0, .int .i64 0, .int .i64 0, .int .i64 0, .int .i64 0, .int .i64 0, .slice none 0 0, .int .i64 0, .int .i64 0, .int .i64 0] 36) := ⟨_, rfl⟩
  obtain ⟨S, hS⟩ : ∃ S, S = w.heap.size := ⟨_, rfl⟩
  have hb : Below w.heap.size w W := by rw [hW]; exact (((Below.refl w.heap.size w).alloc (Nat.le_refl _) _).alloc (by simp) _).alloc (by simp; omega) _
  have hq : W.heap[S + 1 + 1]? = some (.cells #[.int .i64 0, .int .i64 0, .int .i64 0, .int .i64 0, .int .i64 0, .int .i64 0, .int .i64 0, .int .i64 0, .int .i64 0, .int .i64 0, .int .i64 0, .int .i64 0, .int .i64 0, .int .i64 0, .int .i64 0, .int .i64 0, .int .i64 0, .slice none 0 0, .int .i64 0, .int .i64 0, .int .i64 0] 36 (0, 0)) := by
    have := heap_alloc_new ((w.alloc (.cells #[.int .i64 (v 0), .int .i64 (v 1), .int .i64 (v 2), .int .i64 (v 3), .int .i64 (v 4), .int .i64 (v 5), .int .i64 (v 6), .int .i64 (v 7), .int .i64 (v 8), .int .i64 (v 9), .int .i64 (v 10), .int .i64 (v 11), .int .i64 (v 12), .int .i64 (v 13), .int .i64 (v 14), .int .i64 (v 15), .int .i64 (v 16), .slice B n cb, .int .i64 (v 18), .int .i64 (v 19), .int .i64 (v 20)] 36)).alloc (.cells #[.int .i64 a, .int .i64 b, .int .i64 c] 34)) (.cells #[.int .i64 0, .int .i64 0, .int .i64 0, .int .i64 0, .int .i64 0, .int .i64 0, .int .i64 0, .int .i64 0, .int .i64 0, .int .i64 0, .int .i64 0, .int .i64 0, .int .i64 0, .int .i64 0, .int .i64 0, .int .i64 0, .int .i64 0, .slice none 0 0, .int .i64 0, .int .i64 0, .int .i64 0] 36)
    rw [hW, hS]; simpa using this
  have HB := Lib.hid hb
  have HQ := Lib.hid hq
  have HSW : Hid (w.heap.size = S) := Lib.hid hS.symm
  have HRET := Lib.hid (setRow_heap W (S + 1 + 1) _ #[.int .i64 0, .int .i64 0, .int .i64 0, .int .i64 0, .int .i64 0, .int .i64 0, .int .i64 0, .int .i64 0, .int .i64 0, .int .i64 0, .int .i64 0, .int .i64 0, .int .i64 0, .int .i64 0, .int .i64 0, .int .i64 0, .int .i64 0, .slice none 0 0, .int .i64 0, .int .i64 0, .int .i64 0] _ _ HQ.out)
  have HBF := Lib.hid (below_setRow (g := S + 1 + 1) HB.out (by have := HSW.out; omega) #[.int .i64 0, .int .i64 0, .int .i64 0, .int .i64 0, .int .i64 0, .int .i64 0, .int .i64 0, .int .i64 0, .int .i64 0, .int .i64 0, .int .i64 0, .int .i64 0, .int .i64 0, .int .i64 0, .int .i64 0, .int .i64 0, .int .i64 0, .slice none 0 0, .int .i64 0, .int .i64 0, .int .i64 0])
  clear hb hq
  go_enter Try.func10, Try.ntmps10
  go_upto_region 1 with fail
  rw [← hS]
  rw [← hW]
  clear hW hS
  go_wp2_with (refine wpList_store_row rfl 36 (.tmp 9) (.tmp 26) rfl (S + 1 + 1) _ rfl rfl 36 _ HQ.out (by kernel_rfl) rfl (by simp [Value.oneCell']) ?_)
  refine bodyPost_ret (v := .tuple #[.int .i64 0, .agg #[.int .i64 0, .int .i64 0, .int .i64 0, .int .i64 0, .int .i64 0, .int .i64 0, .int .i64 0, .int .i64 0, .int .i64 0, .int .i64 0, .int .i64 0, .int .i64 0, .int .i64 0, .int .i64 0, .int .i64 0, .int .i64 0, .int .i64 0, .slice none 0 0, .int .i64 0, .int .i64 0, .int .i64 0]]) (results_look _ _ (S + 1 + 1) _ rfl HRET.out rfl) rfl ?_
  exact ⟨rfl, HBF.out⟩
set_option maxRecDepth 100000 in
set_option maxHeartbeats 4000000 in
theorem done_nil (cl sq a b c : Int) (w : World) : Calls Try.prog 13 #[.pointer none, .int .i64 cl, .int .i64 sq, .agg #[.int .i64 a, .int .i64 b, .int .i64 c]] w fun e w' => e = .returned (.tuple #[.agg #[.int .i64 0, .int .i64 0, .int .i64 0, .int .i64 0, .int .i64 0, .int .i64 0, .int .i64 0, .int .i64 0, .int .i64 0, .int .i64 0, .int .i64 0, .int .i64 0, .int .i64 0, .int .i64 0, .int .i64 0, .int .i64 0, .int .i64 0, .slice none 0 0, .int .i64 0, .int .i64 0, .int .i64 0], .bool false]) ∧ Below w.heap.size w w' := by
  obtain ⟨W, hW⟩ : ∃ W, W = (w.alloc (.cells #[.int .i64 a, .int .i64 b, .int .i64 c] 34)).alloc (.cells #[.int .i64 0, .int .i64 0, .int .i64 0, .int .i64 0, .int .i64 0, .int .i64 0, .int .i64 0, .int .i64 0, .int .i64 0, .int .i64 0, .int .i64 0, .int .i64 0, .int .i64 0, .int .i64 0, .int .i64 0, .int .i64 0, .int .i64 0, .slice none 0 0, .int .i64 0, .int .i64 0, .int .i64 0] 36) := ⟨_, rfl⟩
  obtain ⟨S, hS⟩ : ∃ S, S = w.heap.size := ⟨_, rfl⟩
  have hb : Below w.heap.size w W := by rw [hW]; exact ((Below.refl w.heap.size w).alloc (Nat.le_refl _) _).alloc (by simp) _
  have hq : W.heap[S + 1]? = some (.cells #[.int .i64 0, .int .i64 0, .int .i64 0, .int .i64 0, .int .i64 0, .int .i64 0, .int .i64 0, .int .i64 0, .int .i64 0, .int .i64 0, .int .i64 0, .int .i64 0, .int .i64 0, .int .i64 0, .int .i64 0, .int .i64 0, .int .i64 0, .slice none 0 0, .int .i64 0, .int .i64 0, .int .i64 0] 36 (0, 0)) := by
    have := heap_alloc_new (w.alloc (.cells #[.int .i64 a, .int .i64 b, .int .i64 c] 34)) (.cells #[.int .i64 0, .int .i64 0, .int .i64 0, .int .i64 0, .int .i64 0, .int .i64 0, .int .i64 0, .int .i64 0, .int .i64 0, .int .i64 0, .int .i64 0, .int .i64 0, .int .i64 0, .int .i64 0, .int .i64 0, .int .i64 0, .int .i64 0, .slice none 0 0, .int .i64 0, .int .i64 0, .int .i64 0] 36)
    rw [hW, hS]; simpa using this
  have HB := Lib.hid hb
  have HQ := Lib.hid hq
  have HSW : Hid (w.heap.size = S) := Lib.hid hS.symm
  have HRET := Lib.hid (setRow_heap W (S + 1) _ #[.int .i64 0, .int .i64 0, .int .i64 0, .int .i64 0, .int .i64 0, .int .i64 0, .int .i64 0, .int .i64 0, .int .i64 0, .int .i64 0, .int .i64 0, .int .i64 0, .int .i64 0, .int .i64 0, .int .i64 0, .int .i64 0, .int .i64 0, .slice none 0 0, .int .i64 0, .int .i64 0, .int .i64 0] _ _ HQ.out)
  have HBF := Lib.hid (below_setRow (g := S + 1) HB.out (by have := HSW.out; omega) #[.int .i64 0, .int .i64 0, .int .i64 0, .int .i64 0, .int .i64 0, .int .i64 0, .int .i64 0, .int .i64 0, .int .i64 0, .int .i64 0, .int .i64 0, .int .i64 0, .int .i64 0, .int .i64 0, .int .i64 0, .int .i64 0, .int .i64 0, .slice none 0 0, .int .i64 0, .int .i64 0, .int .i64 0])
  clear hb hq
  go_enter Try.func13, Try.ntmps13
  go_upto_region 1 with fail
  rw [← hS]
  rw [← hW]
  clear hW hS
  go_wp2_with (refine wpList_store_row rfl 36 (.tmp 8) (.tmp 25) rfl (S + 1) _ rfl rfl 36 _ HQ.out (by kernel_rfl) rfl (by simp [Value.oneCell']) ?_)
  refine bodyPost_ret (v := .tuple #[.agg #[.int .i64 0, .int .i64 0, .int .i64 0, .int .i64 0, .int .i64 0, .int .i64 0, .int .i64 0, .int .i64 0, .int .i64 0, .int .i64 0, .int .i64 0, .int .i64 0, .int .i64 0, .int .i64 0, .int .i64 0, .int .i64 0, .int .i64 0, .slice none 0 0, .int .i64 0, .int .i64 0, .int .i64 0], .bool false]) (results_89 Try.results13 _ _ (S + 1) _ rfl HRET.out rfl) rfl ?_
  exact ⟨rfl, HBF.out⟩
end Go.Proofs.Ytlcbpodjmafoeaa
