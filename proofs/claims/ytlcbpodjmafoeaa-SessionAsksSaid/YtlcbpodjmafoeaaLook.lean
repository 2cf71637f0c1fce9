/- What becomes of a message that asks. -/
import Derived.Test.YtlcbpodjmafoeaaRep
namespace Go.Proofs.Ytlcbpodjmafoeaa
open Go.RowKit

theorem results_tmp_cell {fn : Func} {p u : Tmp} {ty : TypeId} (h : fn.results = #[.tmp u, .cell p ty]) (tmps : Array Value) (P : Program) (w : World) :
    (results fn tmps).run P w =
      ((asAddr (tmps.getD p undef)).run P w).andThen fun a w₁ => ((loadVar ty a).run P w₁).andThen fun v w₂ => .ok (.tuple #[tmps.getD u undef, v]) w₂ := by
  simp only [results, h]
  simp [Sem.run_bind, Result.andThen]
theorem results_look (tmps : Array Value) (w : World) (g : Nat) (cs : Array Value) (hp : tmps.getD 9 undef = .pointer (some ⟨g, 0, none⟩)) (hg : w.heap[g]? = some (.cells cs 36 (0, 0))) (hc : cs.size = 21) :
    (results Try.f10 tmps).run Try.prog w = .ok (.tuple #[tmps.getD 8 undef, .agg cs]) w := by
  rw [results_tmp_cell Try.results10]
  rw [hp]
  have h := run_loadVar_row (P := Try.prog) w g 36 36 cs (0, 0) _ hg Try.underlying36 rfl (by rw [hc]; kernel_rfl)
  simp [asAddr, h]
theorem wpList_load_g {P : Program} {ops : Array Oper} {rest : List Oper} {o : Oper} {a : Act} {w : World} {Q : Exit → Act → World → Prop} (hw : Region.wanted o (yielded ops a.tmps) = true) (ty : TypeId) (x : Operand) (ho : o.op = .load ty x)
    (g : Nat) (hx : a.eval x = .pointer (some ⟨g, 0, none⟩)) (t : TypeId) (cs : Array Value) (fr : Nat × Nat) (d : TypeDesc) (hg : w.heap[g]? = some (.cells cs t fr))
    (hu : P.underlying ty = some d) (hd : (match d with | .struct _ | .array _ _ => true | _ => false) = true) (hi : (P.info? ty).map (·.size) = some cs.size)
    (h : wpList P ops Q rest (a.put o.dst (.agg cs)) w) : wpList P ops Q (o :: rest) a w :=
  wpList_step fun K hK => by simp only [hw, if_true]; exact wp_load_row ty x ho g hx t cs fr d hg hu hd hi (hK _ _ h)
/-- What was kept, or what the client was told last. -/
def lookK (k : Kp) (last a b c : Int) : Kp := if (k.q = 0 ∧ k.a = 0 ∧ k.b = 0 ∧ k.c = 0) ∨ k.q < last then ⟨last, a, b, c⟩ else k

set_option maxRecDepth 100000 in
set_option maxHeartbeats 4000000 in
theorem look_no (g : Nat) (ep : Int) (M nn : Nat) (f : Int → Kp) (v : Nat → Int) (B : Option Addr) (n cb : Nat) (last a b c : Int) (w : World) (h : SAt w g ep M nn f) (hno : ¬ (v 0 = 7 ∧ OkL [⟨1, 0, 1099511627776⟩, ⟨15, 1, 16⟩, ⟨16, 1, 1099511627776⟩] v n 4096)) :
    Calls Try.prog 10 #[.pointer (some ⟨g, 0, none⟩), .agg #[.int .i64 (v 0), .int .i64 (v 1), .int .i64 (v 2), .int .i64 (v 3), .int .i64 (v 4), .int .i64 (v 5), .int .i64 (v 6), .int .i64 (v 7), .int .i64 (v 8), .int .i64 (v 9), .int .i64 (v 10), .int .i64 (v 11), .int .i64 (v 12), .int .i64 (v 13), .int .i64 (v 14), .int .i64 (v 15), .int .i64 (v 16), .slice B n cb, .int .i64 (v 18), .int .i64 (v 19), .int .i64 (v 20)], .int .i64 last, .agg #[.int .i64 a, .int .i64 b, .int .i64 c]] w fun e w' => e = .returned (.tuple #[.int .i64 0, .agg #[.int .i64 0, .int .i64 0, .int .i64 0, .int .i64 0, .int .i64 0, .int .i64 0, .int .i64 0, .int .i64 0, .int .i64 0, .int .i64 0, .int .i64 0, .int .i64 0, .int .i64 0, .int .i64 0, .int .i64 0, .int .i64 0, .int .i64 0, .slice none 0 0, .int .i64 0, .int .i64 0, .int .i64 0]]) ∧ Below w.heap.size w w' := by
  have hgl := h.glt
  obtain ⟨W, hW⟩ : ∃ W, W = ((w.alloc (.cells #[.int .i64 (v 0), .int .i64 (v 1), .int .i64 (v 2), .int .i64 (v 3), .int .i64 (v 4), .int .i64 (v 5), .int .i64 (v 6), .int .i64 (v 7), .int .i64 (v 8), .int .i64 (v 9), .int .i64 (v 10), .int .i64 (v 11), .int .i64 (v 12), .int .i64 (v 13), .int .i64 (v 14), .int .i64 (v 15), .int .i64 (v 16), .slice B n cb, .int .i64 (v 18), .int .i64 (v 19), .int .i64 (v 20)] 36)).alloc (.cells #[.int .i64 a, .int .i64 b, .int .i64 c] 34)).alloc (.cells #[.int .i64 0, .int .i64 0, .int .i64 0, .int .i64 0, .int .i64 0, .int .i64 0, .int .i64 0, .int .i64 0, .int .i64 0, .int .i64 0, .int .i64 0, .int .i64 0, .int .i64 0, .int .i64 0, .int .i64 0, .int .i64 0, .int .i64 0, .slice none 0 0, .int .i64 0, .int .i64 0, .int .i64 0] 36) := ⟨_, rfl⟩
  obtain ⟨S, hS⟩ : ∃ S, S = w.heap.size := ⟨_, rfl⟩
  have hb : Below w.heap.size w W := by rw [hW]; exact (((Below.refl w.heap.size w).alloc (Nat.le_refl _) _).alloc (by simp) _).alloc (by simp; omega) _
  have hm : MAt W S v B n cb := by
    have := heap_alloc_new w (.cells #[.int .i64 (v 0), .int .i64 (v 1), .int .i64 (v 2), .int .i64 (v 3), .int .i64 (v 4), .int .i64 (v 5), .int .i64 (v 6), .int .i64 (v 7), .int .i64 (v 8), .int .i64 (v 9), .int .i64 (v 10), .int .i64 (v 11), .int .i64 (v 12), .int .i64 (v 13), .int .i64 (v 14), .int .i64 (v 15), .int .i64 (v 16), .slice B n cb, .int .i64 (v 18), .int .i64 (v 19), .int .i64 (v 20)] 36)
    show W.heap[S]? = _
    rw [hW, hS]; exact (Below.heap_alloc _ _ _ (by simp; omega)).trans ((Below.heap_alloc _ _ _ (by simp)).trans this)
  have hq : W.heap[S + 1 + 1]? = some (.cells #[.int .i64 0, .int .i64 0, .int .i64 0, .int .i64 0, .int .i64 0, .int .i64 0, .int .i64 0, .int .i64 0, .int .i64 0, .int .i64 0, .int .i64 0, .int .i64 0, .int .i64 0, .int .i64 0, .int .i64 0, .int .i64 0, .int .i64 0, .slice none 0 0, .int .i64 0, .int .i64 0, .int .i64 0] 36 (0, 0)) := by
    have := heap_alloc_new ((w.alloc (.cells #[.int .i64 (v 0), .int .i64 (v 1), .int .i64 (v 2), .int .i64 (v 3), .int .i64 (v 4), .int .i64 (v 5), .int .i64 (v 6), .int .i64 (v 7), .int .i64 (v 8), .int .i64 (v 9), .int .i64 (v 10), .int .i64 (v 11), .int .i64 (v 12), .int .i64 (v 13), .int .i64 (v 14), .int .i64 (v 15), .int .i64 (v 16), .slice B n cb, .int .i64 (v 18), .int .i64 (v 19), .int .i64 (v 20)] 36)).alloc (.cells #[.int .i64 a, .int .i64 b, .int .i64 c] 34)) (.cells #[.int .i64 0, .int .i64 0, .int .i64 0, .int .i64 0, .int .i64 0, .int .i64 0, .int .i64 0, .int .i64 0, .int .i64 0, .int .i64 0, .int .i64 0, .int .i64 0, .int .i64 0, .int .i64 0, .int .i64 0, .int .i64 0, .int .i64 0, .slice none 0 0, .int .i64 0, .int .i64 0, .int .i64 0] 36)
    rw [hW, hS]; simpa using this
  have m0 := cellb (i := 0) hm rfl
  have HB := Lib.hid hb
  have HM := Lib.hid hm
  have HQ := Lib.hid hq
  have HSW : Hid (w.heap.size = S) := Lib.hid hS.symm
  clear hb hm hq h
  rcases Classical.em (v 0 = 7) with h0 | h0
  rotate_left
  · clear hno
    have q0 : (v 0 != 7) = true := by simpa using h0
    have HRET := Lib.hid (setRow_heap W (S + 1 + 1) _ #[.int .i64 0, .int .i64 0, .int .i64 0, .int .i64 0, .int .i64 0, .int .i64 0, .int .i64 0, .int .i64 0, .int .i64 0, .int .i64 0, .int .i64 0, .int .i64 0, .int .i64 0, .int .i64 0, .int .i64 0, .int .i64 0, .int .i64 0, .slice none 0 0, .int .i64 0, .int .i64 0, .int .i64 0] _ _ HQ.out)
    have HBF := Lib.hid (below_setRow (g := S + 1 + 1) HB.out (by have := HSW.out; omega) #[.int .i64 0, .int .i64 0, .int .i64 0, .int .i64 0, .int .i64 0, .int .i64 0, .int .i64 0, .int .i64 0, .int .i64 0, .int .i64 0, .int .i64 0, .int .i64 0, .int .i64 0, .int .i64 0, .int .i64 0, .int .i64 0, .int .i64 0, .slice none 0 0, .int .i64 0, .int .i64 0, .int .i64 0])
    clear h0
    go_enter Try.func10, Try.ntmps10
    go_upto_region 1 with fail
    rw [← hS]
    rw [← hW]
    clear hW hS
    go_wp2_with (refine wpList_store_row rfl 36 (.tmp 9) (.tmp 26) rfl (S + 1 + 1) _ rfl rfl 36 _ HQ.out (by kernel_rfl) rfl (by simp [Value.oneCell']) ?_)
    refine bodyPost_ret (v := .tuple #[.int .i64 0, .agg #[.int .i64 0, .int .i64 0, .int .i64 0, .int .i64 0, .int .i64 0, .int .i64 0, .int .i64 0, .int .i64 0, .int .i64 0, .int .i64 0, .int .i64 0, .int .i64 0, .int .i64 0, .int .i64 0, .int .i64 0, .int .i64 0, .int .i64 0, .slice none 0 0, .int .i64 0, .int .i64 0, .int .i64 0]]) (results_look _ _ (S + 1 + 1) _ rfl HRET.out rfl) rfl ?_
    exact ⟨rfl, HBF.out⟩
  · have q0 : (v 0 != 7) = false := by simp [h0]
    have hno2 : ¬ OkL [⟨1, 0, 1099511627776⟩, ⟨15, 1, 16⟩, ⟨16, 1, 1099511627776⟩] v n 4096 := fun h => hno ⟨h0, h⟩
    have HNO := Lib.hid hno2
    have H0 := Lib.hid h0
    clear hno hno2 h0
    go_enter Try.func10, Try.ntmps10
    go_upto_region 1 with fail
    rw [← hS]
    rw [← hW]
    clear hW hS
    go_wp2_with (refine wpList_load_g rfl 36 (.tmp 5) rfl S rfl 36 _ (0, 0) _ HM.out Try.underlying36 rfl (by kernel_rfl) ?_)
    refine (check_7 v B n cb W H0.out).mono ?_
    rintro e w5 ⟨k, rfl, hk, hb⟩
    have hkf : k = false := by
      cases k
      · rfl
      · exact absurd (hk.1 rfl) HNO.out
    subst hkf
    have HQ5 := Lib.hid ((hb.block (S + 1 + 1) (ltb HQ.out)).trans HQ.out)
    have HB5 := Lib.hid (HB.out.trans (hb.mono HB.out.size))
    clear hb hk m0
    have HRET := Lib.hid (setRow_heap w5 (S + 1 + 1) _ #[.int .i64 0, .int .i64 0, .int .i64 0, .int .i64 0, .int .i64 0, .int .i64 0, .int .i64 0, .int .i64 0, .int .i64 0, .int .i64 0, .int .i64 0, .int .i64 0, .int .i64 0, .int .i64 0, .int .i64 0, .int .i64 0, .int .i64 0, .slice none 0 0, .int .i64 0, .int .i64 0, .int .i64 0] _ _ HQ5.out)
    have HBF := Lib.hid (below_setRow (g := S + 1 + 1) HB5.out (by have := HSW.out; omega) #[.int .i64 0, .int .i64 0, .int .i64 0, .int .i64 0, .int .i64 0, .int .i64 0, .int .i64 0, .int .i64 0, .int .i64 0, .int .i64 0, .int .i64 0, .int .i64 0, .int .i64 0, .int .i64 0, .int .i64 0, .int .i64 0, .int .i64 0, .slice none 0 0, .int .i64 0, .int .i64 0, .int .i64 0])
    go_wp2_with (refine wpList_store_row rfl 36 (.tmp 9) (.tmp 26) rfl (S + 1 + 1) _ rfl rfl 36 _ HQ5.out (by kernel_rfl) rfl (by simp [Value.oneCell']) ?_)
    refine bodyPost_ret (v := .tuple #[.int .i64 0, .agg #[.int .i64 0, .int .i64 0, .int .i64 0, .int .i64 0, .int .i64 0, .int .i64 0, .int .i64 0, .int .i64 0, .int .i64 0, .int .i64 0, .int .i64 0, .int .i64 0, .int .i64 0, .int .i64 0, .int .i64 0, .int .i64 0, .int .i64 0, .slice none 0 0, .int .i64 0, .int .i64 0, .int .i64 0]]) (results_look _ _ (S + 1 + 1) _ rfl HRET.out rfl) rfl ?_
    exact ⟨rfl, HBF.out⟩
end Go.Proofs.Ytlcbpodjmafoeaa
