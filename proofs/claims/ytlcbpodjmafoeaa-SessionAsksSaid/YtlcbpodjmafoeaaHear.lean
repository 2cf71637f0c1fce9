/- A client that hears. -/
import Derived.Test.YtlcbpodjmafoeaaSend
import Derived.Laws.CopyOwn
import Derived.Deep.Cut
namespace Go.Proofs.Ytlcbpodjmafoeaa
open Go.RowKit

def hearK (s : Ct) (v : Nat → Int) (b : Bool) : Bool := b && !(v 18 == 190) && (v 1 == s.epoch)
def hearD (s : Ct) (v : Nat → Int) (b : Bool) : Ct := if b = true then (if v 18 = 190 then (if s.epoch < v 1 then { s with epoch := v 1, sent := false } else s) else if v 1 = s.epoch then { s with asks := false } else s) else s
def HearPost (g : Nat) (s : Ct) (A : Option Addr) (c : Nat) (v : Nat → Int) (n : Nat) (w : World) (e : Ending) (w' : World) : Prop := ∃ b : Bool, (b = true ↔ OkL [⟨1, 0, 1099511627776⟩, ⟨15, 1, 16⟩, ⟨16, 1, 1099511627776⟩, ⟨18, 0, 999⟩, ⟨19, 0, 100⟩, ⟨20, 0, 100⟩] v n 0) ∧ e = .returned (.tuple #[.agg #[.int .i64 (if hearK s v b = true then v 18 else 0), .int .i64 (if hearK s v b = true then v 19 else 0), .int .i64 (if hearK s v b = true then v 20 else 0)], .bool (hearK s v b)]) ∧ CAt w' g (hearD s v b) A c ∧ Chg (fun k => k = g) w w'
/-- A variable read whole, in a region that draws. -/
theorem take_load {P : Program} {a : Act} {oi : Oper} {w : World} {ty : TypeId} {x : Operand} (ho : oi.op = .load ty x) (g : Nat) (hx : a.eval x = .pointer (some ⟨g, 0, none⟩)) (t : TypeId) (cs : Array Value) (fr : Nat × Nat) (d : TypeDesc) (hg : w.heap[g]? = some (.cells cs t fr))
    (hu : P.underlying ty = some d) (hd : (match d with | .struct _ | .array _ _ => true | _ => false) = true) (hi : (P.info? ty).map (·.size) = some cs.size) : (execOp a.eval oi).run P w = .ok (.value (.agg cs)) w := by
  unfold execOp
  simp only [ho, hx, Instr.loadAt, Instr.sureAddr, Sem.run_bind, Sem.run_pure, Result.andThen_ok, run_loadVar_row w g t ty cs fr d hg hu hd hi]
/-- What is heard at all. -/
def Heard (s : Ct) (v : Nat → Int) (n : Nat) : Prop := s.asks = true ∧ v 0 = 8 ∧ v 15 = s.id ∧ v 16 = s.seq ∧ OkL [⟨1, 0, 1099511627776⟩, ⟨15, 1, 16⟩, ⟨16, 1, 1099511627776⟩, ⟨18, 0, 999⟩, ⟨19, 0, 100⟩, ⟨20, 0, 100⟩] v n 0
theorem results_rep (tmps : Array Value) (w : World) (g : Nat) (cs : Array Value) (hp : tmps.getD 4 undef = .pointer (some ⟨g, 0, none⟩)) (hg : w.heap[g]? = some (.cells cs 34 (0, 0))) (hc : cs.size = 3) :
    (results Try.f21 tmps).run Try.prog w = .ok (.tuple #[.agg cs, tmps.getD 5 undef]) w := by
  rw [results_cell_tmp Try.results21]
  rw [hp]
  have h := run_loadVar_row (P := Try.prog) w g 34 34 cs (0, 0) _ hg Try.underlying34 rfl (by rw [hc]; kernel_rfl)
  simp [asAddr, h]

set_option maxRecDepth 100000 in
set_option maxHeartbeats 4000000 in
theorem hear_deaf (g : Nat) (s : Ct) (A : Option Addr) (c : Nat) (v : Nat → Int) (B : Option Addr) (n cb : Nat) (w : World) (h : CAt w g s A c) (hd : s.asks = false ∨ v 0 ≠ 8 ∨ v 15 ≠ s.id ∨ v 16 ≠ s.seq) :
    Calls Try.prog 21 #[.pointer (some ⟨g, 0, none⟩), .agg #[.int .i64 (v 0), .int .i64 (v 1), .int .i64 (v 2), .int .i64 (v 3), .int .i64 (v 4), .int .i64 (v 5), .int .i64 (v 6), .int .i64 (v 7), .int .i64 (v 8), .int .i64 (v 9), .int .i64 (v 10), .int .i64 (v 11), .int .i64 (v 12), .int .i64 (v 13), .int .i64 (v 14), .int .i64 (v 15), .int .i64 (v 16), .slice B n cb, .int .i64 (v 18), .int .i64 (v 19), .int .i64 (v 20)]] w fun e w' => e = .returned (.tuple #[.agg #[.int .i64 0, .int .i64 0, .int .i64 0], .bool false]) ∧ Below w.heap.size w w' := by
  have hgl := h.glt
  obtain ⟨id, seq, epoch, asks, sent, at_, body⟩ := s
  obtain ⟨W, hW⟩ : ∃ W, W = (w.alloc (.cells #[.int .i64 (v 0), .int .i64 (v 1), .int .i64 (v 2), .int .i64 (v 3), .int .i64 (v 4), .int .i64 (v 5), .int .i64 (v 6), .int .i64 (v 7), .int .i64 (v 8), .int .i64 (v 9), .int .i64 (v 10), .int .i64 (v 11), .int .i64 (v 12), .int .i64 (v 13), .int .i64 (v 14), .int .i64 (v 15), .int .i64 (v 16), .slice B n cb, .int .i64 (v 18), .int .i64 (v 19), .int .i64 (v 20)] 36)).alloc (.cells #[.int .i64 0, .int .i64 0, .int .i64 0] 34) := ⟨_, rfl⟩
  obtain ⟨S, hS⟩ : ∃ S, S = w.heap.size := ⟨_, rfl⟩
  have hm1 : MAt (w.alloc (.cells #[.int .i64 (v 0), .int .i64 (v 1), .int .i64 (v 2), .int .i64 (v 3), .int .i64 (v 4), .int .i64 (v 5), .int .i64 (v 6), .int .i64 (v 7), .int .i64 (v 8), .int .i64 (v 9), .int .i64 (v 10), .int .i64 (v 11), .int .i64 (v 12), .int .i64 (v 13), .int .i64 (v 14), .int .i64 (v 15), .int .i64 (v 16), .slice B n cb, .int .i64 (v 18), .int .i64 (v 19), .int .i64 (v 20)] 36)) S v B n cb := by rw [hS]; exact heap_alloc_new w _
  have hm : MAt W S v B n cb := by rw [hW]; exact hm1.below ((Below.refl _ _).alloc (Nat.le_refl _) _) (by rw [hS]; simp)
  have hr : W.heap[S + 1]? = some (.cells #[.int .i64 0, .int .i64 0, .int .i64 0] 34 (0, 0)) := by
    have := heap_alloc_new (w.alloc (.cells #[.int .i64 (v 0), .int .i64 (v 1), .int .i64 (v 2), .int .i64 (v 3), .int .i64 (v 4), .int .i64 (v 5), .int .i64 (v 6), .int .i64 (v 7), .int .i64 (v 8), .int .i64 (v 9), .int .i64 (v 10), .int .i64 (v 11), .int .i64 (v 12), .int .i64 (v 13), .int .i64 (v 14), .int .i64 (v 15), .int .i64 (v 16), .slice B n cb, .int .i64 (v 18), .int .i64 (v 19), .int .i64 (v 20)] 36)) (.cells #[.int .i64 0, .int .i64 0, .int .i64 0] 34)
    rw [hW, hS]; simpa using this
  have hb : Below w.heap.size w W := by rw [hW]; exact ((Below.refl w.heap.size w).alloc (Nat.le_refl _) _).alloc (by simp) _
  have hc : CAt W g ⟨id, seq, epoch, asks, sent, at_, body⟩ A c := h.below hb
  have HM := Lib.hid hm
  have HR := Lib.hid hr
  have HB := Lib.hid hb
  have HC := Lib.hid hc
  have HSW : Hid (w.heap.size = S) := Lib.hid hS.symm
  have c0 : W.cell? ⟨g, 0, none⟩ = some (.int .i64 id) := cellb (i := 0) hc.blk rfl
  have c1 : W.cell? ⟨g, 1, none⟩ = some (.int .i64 seq) := cellb (i := 1) hc.blk rfl
  have c2 : W.cell? ⟨g, 2, none⟩ = some (.int .i64 epoch) := cellb (i := 2) hc.blk rfl
  have c3 : W.cell? ⟨g, 3, none⟩ = some (.bool asks) := cellb (i := 3) hc.blk rfl
  have c4 : W.cell? ⟨g, 4, none⟩ = some (.bool sent) := cellb (i := 4) hc.blk rfl
  have f2 := fzb hc.blk 2
  have f3 := fzb hc.blk 3
  have f4 := fzb hc.blk 4
  have m0 := cellb (i := 0) hm rfl
  have m1 := cellb (i := 1) hm rfl
  have m15 := cellb (i := 15) hm rfl
  have m16 := cellb (i := 16) hm rfl
  have m18 := cellb (i := 18) hm rfl
  clear hm hr hb hc h hm1

  simp only at hd
  cases asks
  · clear hd
    go_enter Try.func21, Try.ntmps21
    go_wp2_with fail
    rw [← hS]
    rw [← hW]
    clear hW hS
    go_quiet (fail)
    have HRq : Hid ((W.drewN nq).heap[S + 1]? = some (.cells #[.int .i64 0, .int .i64 0, .int .i64 0] 34 (0, 0))) := HR
    have HRET := Lib.hid (setRow_heap (W.drewN nq) (S + 1) _ #[.int .i64 0, .int .i64 0, .int .i64 0] _ _ HRq.out)
    have HBF := Lib.hid (below_setRow (g := S + 1) (below_dn (n := nq) HB.out) (by have := HSW.out; omega) #[.int .i64 0, .int .i64 0, .int .i64 0])
    go_wp2_with (refine wpList_store_row rfl 34 (.tmp 4) (.tmp 43) rfl (S + 1) _ rfl rfl 34 _ HRq.out (by kernel_rfl) rfl (by simp [Value.oneCell']) ?_)
    refine bodyPost_ret (v := .tuple #[.agg #[.int .i64 0, .int .i64 0, .int .i64 0], .bool false]) (results_rep _ _ (S + 1) _ rfl HRET.out rfl) rfl ?_
    exact ⟨rfl, HBF.out⟩
  rcases Classical.em (v 0 = 8) with h0 | h0
  rotate_left
  · clear hd
    have q0 : (v 0 != 8) = true := by simpa using h0
    go_enter Try.func21, Try.ntmps21
    go_wp2_with fail
    rw [← hS]
    rw [← hW]
    clear hW hS
    go_quiet (fail)
    have HRq : Hid ((W.drewN nq).heap[S + 1]? = some (.cells #[.int .i64 0, .int .i64 0, .int .i64 0] 34 (0, 0))) := HR
    have HRET := Lib.hid (setRow_heap (W.drewN nq) (S + 1) _ #[.int .i64 0, .int .i64 0, .int .i64 0] _ _ HRq.out)
    have HBF := Lib.hid (below_setRow (g := S + 1) (below_dn (n := nq) HB.out) (by have := HSW.out; omega) #[.int .i64 0, .int .i64 0, .int .i64 0])
    go_wp2_with (refine wpList_store_row rfl 34 (.tmp 4) (.tmp 43) rfl (S + 1) _ rfl rfl 34 _ HRq.out (by kernel_rfl) rfl (by simp [Value.oneCell']) ?_)
    refine bodyPost_ret (v := .tuple #[.agg #[.int .i64 0, .int .i64 0, .int .i64 0], .bool false]) (results_rep _ _ (S + 1) _ rfl HRET.out rfl) rfl ?_
    exact ⟨rfl, HBF.out⟩
  rcases Classical.em (v 15 = id) with h1 | h1
  rotate_left
  · clear hd
    have q0 : (v 0 != 8) = false := by simp [h0]
    have q1 : (v 15 != id) = true := by simpa using h1
    clear h0
    go_enter Try.func21, Try.ntmps21
    go_wp2_with fail
    rw [← hS]
    rw [← hW]
    clear hW hS
    go_quiet (fail)
    have HRq : Hid ((W.drewN nq).heap[S + 1]? = some (.cells #[.int .i64 0, .int .i64 0, .int .i64 0] 34 (0, 0))) := HR
    have HRET := Lib.hid (setRow_heap (W.drewN nq) (S + 1) _ #[.int .i64 0, .int .i64 0, .int .i64 0] _ _ HRq.out)
    have HBF := Lib.hid (below_setRow (g := S + 1) (below_dn (n := nq) HB.out) (by have := HSW.out; omega) #[.int .i64 0, .int .i64 0, .int .i64 0])
    go_wp2_with (refine wpList_store_row rfl 34 (.tmp 4) (.tmp 43) rfl (S + 1) _ rfl rfl 34 _ HRq.out (by kernel_rfl) rfl (by simp [Value.oneCell']) ?_)
    refine bodyPost_ret (v := .tuple #[.agg #[.int .i64 0, .int .i64 0, .int .i64 0], .bool false]) (results_rep _ _ (S + 1) _ rfl HRET.out rfl) rfl ?_
    exact ⟨rfl, HBF.out⟩
  · have h2 : v 16 ≠ seq := by
      rcases hd with e | e | e | e
      · cases e
      · exact absurd h0 e
      · exact absurd h1 e
      · exact e
    clear hd
    have q0 : (v 0 != 8) = false := by simp [h0]
    have q1 : (v 15 != id) = false := by simp [h1]
    have q2 : (v 16 != seq) = true := by simpa using h2
    clear h0 h1
    go_enter Try.func21, Try.ntmps21
    go_wp2_with fail
    rw [← hS]
    rw [← hW]
    clear hW hS
    go_quiet (fail)
    have HRq : Hid ((W.drewN nq).heap[S + 1]? = some (.cells #[.int .i64 0, .int .i64 0, .int .i64 0] 34 (0, 0))) := HR
    have HRET := Lib.hid (setRow_heap (W.drewN nq) (S + 1) _ #[.int .i64 0, .int .i64 0, .int .i64 0] _ _ HRq.out)
    have HBF := Lib.hid (below_setRow (g := S + 1) (below_dn (n := nq) HB.out) (by have := HSW.out; omega) #[.int .i64 0, .int .i64 0, .int .i64 0])
    go_wp2_with (refine wpList_store_row rfl 34 (.tmp 4) (.tmp 43) rfl (S + 1) _ rfl rfl 34 _ HRq.out (by kernel_rfl) rfl (by simp [Value.oneCell']) ?_)
    refine bodyPost_ret (v := .tuple #[.agg #[.int .i64 0, .int .i64 0, .int .i64 0], .bool false]) (results_rep _ _ (S + 1) _ rfl HRET.out rfl) rfl ?_
    exact ⟨rfl, HBF.out⟩

set_option maxRecDepth 100000 in
set_option maxHeartbeats 4000000 in
theorem hear_asked (g : Nat) (s : Ct) (A : Option Addr) (c : Nat) (v : Nat → Int) (B : Option Addr) (n cb : Nat) (w : World) (h : CAt w g s A c) (hd : s.asks = true ∧ v 0 = 8 ∧ v 15 = s.id ∧ v 16 = s.seq) :
    Calls Try.prog 21 #[.pointer (some ⟨g, 0, none⟩), .agg #[.int .i64 (v 0), .int .i64 (v 1), .int .i64 (v 2), .int .i64 (v 3), .int .i64 (v 4), .int .i64 (v 5), .int .i64 (v 6), .int .i64 (v 7), .int .i64 (v 8), .int .i64 (v 9), .int .i64 (v 10), .int .i64 (v 11), .int .i64 (v 12), .int .i64 (v 13), .int .i64 (v 14), .int .i64 (v 15), .int .i64 (v 16), .slice B n cb, .int .i64 (v 18), .int .i64 (v 19), .int .i64 (v 20)]] w fun e w' => HearPost g s A c v n w e w' := by
  have hgl := h.glt
  obtain ⟨id, seq, epoch, asks, sent, at_, body⟩ := s
  obtain ⟨W, hW⟩ : ∃ W, W = (w.alloc (.cells #[.int .i64 (v 0), .int .i64 (v 1), .int .i64 (v 2), .int .i64 (v 3), .int .i64 (v 4), .int .i64 (v 5), .int .i64 (v 6), .int .i64 (v 7), .int .i64 (v 8), .int .i64 (v 9), .int .i64 (v 10), .int .i64 (v 11), .int .i64 (v 12), .int .i64 (v 13), .int .i64 (v 14), .int .i64 (v 15), .int .i64 (v 16), .slice B n cb, .int .i64 (v 18), .int .i64 (v 19), .int .i64 (v 20)] 36)).alloc (.cells #[.int .i64 0, .int .i64 0, .int .i64 0] 34) := ⟨_, rfl⟩
  obtain ⟨S, hS⟩ : ∃ S, S = w.heap.size := ⟨_, rfl⟩
  have hm1 : MAt (w.alloc (.cells #[.int .i64 (v 0), .int .i64 (v 1), .int .i64 (v 2), .int .i64 (v 3), .int .i64 (v 4), .int .i64 (v 5), .int .i64 (v 6), .int .i64 (v 7), .int .i64 (v 8), .int .i64 (v 9), .int .i64 (v 10), .int .i64 (v 11), .int .i64 (v 12), .int .i64 (v 13), .int .i64 (v 14), .int .i64 (v 15), .int .i64 (v 16), .slice B n cb, .int .i64 (v 18), .int .i64 (v 19), .int .i64 (v 20)] 36)) S v B n cb := by rw [hS]; exact heap_alloc_new w _
  have hm : MAt W S v B n cb := by rw [hW]; exact hm1.below ((Below.refl _ _).alloc (Nat.le_refl _) _) (by rw [hS]; simp)
  have hr : W.heap[S + 1]? = some (.cells #[.int .i64 0, .int .i64 0, .int .i64 0] 34 (0, 0)) := by
    have := heap_alloc_new (w.alloc (.cells #[.int .i64 (v 0), .int .i64 (v 1), .int .i64 (v 2), .int .i64 (v 3), .int .i64 (v 4), .int .i64 (v 5), .int .i64 (v 6), .int .i64 (v 7), .int .i64 (v 8), .int .i64 (v 9), .int .i64 (v 10), .int .i64 (v 11), .int .i64 (v 12), .int .i64 (v 13), .int .i64 (v 14), .int .i64 (v 15), .int .i64 (v 16), .slice B n cb, .int .i64 (v 18), .int .i64 (v 19), .int .i64 (v 20)] 36)) (.cells #[.int .i64 0, .int .i64 0, .int .i64 0] 34)
    rw [hW, hS]; simpa using this
  have hb : Below w.heap.size w W := by rw [hW]; exact ((Below.refl w.heap.size w).alloc (Nat.le_refl _) _).alloc (by simp) _
  have hc : CAt W g ⟨id, seq, epoch, asks, sent, at_, body⟩ A c := h.below hb
  have HM := Lib.hid hm
  have HR := Lib.hid hr
  have HB := Lib.hid hb
  have HC := Lib.hid hc
  have HSW : Hid (w.heap.size = S) := Lib.hid hS.symm
  have c0 : W.cell? ⟨g, 0, none⟩ = some (.int .i64 id) := cellb (i := 0) hc.blk rfl
  have c1 : W.cell? ⟨g, 1, none⟩ = some (.int .i64 seq) := cellb (i := 1) hc.blk rfl
  have c2 : W.cell? ⟨g, 2, none⟩ = some (.int .i64 epoch) := cellb (i := 2) hc.blk rfl
  have c3 : W.cell? ⟨g, 3, none⟩ = some (.bool asks) := cellb (i := 3) hc.blk rfl
  have c4 : W.cell? ⟨g, 4, none⟩ = some (.bool sent) := cellb (i := 4) hc.blk rfl
  have f2 := fzb hc.blk 2
  have f3 := fzb hc.blk 3
  have f4 := fzb hc.blk 4
  have m0 := cellb (i := 0) hm rfl
  have m1 := cellb (i := 1) hm rfl
  have m15 := cellb (i := 15) hm rfl
  have m16 := cellb (i := 16) hm rfl
  have m18 := cellb (i := 18) hm rfl
  clear hm hr hb hc h hm1

  simp only at hd
  obtain ⟨rfl, hk, hi, hs⟩ := hd
  have q0 : (v 0 != 8) = false := by simp [hk]
  have q1 : (v 15 != id) = false := by simp [hi]
  have q2 : (v 16 != seq) = false := by simp [hs]
  clear hi hs
  have HK := Lib.hid hk
  clear hk
  go_enter Try.func21, Try.ntmps21
  go_wp2_with fail
  rw [← hS]
  rw [← hW]
  have hSl : S < W.drew.heap.size := ltb HM.out
  have hgl2 : g < W.drew.heap.size := ltb HC.out.blk
  clear hW hS c0 c1 c2 c3 c4 m0 m1 m15 m16 m18
  have ud0 : W.drew.heap[S]? = some (.cells #[.int .i64 (v 0), .int .i64 (v 1), .int .i64 (v 2), .int .i64 (v 3), .int .i64 (v 4), .int .i64 (v 5), .int .i64 (v 6), .int .i64 (v 7), .int .i64 (v 8), .int .i64 (v 9), .int .i64 (v 10), .int .i64 (v 11), .int .i64 (v 12), .int .i64 (v 13), .int .i64 (v 14), .int .i64 (v 15), .int .i64 (v 16), .slice B n cb, .int .i64 (v 18), .int .i64 (v 19), .int .i64 (v 20)] 36 (0, 0)) := HM.out
  have ud1 : W.drew.heap[g]? = some (.cells #[.int .i64 id, .int .i64 seq, .int .i64 epoch, .bool true, .bool sent, .int .i64 at_, .slice A body.length c] 90 (0, 0)) := HC.out.blk
  have ud2 : W.drew.cell? ⟨g, 0, none⟩ = some (.int .i64 id) := cellb ud1 rfl
  have ud3 : W.drew.cell? ⟨g, 1, none⟩ = some (.int .i64 seq) := cellb ud1 rfl
  have ud4 : W.drew.cell? ⟨g, 3, none⟩ = some (.bool true) := cellb ud1 rfl
  have ud5 : W.drew.cell? ⟨S, 0, none⟩ = some (.int .i64 (v 0)) := cellb ud0 rfl
  have ud6 : W.drew.cell? ⟨S, 15, none⟩ = some (.int .i64 (v 15)) := cellb ud0 rfl
  have ud7 : W.drew.cell? ⟨S, 16, none⟩ = some (.int .i64 (v 16)) := cellb ud0 rfl
  refine wp_region_noPanic ?_
  refine wp_region_held_drew (S := fun w' => w'.heap[S]? = some (.cells #[.int .i64 (v 0), .int .i64 (v 1), .int .i64 (v 2), .int .i64 (v 3), .int .i64 (v 4), .int .i64 (v 5), .int .i64 (v 6), .int .i64 (v 7), .int .i64 (v 8), .int .i64 (v 9), .int .i64 (v 10), .int .i64 (v 11), .int .i64 (v 12), .int .i64 (v 13), .int .i64 (v 14), .int .i64 (v 15), .int .i64 (v 16), .slice B n cb, .int .i64 (v 18), .int .i64 (v 19), .int .i64 (v 20)] 36 (0, 0)) ∧ w'.heap[g]? = some (.cells #[.int .i64 id, .int .i64 seq, .int .i64 epoch, .bool true, .bool sent, .int .i64 at_, .slice A body.length c] 90 (0, 0)) ∧ w'.cell? ⟨g, 0, none⟩ = some (.int .i64 id) ∧ w'.cell? ⟨g, 1, none⟩ = some (.int .i64 seq) ∧ w'.cell? ⟨g, 3, none⟩ = some (.bool true) ∧ w'.cell? ⟨S, 0, none⟩ = some (.int .i64 (v 0)) ∧ w'.cell? ⟨S, 15, none⟩ = some (.int .i64 (v 15)) ∧ w'.cell? ⟨S, 16, none⟩ = some (.int .i64 (v 16))) (by kernel_rfl) ?_ (fun hHeld => ?_)
  · try dsimp only
    (refine ⟨?_, ?_, ?_, ?_, ?_, ?_, ?_, ?_⟩ <;> (first | with_reducible assumption))
  refine wpAnyH_take (i := 0) (v := ?_) (by (simp only [List.getElem?_toArray, List.getElem?_cons_zero]; rfl)) (by kernel_rfl) (by kernel_rfl) (by kernel_rfl) (fun _ _ _ h => h) (Or.inl ⟨by rfl, ?_⟩) (by assumption) ?_
  rotate_left
  · (intro w hSw; (try dsimp only at hSw); go_simp; try with_reducible rfl)
  try simp only [Act.put, List.setIfInBounds_toArray, List.set_cons_zero, List.set_cons_succ]
  refine wpAnyH_take (i := 1) (v := ?_) (by (simp only [List.getElem?_toArray, List.getElem?_cons_succ, List.getElem?_cons_zero]; rfl)) (by kernel_rfl) (by kernel_rfl) (by kernel_rfl) (fun _ _ _ h => h) (Or.inl ⟨by rfl, ?_⟩) (by assumption) ?_
  rotate_left
  · (intro w hSw; (try dsimp only at hSw); go_simp; try with_reducible rfl)
  try simp only [Act.put, List.setIfInBounds_toArray, List.set_cons_zero, List.set_cons_succ]
  refine wpAnyH_take (i := 2) (v := ?_) (by (simp only [List.getElem?_toArray, List.getElem?_cons_succ, List.getElem?_cons_zero]; rfl)) (by kernel_rfl) (by kernel_rfl) (by kernel_rfl) (fun _ _ _ h => h) (Or.inl ⟨by rfl, ?_⟩) (by assumption) ?_
  rotate_left
  · (intro w hSw; (try dsimp only at hSw); go_simp; try with_reducible rfl)
  try simp only [Act.put, List.setIfInBounds_toArray, List.set_cons_zero, List.set_cons_succ]
  refine wpAnyH_take (i := 3) (v := ?_) (by (simp only [List.getElem?_toArray, List.getElem?_cons_succ, List.getElem?_cons_zero]; rfl)) (by kernel_rfl) (by kernel_rfl) (by kernel_rfl) (fun _ _ _ h => h) (Or.inl ⟨by rfl, ?_⟩) (by assumption) ?_
  rotate_left
  · (intro w hSw; (try dsimp only at hSw); go_simp; try with_reducible rfl)
  try simp only [Act.put, List.setIfInBounds_toArray, List.set_cons_zero, List.set_cons_succ]
  refine wpAnyH_take (i := 4) (v := ?_) (by (simp only [List.getElem?_toArray, List.getElem?_cons_succ, List.getElem?_cons_zero]; rfl)) (by kernel_rfl) (by kernel_rfl) (by kernel_rfl) (fun _ _ _ h => h) (Or.inl ⟨by rfl, ?_⟩) (by assumption) ?_
  rotate_left
  · (intro w hSw; (try dsimp only at hSw); go_simp; try with_reducible rfl)
  try simp only [Act.put, List.setIfInBounds_toArray, List.set_cons_zero, List.set_cons_succ]
  refine wpAnyH_take (i := 5) (v := ?_) (by (simp only [List.getElem?_toArray, List.getElem?_cons_succ, List.getElem?_cons_zero]; rfl)) (by kernel_rfl) (by kernel_rfl) (by kernel_rfl) (fun _ _ _ h => h) (Or.inl ⟨by rfl, ?_⟩) (by assumption) ?_
  rotate_left
  · (intro w hSw; (try dsimp only at hSw); go_simp; try with_reducible rfl)
  try simp only [Act.put, List.setIfInBounds_toArray, List.set_cons_zero, List.set_cons_succ]
  refine wpAnyH_take (i := 6) (v := ?_) (by (simp only [List.getElem?_toArray, List.getElem?_cons_succ, List.getElem?_cons_zero]; rfl)) (by kernel_rfl) (by kernel_rfl) (by kernel_rfl) (fun _ _ _ h => h) (Or.inl ⟨by rfl, ?_⟩) (by assumption) ?_
  rotate_left
  · (intro w hSw; (try dsimp only at hSw); go_simp; try with_reducible rfl)
  try simp only [Act.put, List.setIfInBounds_toArray, List.set_cons_zero, List.set_cons_succ]
  refine wpAnyH_take (i := 7) (v := ?_) (by (simp only [List.getElem?_toArray, List.getElem?_cons_succ, List.getElem?_cons_zero]; rfl)) (by kernel_rfl) (by kernel_rfl) (by kernel_rfl) (fun _ _ _ h => h) (Or.inl ⟨by rfl, ?_⟩) (by assumption) ?_
  rotate_left
  · (intro w hSw; (try dsimp only at hSw); go_simp; try with_reducible rfl)
  try simp only [Act.put, List.setIfInBounds_toArray, List.set_cons_zero, List.set_cons_succ]
  refine wpAnyH_take (i := 8) (v := ?_) (by (simp only [List.getElem?_toArray, List.getElem?_cons_succ, List.getElem?_cons_zero]; rfl)) (by kernel_rfl) (by kernel_rfl) (by kernel_rfl) (fun _ _ _ h => h) (Or.inl ⟨by rfl, ?_⟩) (by assumption) ?_
  rotate_left
  · (intro w hSw; (try dsimp only at hSw); go_simp; try with_reducible rfl)
  try simp only [Act.put, List.setIfInBounds_toArray, List.set_cons_zero, List.set_cons_succ]
  refine wpAnyH_take (i := 9) (v := ?_) (by (simp only [List.getElem?_toArray, List.getElem?_cons_succ, List.getElem?_cons_zero]; rfl)) (by kernel_rfl) (by kernel_rfl) (by kernel_rfl) (fun _ _ _ h => h) (Or.inl ⟨by rfl, ?_⟩) (by assumption) ?_
  rotate_left
  · (intro w hSw; (try dsimp only at hSw); go_simp; try with_reducible rfl)
  try simp only [Act.put, List.setIfInBounds_toArray, List.set_cons_zero, List.set_cons_succ]
  refine wpAnyH_take (i := 10) (v := ?_) (by (simp only [List.getElem?_toArray, List.getElem?_cons_succ, List.getElem?_cons_zero]; rfl)) (by kernel_rfl) (by kernel_rfl) (by kernel_rfl) (fun _ _ _ h => h) (Or.inl ⟨by rfl, ?_⟩) (by assumption) ?_
  rotate_left
  · (intro w hSw; (try dsimp only at hSw); go_simp; try with_reducible rfl)
  try simp only [Act.put, List.setIfInBounds_toArray, List.set_cons_zero, List.set_cons_succ]
  refine wpAnyH_take (i := 11) (v := ?_) (by (simp only [List.getElem?_toArray, List.getElem?_cons_succ, List.getElem?_cons_zero]; rfl)) (by kernel_rfl) (by kernel_rfl) (by kernel_rfl) (fun _ _ _ h => h) (Or.inl ⟨by rfl, ?_⟩) (by assumption) ?_
  rotate_left
  · (intro w hSw; (try dsimp only at hSw); go_simp; try with_reducible rfl)
  try simp only [Act.put, List.setIfInBounds_toArray, List.set_cons_zero, List.set_cons_succ]
  refine wpAnyH_take (i := 12) (v := ?_) (by (simp only [List.getElem?_toArray, List.getElem?_cons_succ, List.getElem?_cons_zero]; rfl)) (by kernel_rfl) (by kernel_rfl) (by kernel_rfl) (fun _ _ _ h => h) (Or.inl ⟨by rfl, ?_⟩) (by assumption) ?_
  rotate_left
  · (intro w hSw; (try dsimp only at hSw); go_simp; try with_reducible rfl)
  try simp only [Act.put, List.setIfInBounds_toArray, List.set_cons_zero, List.set_cons_succ]
  refine wpAnyH_take (i := 13) (v := ?_) (by (simp only [List.getElem?_toArray, List.getElem?_cons_succ, List.getElem?_cons_zero]; rfl)) (by kernel_rfl) (by kernel_rfl) (by kernel_rfl) (fun _ _ _ h => h) (Or.inl ⟨by rfl, ?_⟩) (by assumption) ?_
  rotate_left
  · (intro w hSw; (try dsimp only at hSw); go_simp; try with_reducible rfl)
  try simp only [Act.put, List.setIfInBounds_toArray, List.set_cons_zero, List.set_cons_succ]
  refine wpAnyH_take (i := 14) (v := ?_) (by (simp only [List.getElem?_toArray, List.getElem?_cons_succ, List.getElem?_cons_zero]; rfl)) (by kernel_rfl) (by kernel_rfl) (by kernel_rfl) (fun _ _ _ h => h) (Or.inl ⟨by rfl, ?_⟩) (by assumption) ?_
  rotate_left
  · (intro w hSw; (try dsimp only at hSw); go_simp; try with_reducible rfl)
  try simp only [Act.put, List.setIfInBounds_toArray, List.set_cons_zero, List.set_cons_succ]
  refine wpAnyH_take (i := 15) (v := ?_) (by (simp only [List.getElem?_toArray, List.getElem?_cons_succ, List.getElem?_cons_zero]; rfl)) (by kernel_rfl) (by kernel_rfl) (by kernel_rfl) (fun _ _ _ h => h) (Or.inl ⟨by rfl, ?_⟩) (by assumption) ?_
  rotate_left
  · (intro w hSw; (try dsimp only at hSw); go_simp; try with_reducible rfl)
  try simp only [Act.put, List.setIfInBounds_toArray, List.set_cons_zero, List.set_cons_succ]
  refine wpAnyH_take (i := 16) (v := ?_) (by (simp only [List.getElem?_toArray, List.getElem?_cons_succ, List.getElem?_cons_zero]; rfl)) (by kernel_rfl) (by kernel_rfl) (by kernel_rfl) (fun _ _ _ h => h) (Or.inl ⟨by rfl, ?_⟩) (by assumption) ?_
  rotate_left
  · (intro w hSw; (try dsimp only at hSw); go_simp; try with_reducible rfl)
  try simp only [Act.put, List.setIfInBounds_toArray, List.set_cons_zero, List.set_cons_succ]
  refine wpAnyH_take (i := 17) (v := ?_) (by (simp only [List.getElem?_toArray, List.getElem?_cons_succ, List.getElem?_cons_zero]; rfl)) (by kernel_rfl) (by kernel_rfl) (by kernel_rfl) (fun _ _ _ h => h) (Or.inl ⟨by rfl, ?_⟩) (by assumption) ?_
  rotate_left
  · (intro w hSw; (try dsimp only at hSw); go_simp; try with_reducible rfl)
  try simp only [Act.put, List.setIfInBounds_toArray, List.set_cons_zero, List.set_cons_succ]
  refine wpAnyH_take (i := 18) (v := ?_) (by (simp only [List.getElem?_toArray, List.getElem?_cons_succ, List.getElem?_cons_zero]; rfl)) (by kernel_rfl) (by kernel_rfl) (by kernel_rfl) (fun _ _ _ h => h) (Or.inl ⟨by rfl, ?_⟩) (by assumption) ?_
  rotate_left
  · (intro w hSw; (try dsimp only at hSw); go_simp; try with_reducible rfl)
  try simp only [Act.put, List.setIfInBounds_toArray, List.set_cons_zero, List.set_cons_succ]
  refine wpAnyH_take (i := 19) (v := ?_) (by (simp only [List.getElem?_toArray, List.getElem?_cons_succ, List.getElem?_cons_zero]; rfl)) (by kernel_rfl) (by kernel_rfl) (by kernel_rfl) (fun _ _ _ h => h) (Or.inl ⟨by rfl, ?_⟩) (by assumption) ?_
  rotate_left
  · (intro w hSw; (try dsimp only at hSw); go_simp; try with_reducible rfl)
  try simp only [Act.put, List.setIfInBounds_toArray, List.set_cons_zero, List.set_cons_succ]
  refine wpAnyH_take (i := 20) (v := ?_) (by (simp only [List.getElem?_toArray, List.getElem?_cons_succ, List.getElem?_cons_zero]; rfl)) (by kernel_rfl) (by kernel_rfl) (by kernel_rfl) (fun _ _ _ h => h) (Or.inl ⟨by rfl, ?_⟩) (by assumption) ?_
  rotate_left
  · (intro w hSw; (try dsimp only at hSw); go_simp; try with_reducible rfl)
  try simp only [Act.put, List.setIfInBounds_toArray, List.set_cons_zero, List.set_cons_succ]
  refine wpAnyH_take (i := 21) (v := ?_) (by (simp only [List.getElem?_toArray, List.getElem?_cons_succ, List.getElem?_cons_zero]; rfl)) (by kernel_rfl) (by kernel_rfl) (by kernel_rfl) (fun _ _ _ h => h) (Or.inl ⟨by rfl, ?_⟩) (by assumption) ?_
  rotate_left
  · (intro w hSw; (try dsimp only at hSw); go_simp; try with_reducible rfl)
  try simp only [Act.put, List.setIfInBounds_toArray, List.set_cons_zero, List.set_cons_succ]
  refine wpAnyH_take (i := 22) (v := ?_) (by (simp only [List.getElem?_toArray, List.getElem?_cons_succ, List.getElem?_cons_zero]; rfl)) (by kernel_rfl) (by kernel_rfl) (by kernel_rfl) (fun _ _ _ h => h) (Or.inl ⟨by rfl, ?_⟩) (by assumption) ?_
  rotate_left
  · (intro w hSw; (try dsimp only at hSw); go_simp; try with_reducible rfl)
  try simp only [Act.put, List.setIfInBounds_toArray, List.set_cons_zero, List.set_cons_succ]
  refine wpAnyH_take (i := 23) (v := ?_) (by (simp only [List.getElem?_toArray, List.getElem?_cons_succ, List.getElem?_cons_zero]; rfl)) (by kernel_rfl) (by kernel_rfl) (by kernel_rfl) (fun _ _ _ h => h) (Or.inl ⟨by rfl, ?_⟩) (by assumption) ?_
  rotate_left
  · (intro w hSw; (try dsimp only at hSw); go_simp; try with_reducible rfl)
  try simp only [Act.put, List.setIfInBounds_toArray, List.set_cons_zero, List.set_cons_succ]
  refine wpAnyH_take (i := 24) (v := ?_) (by (simp only [List.getElem?_toArray, List.getElem?_cons_succ, List.getElem?_cons_zero]; rfl)) (by kernel_rfl) (by kernel_rfl) (by kernel_rfl) (fun _ _ _ h => h) (Or.inl ⟨by rfl, ?_⟩) (by assumption) ?_
  rotate_left
  · (intro w hSw; (try dsimp only at hSw); go_simp; try with_reducible rfl)
  try simp only [Act.put, List.setIfInBounds_toArray, List.set_cons_zero, List.set_cons_succ]
  refine wpAnyH_take (i := 25) (v := ?_) (by (simp only [List.getElem?_toArray, List.getElem?_cons_succ, List.getElem?_cons_zero]; rfl)) (by kernel_rfl) (by kernel_rfl) (by kernel_rfl) (fun _ _ _ h => h) (Or.inl ⟨by rfl, ?_⟩) (by assumption) ?_
  rotate_left
  · (intro w hSw; (try dsimp only at hSw); go_simp; try with_reducible rfl)
  try simp only [Act.put, List.setIfInBounds_toArray, List.set_cons_zero, List.set_cons_succ]
  refine wpAnyH_take (i := 26) (v := ?_) (by (simp only [List.getElem?_toArray, List.getElem?_cons_succ, List.getElem?_cons_zero]; rfl)) (by kernel_rfl) (by kernel_rfl) (by kernel_rfl) (fun _ _ _ h => h) (Or.inl ⟨by rfl, ?_⟩) (by assumption) ?_
  rotate_left
  · (intro w hSw; (try dsimp only at hSw); go_simp; try with_reducible rfl)
  try simp only [Act.put, List.setIfInBounds_toArray, List.set_cons_zero, List.set_cons_succ]
  refine wpAnyH_take (i := 27) (v := ?_) (by (simp only [List.getElem?_toArray, List.getElem?_cons_succ, List.getElem?_cons_zero]; rfl)) (by kernel_rfl) (by kernel_rfl) (by kernel_rfl) (fun _ _ _ h => h) (Or.inl ⟨by rfl, ?_⟩) (by assumption) ?_
  rotate_left
  · (intro w hSw; (try dsimp only at hSw); go_simp; try with_reducible rfl)
  try simp only [Act.put, List.setIfInBounds_toArray, List.set_cons_zero, List.set_cons_succ]
  refine wpAnyH_take (i := 28) (v := ?_) (by (simp only [List.getElem?_toArray, List.getElem?_cons_succ, List.getElem?_cons_zero]; rfl)) (by kernel_rfl) (by kernel_rfl) (by kernel_rfl) (fun _ _ _ h => h) (Or.inl ⟨by rfl, ?_⟩) (by assumption) ?_
  rotate_left
  · (intro w hSw; (try dsimp only at hSw); go_simp; try with_reducible rfl)
  try simp only [Act.put, List.setIfInBounds_toArray, List.set_cons_zero, List.set_cons_succ]
  refine wpAnyH_take (i := 29) (v := ?_) (by (simp only [List.getElem?_toArray, List.getElem?_cons_succ, List.getElem?_cons_zero]; rfl)) (by kernel_rfl) (by kernel_rfl) (by kernel_rfl) (fun _ _ _ h => h) (Or.inl ⟨by rfl, ?_⟩) (by assumption) ?_
  rotate_left
  · (intro w hSw; (try dsimp only at hSw); go_simp; try with_reducible rfl)
  try simp only [Act.put, List.setIfInBounds_toArray, List.set_cons_zero, List.set_cons_succ]
  refine wpAnyH_take (i := 30) (v := ?_) (by (simp only [List.getElem?_toArray, List.getElem?_cons_succ, List.getElem?_cons_zero]; rfl)) (by kernel_rfl) (by kernel_rfl) (by kernel_rfl) (fun _ _ _ h => h) (Or.inl ⟨by rfl, ?_⟩) (by assumption) ?_
  rotate_left
  · (intro w hSw; (try dsimp only at hSw); go_simp; try with_reducible rfl)
  try simp only [Act.put, List.setIfInBounds_toArray, List.set_cons_zero, List.set_cons_succ]
  refine wpAnyH_take (i := 31) (v := ?_) (by (simp only [List.getElem?_toArray, List.getElem?_cons_succ, List.getElem?_cons_zero]; rfl)) (by kernel_rfl) (by kernel_rfl) (by kernel_rfl) (fun _ _ _ h => h) (Or.inl ⟨by rfl, ?_⟩) (by assumption) ?_
  rotate_left
  · (intro w hSw; (try dsimp only at hSw); go_simp; try with_reducible rfl)
  try simp only [Act.put, List.setIfInBounds_toArray, List.set_cons_zero, List.set_cons_succ]
  refine wpAnyH_take (i := 32) (v := ?_) (by (simp only [List.getElem?_toArray, List.getElem?_cons_succ, List.getElem?_cons_zero]; rfl)) (by kernel_rfl) (by kernel_rfl) (by kernel_rfl) (fun _ _ _ h => h) (Or.inl ⟨by rfl, ?_⟩) (by assumption) ?_
  rotate_left
  · (intro w hSw; (try dsimp only at hSw); go_simp; try with_reducible rfl)
  try simp only [Act.put, List.setIfInBounds_toArray, List.set_cons_zero, List.set_cons_succ]
  refine wpAnyH_take (i := 33) (v := ?_) (by (simp only [List.getElem?_toArray, List.getElem?_cons_succ, List.getElem?_cons_zero]; rfl)) (by kernel_rfl) (by kernel_rfl) (by kernel_rfl) (fun _ _ _ h => h) (Or.inl ⟨by rfl, ?_⟩) (by assumption) ?_
  rotate_left
  · intro w hSw
    try dsimp only at hSw
    refine take_load (x := .tmp 3) (ty := 36) ?_ S ?_ 36 _ (0, 0) _ hSw.1 Try.underlying36 rfl (by kernel_rfl)
    all_goals rfl
  try simp only [Act.put, List.setIfInBounds_toArray, List.set_cons_zero, List.set_cons_succ]
  refine wpAnyH_ready (rs := [34]) (by kernel_rfl) (by simp) ?_
  refine AllReadyH.cons (by (simp only [List.getElem?_toArray, List.getElem?_cons_succ, List.getElem?_cons_zero]; rfl)) (fun K hK => ?_) AllReadyH.nil
  go_simp
  refine (check_8 v B n cb W.drew HK.out).mono ?_
  rintro e w5 ⟨b, rfl, hb8, hb⟩
  have ue0 : w5.heap[S]? = some (.cells #[.int .i64 (v 0), .int .i64 (v 1), .int .i64 (v 2), .int .i64 (v 3), .int .i64 (v 4), .int .i64 (v 5), .int .i64 (v 6), .int .i64 (v 7), .int .i64 (v 8), .int .i64 (v 9), .int .i64 (v 10), .int .i64 (v 11), .int .i64 (v 12), .int .i64 (v 13), .int .i64 (v 14), .int .i64 (v 15), .int .i64 (v 16), .slice B n cb, .int .i64 (v 18), .int .i64 (v 19), .int .i64 (v 20)] 36 (0, 0)) := ((hb.block S (by assumption)).trans ud0)
  have ue1 : w5.heap[g]? = some (.cells #[.int .i64 id, .int .i64 seq, .int .i64 epoch, .bool true, .bool sent, .int .i64 at_, .slice A body.length c] 90 (0, 0)) := ((hb.block g (by assumption)).trans ud1)
  have ue2 : w5.cell? ⟨g, 0, none⟩ = some (.int .i64 id) := cellb ue1 rfl
  have ue3 : w5.cell? ⟨g, 1, none⟩ = some (.int .i64 seq) := cellb ue1 rfl
  have ue4 : w5.cell? ⟨g, 3, none⟩ = some (.bool true) := cellb ue1 rfl
  have ue5 : w5.cell? ⟨S, 0, none⟩ = some (.int .i64 (v 0)) := cellb ue0 rfl
  have ue6 : w5.cell? ⟨S, 15, none⟩ = some (.int .i64 (v 15)) := cellb ue0 rfl
  have ue7 : w5.cell? ⟨S, 16, none⟩ = some (.int .i64 (v 16)) := cellb ue0 rfl
  refine hK.out _ _ ?_ (fun hHeld => ?_)
  · try dsimp only
    (refine ⟨?_, ?_, ?_, ?_, ?_, ?_, ?_, ?_⟩ <;> (first | with_reducible assumption))
  clear hK K
  try simp only [Act.put, List.setIfInBounds_toArray, List.set_cons_zero, List.set_cons_succ]
  refine wpAnyH_take (i := 35) (v := ?_) (by (simp only [List.getElem?_toArray, List.getElem?_cons_succ, List.getElem?_cons_zero]; rfl)) (by kernel_rfl) (by kernel_rfl) (by kernel_rfl) (fun _ _ _ h => h) (Or.inl ⟨by rfl, ?_⟩) (by assumption) ?_
  rotate_left
  · (intro w hSw; (try dsimp only at hSw); go_simp; try with_reducible rfl)
  try simp only [Act.put, List.setIfInBounds_toArray, List.set_cons_zero, List.set_cons_succ]
  refine wpAnyH_take (i := 36) (v := ?_) (by (simp only [List.getElem?_toArray, List.getElem?_cons_succ, List.getElem?_cons_zero]; rfl)) (by kernel_rfl) (by kernel_rfl) (by kernel_rfl) (fun _ _ _ h => h) (Or.inl ⟨by rfl, ?_⟩) (by assumption) ?_
  rotate_left
  · (intro w hSw; (try dsimp only at hSw); go_simp; try with_reducible rfl)
  try simp only [Act.put, List.setIfInBounds_toArray, List.set_cons_zero, List.set_cons_succ]
  refine wpAnyH_done (by kernel_rfl) ?_ _
  refine NoPanic.normal ?_
  clear hHeld ud0 ud1 ud2 ud3 ud4 ud5 ud6 ud7 ue0 ue1 ue2 ue3 ue4 ue5 ue6 ue7
  have hS5 := hb.size
  have HM5 := Lib.hid (HM.out.below (Below.refl _ _ |>.trans ((Below.refl W.heap.size W).drew.trans hb)) (ltb HM.out))
  have HG5 := Lib.hid ((hb.block g hgl2).trans HC.out.blk)
  have HC5 := Lib.hid (HC.out.below ((Below.refl W.heap.size W).drew.trans hb))
  have HR5 := Lib.hid ((hb.block (S + 1) (ltb HR.out)).trans HR.out)
  have HCH := Lib.hid (Chg.of_below (S := fun k => k = g) (HB.out.trans (((Below.refl W.heap.size W).drew.trans hb).mono HB.out.size)))
  have HB8 := Lib.hid hb8
  have hgS : g < S := by have := HSW.out; omega
  clear hb hb8 HM HR HB HC f2 f3 f4 q0 q1 q2 hSl hgl2 hS5
  have HOFF : Hid (∀ w1 : World, ∀ cs : Array Value, Chg (fun k => k = g) w w1 → Chg (fun k => k = g) w (w1.setRow (S + 1) cs)) := Lib.hid (fun w1 cs h => h.setRow (.inl (by have := HSW.out; omega)) cs)
  have m1 : w5.cell? ⟨S, 1, none⟩ = some (.int .i64 (v 1)) := cellb (i := 1) HM5.out rfl
  have m18 : w5.cell? ⟨S, 18, none⟩ = some (.int .i64 (v 18)) := cellb (i := 18) HM5.out rfl
  have g2 : w5.cell? ⟨g, 2, none⟩ = some (.int .i64 epoch) := cellb (i := 2) HG5.out rfl
  cases b
  · clear m1 m18 g2
    have HRET := Lib.hid (setRow_heap w5 (S + 1) _ #[.int .i64 0, .int .i64 0, .int .i64 0] _ _ HR5.out)
    have hc6 : Chg (fun k => k = S + 1) w5 (w5.setRow (S + 1) #[.int .i64 0, .int .i64 0, .int .i64 0]) := (Chg.refl (fun k => k = S + 1) w5).setRow (.inr rfl) _
    have HF := Lib.hid (HC5.out.off HR5.out (by decide) (by omega) hc6)
    have HZ := Lib.hid (HOFF.out w5 #[.int .i64 0, .int .i64 0, .int .i64 0] HCH.out)
    clear hc6
    go_wp2_with (refine wpList_store_row rfl 34 (.tmp 4) (.tmp 43) rfl (S + 1) _ rfl rfl 34 _ HR5.out (by kernel_rfl) rfl (by simp [Value.oneCell']) ?_)
    refine bodyPost_ret (v := .tuple #[.agg #[.int .i64 0, .int .i64 0, .int .i64 0], .bool false]) (results_rep _ _ (S + 1) _ rfl HRET.out rfl) rfl ?_
    exact ⟨false, HB8.out, rfl, HF.out, HZ.out⟩
  rcases Classical.em (v 18 = 190) with h18 | h18
  · have HK0 : Hid (hearK ⟨id, seq, epoch, true, sent, at_, body⟩ v true = false) := Lib.hid (by simp [hearK, h18])
    have b18 : (v 18 == 190) = true := by simp [h18]
    have H18 := Lib.hid h18
    clear h18
    go_wp2_with fail
    go_quiet (fail)
    rcases Classical.em (epoch < v 1) with h1 | h1
    · have HD : Hid (hearD ⟨id, seq, epoch, true, sent, at_, body⟩ v true = ⟨id, seq, v 1, true, false, at_, body⟩) := Lib.hid (by simp [hearD, H18.out, h1])
      obtain ⟨W5, hW5⟩ : ∃ W5, W5 = w5.drewN nq := ⟨_, rfl⟩
      have m1' : W5.cell? ⟨S, 1, none⟩ = some (.int .i64 (v 1)) := by rw [hW5]; exact m1
      have g2' : W5.cell? ⟨g, 2, none⟩ = some (.int .i64 epoch) := by rw [hW5]; exact g2
      have g4' : W5.cell? ⟨g, 4, none⟩ = some (.bool sent) := by rw [hW5]; exact cellb (i := 4) HG5.out rfl
      have f2' : W5.frozen? ⟨g, 2, none⟩ = false := by rw [hW5]; exact fzb HG5.out 2
      have f4' : W5.frozen? ⟨g, 4, none⟩ = false := by rw [hW5]; exact fzb HG5.out 4
      have hgb5 : W5.heap[g]? = some (.cells #[.int .i64 id, .int .i64 seq, .int .i64 epoch, .bool true, .bool sent, .int .i64 at_, .slice A body.length c] 90 (0, 0)) := by rw [hW5]; exact HG5.out
      have hr5 : W5.heap[S + 1]? = some (.cells #[.int .i64 0, .int .i64 0, .int .i64 0] 34 (0, 0)) := by rw [hW5]; exact HR5.out
      have hc5 : CAt W5 g ⟨id, seq, epoch, true, sent, at_, body⟩ A c := by rw [hW5]; exact HC5.out.chg ((Chg.refl (fun _ => False) w5).drewN nq) (fun _ _ _ h => h)
      have hch5 : Chg (fun k => k = g) w W5 := by rw [hW5]; exact HCH.out.drewN nq
      obtain ⟨W6, hW6⟩ : ∃ W6, W6 = (W5.setCell ⟨g, 2, none⟩ (.int .i64 (v 1))).setCell ⟨g, 4, none⟩ (.bool false) := ⟨_, rfl⟩
      have hcg : Chg (fun k => k = g) W5 W6 := by rw [hW6]; exact (chg_g g 2 _ _).trans (chg_g g 4 _ _)
      have hc6 : CAt W6 g ⟨id, seq, v 1, true, false, at_, body⟩ A c := hc5.re hcg (by rw [hW6]; simp [World.setCell, Array.getElem?_modify, hgb5]) rfl
      have hr6 : W6.heap[S + 1]? = some (.cells #[.int .i64 0, .int .i64 0, .int .i64 0] 34 (0, 0)) := (hcg.block (S + 1) (ltb hr5) (by omega)).trans hr5
      have HR6 := Lib.hid hr6
      have HRET := Lib.hid (setRow_heap W6 (S + 1) _ #[.int .i64 0, .int .i64 0, .int .i64 0] _ _ hr6)
      have HF := Lib.hid (hc6.off hr6 (by decide) (by omega) ((Chg.refl (fun k => k = S + 1) W6).setRow (.inr rfl) #[.int .i64 0, .int .i64 0, .int .i64 0]))
      have HZ := Lib.hid (HOFF.out W6 #[.int .i64 0, .int .i64 0, .int .i64 0] (hch5.trans hcg))
      clear hgb5 hr5 hc5 hch5 hcg hc6 hr6 m1 g2 m18
      rw [← hW5]
      clear hW5
      go_upto_region 6 with fail
      rw [← hW6]
      clear hW6 m1' g2' g4' f2' f4'
      go_wp2_with (refine wpList_store_row rfl 34 (.tmp 4) (.tmp 63) rfl (S + 1) _ rfl rfl 34 _ HR6.out (by kernel_rfl) rfl (by simp [Value.oneCell']) ?_)
      refine bodyPost_ret (v := .tuple #[.agg #[.int .i64 0, .int .i64 0, .int .i64 0], .bool false]) (results_rep _ _ (S + 1) _ rfl HRET.out rfl) rfl ?_
      exact ⟨true, ⟨fun _ => HB8.out.1 trivial, fun _ => rfl⟩, by simp [HK0.out], by rw [HD.out]; exact HF.out, HZ.out⟩
    · have HD : Hid (hearD ⟨id, seq, epoch, true, sent, at_, body⟩ v true = ⟨id, seq, epoch, true, sent, at_, body⟩) := Lib.hid (by simp [hearD, H18.out, h1])
      obtain ⟨W5, hW5⟩ : ∃ W5, W5 = w5.drewN nq := ⟨_, rfl⟩
      have hr5 : W5.heap[S + 1]? = some (.cells #[.int .i64 0, .int .i64 0, .int .i64 0] 34 (0, 0)) := by rw [hW5]; exact HR5.out
      have hc5 : CAt W5 g ⟨id, seq, epoch, true, sent, at_, body⟩ A c := by rw [hW5]; exact HC5.out.chg ((Chg.refl (fun _ => False) w5).drewN nq) (fun _ _ _ h => h)
      have hch5 : Chg (fun k => k = g) w W5 := by rw [hW5]; exact HCH.out.drewN nq
      have HR6 := Lib.hid hr5
      have HRET := Lib.hid (setRow_heap W5 (S + 1) _ #[.int .i64 0, .int .i64 0, .int .i64 0] _ _ hr5)
      have HF := Lib.hid (hc5.off hr5 (by decide) (by omega) ((Chg.refl (fun k => k = S + 1) W5).setRow (.inr rfl) #[.int .i64 0, .int .i64 0, .int .i64 0]))
      have HZ := Lib.hid (HOFF.out W5 #[.int .i64 0, .int .i64 0, .int .i64 0] hch5)
      clear hr5 hc5 hch5 m1 g2 m18
      rw [← hW5]
      clear hW5
      go_wp2_with (refine wpList_store_row rfl 34 (.tmp 4) (.tmp 63) rfl (S + 1) _ rfl rfl 34 _ HR6.out (by kernel_rfl) rfl (by simp [Value.oneCell']) ?_)
      refine bodyPost_ret (v := .tuple #[.agg #[.int .i64 0, .int .i64 0, .int .i64 0], .bool false]) (results_rep _ _ (S + 1) _ rfl HRET.out rfl) rfl ?_
      exact ⟨true, ⟨fun _ => HB8.out.1 trivial, fun _ => rfl⟩, by simp [HK0.out], by rw [HD.out]; exact HF.out, HZ.out⟩
  · have b18 : (v 18 == 190) = false := by simp [h18]
    have H18 := Lib.hid h18
    clear h18
    go_wp2_with fail
    go_quiet (fail)
    rcases Classical.em (v 1 = epoch) with h1 | h1
    · have HK0 : Hid (hearK ⟨id, seq, epoch, true, sent, at_, body⟩ v true = true) := Lib.hid (by simp [hearK, H18.out, h1])
      have HD : Hid (hearD ⟨id, seq, epoch, true, sent, at_, body⟩ v true = ⟨id, seq, epoch, false, sent, at_, body⟩) := Lib.hid (by simp [hearD, H18.out, h1])
      have b1 : (v 1 != epoch) = false := by simp [h1]
      clear h1
      obtain ⟨W5, hW5⟩ : ∃ W5, W5 = w5.drewN nq := ⟨_, rfl⟩
      have g3' : W5.cell? ⟨g, 3, none⟩ = some (.bool true) := by rw [hW5]; exact cellb (i := 3) HG5.out rfl
      have f3' : W5.frozen? ⟨g, 3, none⟩ = false := by rw [hW5]; exact fzb HG5.out 3
      have hgb5 : W5.heap[g]? = some (.cells #[.int .i64 id, .int .i64 seq, .int .i64 epoch, .bool true, .bool sent, .int .i64 at_, .slice A body.length c] 90 (0, 0)) := by rw [hW5]; exact HG5.out
      have hr5 : W5.heap[S + 1]? = some (.cells #[.int .i64 0, .int .i64 0, .int .i64 0] 34 (0, 0)) := by rw [hW5]; exact HR5.out
      have hm5 : MAt W5 S v B n cb := by rw [hW5]; exact HM5.out
      have hc5 : CAt W5 g ⟨id, seq, epoch, true, sent, at_, body⟩ A c := by rw [hW5]; exact HC5.out.chg ((Chg.refl (fun _ => False) w5).drewN nq) (fun _ _ _ h => h)
      have hch5 : Chg (fun k => k = g) w W5 := by rw [hW5]; exact HCH.out.drewN nq
      obtain ⟨W6, hW6⟩ : ∃ W6, W6 = W5.setCell ⟨g, 3, none⟩ (.bool false) := ⟨_, rfl⟩
      have hcg : Chg (fun k => k = g) W5 W6 := by rw [hW6]; exact chg_g g 3 _ _
      have hc6 : CAt W6 g ⟨id, seq, epoch, false, sent, at_, body⟩ A c := hc5.re hcg (by rw [hW6]; simp [World.setCell, Array.getElem?_modify, hgb5]) rfl
      have hr6 : W6.heap[S + 1]? = some (.cells #[.int .i64 0, .int .i64 0, .int .i64 0] 34 (0, 0)) := (hcg.block (S + 1) (ltb hr5) (by omega)).trans hr5
      have hm6 : MAt W6 S v B n cb := (hcg.block S (ltb hm5) (by omega)).trans hm5
      have n18 : W6.cell? ⟨S, 18, none⟩ = some (.int .i64 (v 18)) := cellb (i := 18) hm6 rfl
      have n19 : W6.cell? ⟨S, 19, none⟩ = some (.int .i64 (v 19)) := cellb (i := 19) hm6 rfl
      have n20 : W6.cell? ⟨S, 20, none⟩ = some (.int .i64 (v 20)) := cellb (i := 20) hm6 rfl
      have HR6 := Lib.hid hr6
      have HRET := Lib.hid (setRow_heap W6 (S + 1) _ #[.int .i64 (v 18), .int .i64 (v 19), .int .i64 (v 20)] _ _ hr6)
      have HF := Lib.hid (hc6.off hr6 (by decide) (by omega) ((Chg.refl (fun k => k = S + 1) W6).setRow (.inr rfl) #[.int .i64 (v 18), .int .i64 (v 19), .int .i64 (v 20)]))
      have HZ := Lib.hid (HOFF.out W6 #[.int .i64 (v 18), .int .i64 (v 19), .int .i64 (v 20)] (hch5.trans hcg))
      clear hgb5 hr5 hc5 hch5 hcg hc6 hr6 hm5 hm6 m1 g2 m18
      rw [← hW5]
      clear hW5
      go_upto_region 10 with fail
      rw [← hW6]
      clear hW6 g3' f3'
      go_wp2_with (refine wpList_store_row rfl 34 (.tmp 4) (.tmp 76) rfl (S + 1) _ rfl rfl 34 _ HR6.out (by kernel_rfl) rfl (by simp [Value.oneCell']) ?_)
      refine bodyPost_ret (v := .tuple #[.agg #[.int .i64 (v 18), .int .i64 (v 19), .int .i64 (v 20)], .bool true]) (results_rep _ _ (S + 1) _ rfl HRET.out rfl) rfl ?_
      exact ⟨true, ⟨fun _ => HB8.out.1 trivial, fun _ => rfl⟩, by simp [HK0.out], by rw [HD.out]; exact HF.out, HZ.out⟩
    · have HK0 : Hid (hearK ⟨id, seq, epoch, true, sent, at_, body⟩ v true = false) := Lib.hid (by simp [hearK, h1])
      have HD : Hid (hearD ⟨id, seq, epoch, true, sent, at_, body⟩ v true = ⟨id, seq, epoch, true, sent, at_, body⟩) := Lib.hid (by simp [hearD, H18.out, h1])
      have b1 : (v 1 != epoch) = true := by simp [h1]
      clear h1
      obtain ⟨W5, hW5⟩ : ∃ W5, W5 = w5.drewN nq := ⟨_, rfl⟩
      have hr5 : W5.heap[S + 1]? = some (.cells #[.int .i64 0, .int .i64 0, .int .i64 0] 34 (0, 0)) := by rw [hW5]; exact HR5.out
      have hc5 : CAt W5 g ⟨id, seq, epoch, true, sent, at_, body⟩ A c := by rw [hW5]; exact HC5.out.chg ((Chg.refl (fun _ => False) w5).drewN nq) (fun _ _ _ h => h)
      have hch5 : Chg (fun k => k = g) w W5 := by rw [hW5]; exact HCH.out.drewN nq
      have HR6 := Lib.hid hr5
      have HRET := Lib.hid (setRow_heap W5 (S + 1) _ #[.int .i64 0, .int .i64 0, .int .i64 0] _ _ hr5)
      have HF := Lib.hid (hc5.off hr5 (by decide) (by omega) ((Chg.refl (fun k => k = S + 1) W5).setRow (.inr rfl) #[.int .i64 0, .int .i64 0, .int .i64 0]))
      have HZ := Lib.hid (HOFF.out W5 #[.int .i64 0, .int .i64 0, .int .i64 0] hch5)
      clear hr5 hc5 hch5 m1 g2 m18
      rw [← hW5]
      clear hW5
      go_wp2_with (refine wpList_store_row rfl 34 (.tmp 4) (.tmp 71) rfl (S + 1) _ rfl rfl 34 _ HR6.out (by kernel_rfl) rfl (by simp [Value.oneCell']) ?_)
      refine bodyPost_ret (v := .tuple #[.agg #[.int .i64 0, .int .i64 0, .int .i64 0], .bool false]) (results_rep _ _ (S + 1) _ rfl HRET.out rfl) rfl ?_
      exact ⟨true, ⟨fun _ => HB8.out.1 trivial, fun _ => rfl⟩, by simp [HK0.out], by rw [HD.out]; exact HF.out, HZ.out⟩
end Go.Proofs.Ytlcbpodjmafoeaa
