/- Two messages that are the same. -/
import Derived.Test.YtkenaoejijpgpaaDoorPack
import Derived.Test.YtkenaoejijpgpaaDoorRight
import Derived.Deep.Cut
namespace Go.Proofs.YtkenaoejijpgpaaDoor
open Go.RowKit

theorem wpList_load_g {P : Program} {ops : Array Oper} {rest : List Oper} {o : Oper} {a : Act} {w : World} {Q : Exit → Act → World → Prop} (hw : Region.wanted o (yielded ops a.tmps) = true) (ty : TypeId) (x : Operand) (ho : o.op = .load ty x)
    (g : Nat) (hx : a.eval x = .pointer (some ⟨g, 0, none⟩)) (t : TypeId) (cs : Array Value) (fr : Nat × Nat) (d : TypeDesc) (hg : w.heap[g]? = some (.cells cs t fr))
    (hu : P.underlying ty = some d) (hd : (match d with | .struct _ | .array _ _ => true | _ => false) = true) (hi : (P.info? ty).map (·.size) = some cs.size)
    (h : wpList P ops Q rest (a.put o.dst (.agg cs)) w) : wpList P ops Q (o :: rest) a w :=
  wpList_step fun K hK => by simp only [hw, if_true]; exact wp_load_row ty x ho g hx t cs fr d hg hu hd hi (hK _ _ h)
set_option maxRecDepth 100000 in
set_option maxHeartbeats 8000000 in
theorem same_eq (v : Nat → Int) (A B : Option Addr) (n c cb : Nat) (l : List UInt8) (w : World) (hA : BytesIn w w.heap.size A c l) (hB : BytesIn w w.heap.size B cb l) (hn : n = l.length) :
    Calls Tryd.prog 17 #[.agg #[.int .i64 (v 0), .int .i64 (v 1), .int .i64 (v 2), .int .i64 (v 3), .int .i64 (v 4), .int .i64 (v 5), .int .i64 (v 6), .int .i64 (v 7), .int .i64 (v 8), .int .i64 (v 9), .int .i64 (v 10), .int .i64 (v 11), .int .i64 (v 12), .int .i64 (v 13), .int .i64 (v 14), .int .i64 (v 15), .int .i64 (v 16), .slice A n c, .int .i64 (v 18), .int .i64 (v 19), .int .i64 (v 20)], .agg #[.int .i64 (v 0), .int .i64 (v 1), .int .i64 (v 2), .int .i64 (v 3), .int .i64 (v 4), .int .i64 (v 5), .int .i64 (v 6), .int .i64 (v 7), .int .i64 (v 8), .int .i64 (v 9), .int .i64 (v 10), .int .i64 (v 11), .int .i64 (v 12), .int .i64 (v 13), .int .i64 (v 14), .int .i64 (v 15), .int .i64 (v 16), .slice B n cb, .int .i64 (v 18), .int .i64 (v 19), .int .i64 (v 20)]] w fun e w' => e = .returned (.bool true) ∧ Below w.heap.size w w' := by
  obtain ⟨W, hW⟩ : ∃ W, W = (w.alloc (.cells #[.int .i64 (v 0), .int .i64 (v 1), .int .i64 (v 2), .int .i64 (v 3), .int .i64 (v 4), .int .i64 (v 5), .int .i64 (v 6), .int .i64 (v 7), .int .i64 (v 8), .int .i64 (v 9), .int .i64 (v 10), .int .i64 (v 11), .int .i64 (v 12), .int .i64 (v 13), .int .i64 (v 14), .int .i64 (v 15), .int .i64 (v 16), .slice A n c, .int .i64 (v 18), .int .i64 (v 19), .int .i64 (v 20)] 29)).alloc (.cells #[.int .i64 (v 0), .int .i64 (v 1), .int .i64 (v 2), .int .i64 (v 3), .int .i64 (v 4), .int .i64 (v 5), .int .i64 (v 6), .int .i64 (v 7), .int .i64 (v 8), .int .i64 (v 9), .int .i64 (v 10), .int .i64 (v 11), .int .i64 (v 12), .int .i64 (v 13), .int .i64 (v 14), .int .i64 (v 15), .int .i64 (v 16), .slice B n cb, .int .i64 (v 18), .int .i64 (v 19), .int .i64 (v 20)] 29) := ⟨_, rfl⟩
  obtain ⟨S, hS⟩ : ∃ S, S = w.heap.size := ⟨_, rfl⟩
  have hb : Below w.heap.size w W := by rw [hW]; exact ((Below.refl w.heap.size w).alloc (Nat.le_refl _) _).alloc (by simp) _
  have hm : MAt W S v A n c := by
    have := heap_alloc_new w (.cells #[.int .i64 (v 0), .int .i64 (v 1), .int .i64 (v 2), .int .i64 (v 3), .int .i64 (v 4), .int .i64 (v 5), .int .i64 (v 6), .int .i64 (v 7), .int .i64 (v 8), .int .i64 (v 9), .int .i64 (v 10), .int .i64 (v 11), .int .i64 (v 12), .int .i64 (v 13), .int .i64 (v 14), .int .i64 (v 15), .int .i64 (v 16), .slice A n c, .int .i64 (v 18), .int .i64 (v 19), .int .i64 (v 20)] 29)
    show W.heap[S]? = _
    rw [hW, hS]; exact (Below.heap_alloc _ _ _ (by simp)).trans this
  have hm2 : MAt W (S + 1) v B n cb := by
    have := heap_alloc_new (w.alloc (.cells #[.int .i64 (v 0), .int .i64 (v 1), .int .i64 (v 2), .int .i64 (v 3), .int .i64 (v 4), .int .i64 (v 5), .int .i64 (v 6), .int .i64 (v 7), .int .i64 (v 8), .int .i64 (v 9), .int .i64 (v 10), .int .i64 (v 11), .int .i64 (v 12), .int .i64 (v 13), .int .i64 (v 14), .int .i64 (v 15), .int .i64 (v 16), .slice A n c, .int .i64 (v 18), .int .i64 (v 19), .int .i64 (v 20)] 29)) (.cells #[.int .i64 (v 0), .int .i64 (v 1), .int .i64 (v 2), .int .i64 (v 3), .int .i64 (v 4), .int .i64 (v 5), .int .i64 (v 6), .int .i64 (v 7), .int .i64 (v 8), .int .i64 (v 9), .int .i64 (v 10), .int .i64 (v 11), .int .i64 (v 12), .int .i64 (v 13), .int .i64 (v 14), .int .i64 (v 15), .int .i64 (v 16), .slice B n cb, .int .i64 (v 18), .int .i64 (v 19), .int .i64 (v 20)] 29)
    show W.heap[S + 1]? = _
    rw [hW, hS]; simpa using this
  have z1 := zc (hA.below hb (Nat.le_refl _)) hn
  have z2 := zc (hB.below hb (Nat.le_refl _)) hn
  have HB := Lib.hid hb
  have HM := Lib.hid hm
  have HN := Lib.hid hm2
  have qv : ∀ w, (Go.binOp .eql 23 (.agg #[.int .i64 (v 11), .int .i64 (v 12), .int .i64 (v 13), .int .i64 (v 14)]) (.agg #[.int .i64 (v 11), .int .i64 (v 12), .int .i64 (v 13), .int .i64 (v 14)])).run Tryd.prog w = .ok (.bool true) w := fun w => by rw [run_eql_struct, eq_vecs]; simp
  clear hb hm hm2 hA hB hn
  go_enter Tryd.func17, Tryd.ntmps17
  go_upto_region 1 with fail
  rw [← hS]
  rw [← hW]
  clear hW hS
  have a0 : W.cell? ⟨S, 0, none⟩ = some (.int .i64 (v 0)) := cellb (i := 0) HM.out rfl
  have a1 : W.cell? ⟨S, 1, none⟩ = some (.int .i64 (v 1)) := cellb (i := 1) HM.out rfl
  have a2 : W.cell? ⟨S, 2, none⟩ = some (.int .i64 (v 2)) := cellb (i := 2) HM.out rfl
  have a3 : W.cell? ⟨S, 3, none⟩ = some (.int .i64 (v 3)) := cellb (i := 3) HM.out rfl
  have a4 : W.cell? ⟨S, 4, none⟩ = some (.int .i64 (v 4)) := cellb (i := 4) HM.out rfl
  have a5 : W.cell? ⟨S, 5, none⟩ = some (.int .i64 (v 5)) := cellb (i := 5) HM.out rfl
  have a6 : W.cell? ⟨S, 6, none⟩ = some (.int .i64 (v 6)) := cellb (i := 6) HM.out rfl
  have a7 : W.cell? ⟨S, 7, none⟩ = some (.int .i64 (v 7)) := cellb (i := 7) HM.out rfl
  have a8 : W.cell? ⟨S, 8, none⟩ = some (.int .i64 (v 8)) := cellb (i := 8) HM.out rfl
  have a9 : W.cell? ⟨S, 9, none⟩ = some (.int .i64 (v 9)) := cellb (i := 9) HM.out rfl
  have a10 : W.cell? ⟨S, 10, none⟩ = some (.int .i64 (v 10)) := cellb (i := 10) HM.out rfl
  have a11 : W.cell? ⟨S, 11, none⟩ = some (.int .i64 (v 11)) := cellb (i := 11) HM.out rfl
  have a12 : W.cell? ⟨S, 12, none⟩ = some (.int .i64 (v 12)) := cellb (i := 12) HM.out rfl
  have a13 : W.cell? ⟨S, 13, none⟩ = some (.int .i64 (v 13)) := cellb (i := 13) HM.out rfl
  have a14 : W.cell? ⟨S, 14, none⟩ = some (.int .i64 (v 14)) := cellb (i := 14) HM.out rfl
  have a15 : W.cell? ⟨S, 15, none⟩ = some (.int .i64 (v 15)) := cellb (i := 15) HM.out rfl
  have a16 : W.cell? ⟨S, 16, none⟩ = some (.int .i64 (v 16)) := cellb (i := 16) HM.out rfl
  have a17 : W.cell? ⟨S, 17, none⟩ = some (.slice A n c) := cellb (i := 17) HM.out rfl
  have a18 : W.cell? ⟨S, 18, none⟩ = some (.int .i64 (v 18)) := cellb (i := 18) HM.out rfl
  have a19 : W.cell? ⟨S, 19, none⟩ = some (.int .i64 (v 19)) := cellb (i := 19) HM.out rfl
  have a20 : W.cell? ⟨S, 20, none⟩ = some (.int .i64 (v 20)) := cellb (i := 20) HM.out rfl
  have b0 : W.cell? ⟨S + 1, 0, none⟩ = some (.int .i64 (v 0)) := cellb (i := 0) HN.out rfl
  have b1 : W.cell? ⟨S + 1, 1, none⟩ = some (.int .i64 (v 1)) := cellb (i := 1) HN.out rfl
  have b2 : W.cell? ⟨S + 1, 2, none⟩ = some (.int .i64 (v 2)) := cellb (i := 2) HN.out rfl
  have b3 : W.cell? ⟨S + 1, 3, none⟩ = some (.int .i64 (v 3)) := cellb (i := 3) HN.out rfl
  have b4 : W.cell? ⟨S + 1, 4, none⟩ = some (.int .i64 (v 4)) := cellb (i := 4) HN.out rfl
  have b5 : W.cell? ⟨S + 1, 5, none⟩ = some (.int .i64 (v 5)) := cellb (i := 5) HN.out rfl
  have b6 : W.cell? ⟨S + 1, 6, none⟩ = some (.int .i64 (v 6)) := cellb (i := 6) HN.out rfl
  have b7 : W.cell? ⟨S + 1, 7, none⟩ = some (.int .i64 (v 7)) := cellb (i := 7) HN.out rfl
  have b8 : W.cell? ⟨S + 1, 8, none⟩ = some (.int .i64 (v 8)) := cellb (i := 8) HN.out rfl
  have b9 : W.cell? ⟨S + 1, 9, none⟩ = some (.int .i64 (v 9)) := cellb (i := 9) HN.out rfl
  have b10 : W.cell? ⟨S + 1, 10, none⟩ = some (.int .i64 (v 10)) := cellb (i := 10) HN.out rfl
  have b11 : W.cell? ⟨S + 1, 11, none⟩ = some (.int .i64 (v 11)) := cellb (i := 11) HN.out rfl
  have b12 : W.cell? ⟨S + 1, 12, none⟩ = some (.int .i64 (v 12)) := cellb (i := 12) HN.out rfl
  have b13 : W.cell? ⟨S + 1, 13, none⟩ = some (.int .i64 (v 13)) := cellb (i := 13) HN.out rfl
  have b14 : W.cell? ⟨S + 1, 14, none⟩ = some (.int .i64 (v 14)) := cellb (i := 14) HN.out rfl
  have b15 : W.cell? ⟨S + 1, 15, none⟩ = some (.int .i64 (v 15)) := cellb (i := 15) HN.out rfl
  have b16 : W.cell? ⟨S + 1, 16, none⟩ = some (.int .i64 (v 16)) := cellb (i := 16) HN.out rfl
  have b17 : W.cell? ⟨S + 1, 17, none⟩ = some (.slice B n cb) := cellb (i := 17) HN.out rfl
  have b18 : W.cell? ⟨S + 1, 18, none⟩ = some (.int .i64 (v 18)) := cellb (i := 18) HN.out rfl
  have b19 : W.cell? ⟨S + 1, 19, none⟩ = some (.int .i64 (v 19)) := cellb (i := 19) HN.out rfl
  have b20 : W.cell? ⟨S + 1, 20, none⟩ = some (.int .i64 (v 20)) := cellb (i := 20) HN.out rfl
  go_wp2_with fail
  go_ret
  exact ⟨rfl, HB.out⟩
end Go.Proofs.YtkenaoejijpgpaaDoor
