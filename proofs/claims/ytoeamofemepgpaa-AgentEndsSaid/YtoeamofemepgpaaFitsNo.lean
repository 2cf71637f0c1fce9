/- Chapter 20: AgentFits. -/
import Derived.Test.YtoeamofemepgpaaLive21
import Derived.Test.YtoeamofemepgpaaRR20
import Derived.Test.YtoeamofemepgpaaTk
namespace Go.Proofs.Ytoeamofemepgpaa
open Go.RowKit

/-- A load from the middle of a block, behind a guard that is met. -/
theorem wpList_load_midg {P : Program} {ops : Array Oper} {rest : List Oper} {o : Oper} {a : Act} {w : World} {Q : Exit → Act → World → Prop} (hw : Region.wanted o (yielded ops a.tmps) = true) (ty : TypeId) (x : Operand) (ho : o.op = .load ty x)
    (b off : Nat) (hx : a.eval x = .pointer (some ⟨b, off, none⟩)) (cs : List Value) (d : TypeDesc) (hc : w.rangeAt b off cs)
    (hu : P.underlying ty = some d) (hd : d.isRow = true) (hi : (P.info? ty).map (·.size) = some cs.length)
    (h : wpList P ops Q rest (a.put o.dst (.agg cs.toArray)) w) : wpList P ops Q (o :: rest) a w := by
  exact wpList_step fun K hK => by simp only [hw, if_true]; exact wp_load_mid ty x ho b off hx cs d hc hu hd hi (hK _ _ h)
theorem ActsIn.mono {w : World} {B B' : Nat} {A : Option Addr} {gs : List Ac} (h : ActsIn w B A gs) (hB : B ≤ B') : ActsIn w B' A gs := by
  rcases h with e | ⟨b, off, e, hlt, hr⟩
  · exact .inl e
  · exact .inr ⟨b, off, e, by omega, hr⟩
theorem cells_below {w w' : World} {A : Option Addr} {m n : Nat} {xs : List Value} (h : CellsIn w w.heap.size m A n xs) (hb : Below w.heap.size w w') : CellsIn w' w'.heap.size m A n xs := by
  refine ⟨h.len, ?_⟩
  rcases h.rd with e | ⟨b, off, e, hlt, hr⟩
  · exact .inl e
  · exact .inr ⟨b, off, e, Nat.lt_of_lt_of_le hlt hb.size, fun j u hj => (hb.cell (p := ⟨b, off + j, none⟩) hlt).trans (hr j u hj)⟩
theorem cells_below2 {w1 w' : World} {A : Option Addr} {m n : Nat} {xs : List Value} (h : CellsIn w1 w1.heap.size m A n xs) (hb : Below w1.heap.size w1 w') : CellsIn w' w'.heap.size m A n xs := cells_below h hb

set_option maxRecDepth 10000 in
set_option maxHeartbeats 4000000 in
theorem fits_no (w : World) (nd : Int) (g : Nat → Int) (A : Option Addr) (n c : Nat) (l : List Int) (hn : n = l.length) (hc : CellsIn w w.heap.size 1 A n (ints l)) (hnil : A = none → n = 0 ∧ c = 0) (B0 : Option Addr) (len cap : Nat) (gs : List Ac) (hlen : len = gs.length) (hp : ActsIn w w.heap.size B0 gs) (later : Int) (hbad : nd < 0 ∨ 16 ≤ nd ∨ rightB g = false) :
    Calls Try.prog 4 #[.agg #[.int .i64 nd, .int .i64 (g 0), .int .i64 (g 1), .int .i64 (g 2), .int .i64 (g 3), .slice A n c], .slice B0 len cap, .int .i64 later] w fun e w' => e = .returned (.bool true) ∧ Below w.heap.size w w' := by
  obtain ⟨P, hP⟩ : ∃ x, x = w.heap.size := ⟨_, rfl⟩
  obtain ⟨w1, hw1⟩ : ∃ y, y = w.alloc (.cells #[.int .i64 nd, .int .i64 (g 0), .int .i64 (g 1), .int .i64 (g 2), .int .i64 (g 3), .slice A n c] 42) := ⟨_, rfl⟩
  have hb1 : Below w.heap.size w w1 := by rw [hw1]; exact (Below.refl _ w).alloc (Nat.le_refl _) _
  have hn1 : w1.heap[P]? = some (.cells #[.int .i64 nd, .int .i64 (g 0), .int .i64 (g 1), .int .i64 (g 2), .int .i64 (g 3), .slice A n c] 42 (0, 0)) := by rw [hw1, hP]; exact heap_alloc_new w _
  have HPS : Hid (P < w1.heap.size) := Lib.hid (ltb hn1)
  have HB1 := Lib.hid hb1
  have HN1 := Lib.hid hn1
  have HP := Lib.hid ((hp.below hb1 (Nat.le_refl _)).mono hb1.size)
  have HL := Lib.hid hlen
  have HW := Lib.hid hn
  have HWC := Lib.hid (cells_below hc hb1)
  have HNIL := Lib.hid hnil
  clear hb1 hn1 hp hlen hn hc hnil
  go_enter Try.func4, Try.ntmps4
  go_upto_region 1 with fail
  rw [← hw1, ← hP]
  clear hw1 hP
  go_upto_region 4 with (go_at_call 8; refine (awake_any w1).mono ?_; rintro e w2 ⟨rfl, hb⟩; have HB2 := Lib.hid hb; clear hb)
  have HN2 : Hid (w2.heap[P]? = some (.cells #[.int .i64 nd, .int .i64 (g 0), .int .i64 (g 1), .int .i64 (g 2), .int .i64 (g 3), .slice A n c] 42 (0, 0))) := Lib.hid ((HB2.out.block P HPS.out).trans HN1.out)
  go_wp2_with (refine wpList_load_row rfl 42 (.tmp 3) rfl P rfl 42 #[.int .i64 nd, .int .i64 (g 0), .int .i64 (g 1), .int .i64 (g 2), .int .i64 (g 3), .slice A n c] (0, 0) _ HN2.out Try.underlying42 rfl (by kernel_rfl) ?_)
  refine (few_any w2 nd g A n c B0 len cap gs HL.out (HP.out.below HB2.out (Nat.le_refl _) |>.mono HB2.out.size)).mono ?_
  rintro e w3 ⟨b, rfl, hb2, hb⟩
  have HB3 : Hid (Below w1.heap.size w1 w3) := Lib.hid (HB2.out.trans (hb.mono HB2.out.size))
  have HF := Lib.hid hb2
  clear hb hb2 HN2 HB2
  cases b
  · go_wp2_with fail
    go_ret
    exact ⟨rfl, HB1.out.trans (HB3.out.mono HB1.out.size)⟩
  have hn20 := (HF.out rfl).1
  have hl60 := (HF.out rfl).2
  clear HF
  have HN3 : Hid (w3.heap[P]? = some (.cells #[.int .i64 nd, .int .i64 (g 0), .int .i64 (g 1), .int .i64 (g 2), .int .i64 (g 3), .slice A n c] 42 (0, 0))) := Lib.hid ((HB3.out.block P HPS.out).trans HN1.out)
  have HM3 : Hid (w3.rangeAt P 1 [.int .i64 (g 0), .int .i64 (g 1), .int .i64 (g 2), .int .i64 (g 3)]) := Lib.hid (mid_of [.int .i64 nd] [.int .i64 (g 0), .int .i64 (g 1), .int .i64 (g 2), .int .i64 (g 3)] [.slice A n c] HN3.out rfl)
  have c0 : w3.cell? ⟨P, 0, none⟩ = some (.int .i64 nd) := cellb (i := 0) HN3.out rfl
  have c5 : w3.cell? ⟨P, 5, none⟩ = some (.slice A n c) := cellb (i := 5) HN3.out rfl
  have HWC3 := Lib.hid (cells_below2 HWC.out HB3.out)
  go_upto_region 8 with (first | (refine wpList_load_mid rfl 26 (.tmp 28) rfl P 1 rfl [.int .i64 (g 0), .int .i64 (g 1), .int .i64 (g 2), .int .i64 (g 3)] _ HM3.out Try.underlying26 rfl (by kernel_rfl) ?_) | (go_at_call 9; refine (new_no w3 nd g A n c hbad).mono ?_; rintro e w4 ⟨rfl, hb⟩; have HB4 : Hid (Below w1.heap.size w1 w4) := Lib.hid (HB3.out.trans (hb.mono HB3.out.size)); clear hb))
  have HN4 : Hid (w4.heap[P]? = some (.cells #[.int .i64 nd, .int .i64 (g 0), .int .i64 (g 1), .int .i64 (g 2), .int .i64 (g 3), .slice A n c] 42 (0, 0))) := Lib.hid ((HB4.out.block P HPS.out).trans HN1.out)
  have HM4 : Hid (w4.rangeAt P 1 [.int .i64 (g 0), .int .i64 (g 1), .int .i64 (g 2), .int .i64 (g 3)]) := Lib.hid (mid_of [.int .i64 nd] [.int .i64 (g 0), .int .i64 (g 1), .int .i64 (g 2), .int .i64 (g 3)] [.slice A n c] HN4.out rfl)
  have c0' : w4.cell? ⟨P, 0, none⟩ = some (.int .i64 nd) := cellb (i := 0) HN4.out rfl
  clear c0 c5 HM3 HN3
  by_cases q0 : nd < 0
  · go_wp2_with fail
    go_ret
    exact ⟨rfl, HB1.out.trans (HB4.out.mono HB1.out.size)⟩
  by_cases q1 : 16 ≤ nd
  · go_wp2_with fail
    go_ret
    exact ⟨rfl, HB1.out.trans (HB4.out.mono HB1.out.size)⟩
  have hrt : rB (g 0) (g 1) (g 2) (g 3) = false := by
    rcases hbad with h | h | h
    · exact absurd h q0
    · exact absurd h q1
    · exact h
  go_wp2_with (first | (refine wpList_load_midg rfl 26 (.tmp 44) rfl P 1 rfl [.int .i64 (g 0), .int .i64 (g 1), .int .i64 (g 2), .int .i64 (g 3)] _ HM4.out Try.underlying26 rfl (by kernel_rfl) ?_) | (go_at_call 15; refine (rright_any (g 0) (g 1) (g 2) (g 3) w4).mono ?_; rintro e w5 ⟨rfl, hb⟩; rw [hrt]; have HB5 : Hid (Below w1.heap.size w1 w5) := Lib.hid (HB4.out.trans (hb.mono HB4.out.size)); clear hb))
  go_ret
  exact ⟨rfl, HB1.out.trans (HB5.out.mono HB1.out.size)⟩

end Go.Proofs.Ytoeamofemepgpaa
