/- The disk's claim: New, Claim, Swap. -/
import Derived.Test.YtcpaimgenfbidaaBase
import Derived.Laws.StructEq
namespace Go.Proofs.Ytcpaimgenfbidaa
open Go.RowKit

/-- A claim: epoch, who, until. -/
structure Cl where
  e : Int
  h : Int
  u : Int
deriving DecidableEq

/-- Block g is a disk whose claim is c; the other cells as they are. -/
def DiskAt (w : World) (g : Nat) (c : Cl) : Prop :=
  ∃ r lg sn st ct a, w.heap[g]? = some (.cells #[r, .int .i64 c.e, .int .i64 c.h, .int .i64 c.u, lg, sn, st, ct, a] 61 (0, 0))

theorem DiskAt.lt {w : World} {g : Nat} {c : Cl} (h : DiskAt w g c) : g < w.heap.size := by
  obtain ⟨r, lg, sn, st, ct, a, h⟩ := h
  exact (Array.getElem?_eq_some_iff.1 h).1
theorem DiskAt.chg {S : Nat → Prop} {w w' : World} {g : Nat} {c : Cl} (h : DiskAt w g c) (hc : Chg S w w') (hs : ¬ S g) : DiskAt w' g c := by
  have hl := h.lt
  obtain ⟨r, lg, sn, st, ct, a, h⟩ := h
  exact ⟨r, lg, sn, st, ct, a, (hc.block g hl hs).trans h⟩
theorem DiskAt.cells {w : World} {g : Nat} {c : Cl} (h : DiskAt w g c) : w.cell? ⟨g, 1, none⟩ = some (.int .i64 c.e) ∧ w.cell? ⟨g, 2, none⟩ = some (.int .i64 c.h) ∧ w.cell? ⟨g, 3, none⟩ = some (.int .i64 c.u) ∧
    w.frozen? ⟨g, 1, none⟩ = false ∧ w.frozen? ⟨g, 2, none⟩ = false ∧ w.frozen? ⟨g, 3, none⟩ = false := by
  obtain ⟨r, lg, sn, st, ct, a, h⟩ := h
  refine ⟨?_, ?_, ?_, ?_, ?_, ?_⟩ <;> simp [World.cell?, World.frozen?, h]

theorem Cl.ext_iff' (c o : Cl) : c = o ↔ c.e = o.e ∧ c.h = o.h ∧ c.u = o.u := by
  constructor
  · rintro rfl; exact ⟨rfl, rfl, rfl⟩
  · intro ⟨h1, h2, h3⟩
    cases c; cases o
    simp_all
theorem neq_cl (c o : Cl) (w : World) : (Go.binOp .neq 23 (.agg #[.int .i64 c.e, .int .i64 c.h, .int .i64 c.u]) (.agg #[.int .i64 o.e, .int .i64 o.h, .int .i64 o.u])).run Try.prog w = .ok (.bool (decide (¬ c = o))) w := by
  simp only [Cl.ext_iff']
  by_cases h1 : c.e = o.e <;> by_cases h2 : c.h = o.h <;> by_cases h3 : c.u = o.u <;> simp [go_sem, h1, h2, h3]
theorem eql_cl (c o : Cl) (w : World) : (Go.binOp .eql 23 (.agg #[.int .i64 c.e, .int .i64 c.h, .int .i64 c.u]) (.agg #[.int .i64 o.e, .int .i64 o.h, .int .i64 o.u])).run Try.prog w = .ok (.bool (decide (c = o))) w := by
  simp only [Cl.ext_iff']
  by_cases h1 : c.e = o.e <;> by_cases h2 : c.h = o.h <;> by_cases h3 : c.u = o.u <;> simp [go_sem, h1, h2, h3]

set_option maxHeartbeats 400000 in
theorem claim_any (g : Nat) (c : Cl) (w : World) (h : DiskAt w g c) :
    Calls Try.prog 11 #[.pointer (some ⟨g, 0, none⟩)] w fun e w' => e = .returned (.agg #[.int .i64 c.e, .int .i64 c.h, .int .i64 c.u]) ∧ w.alloc (.cells #[.int .i64 c.e, .int .i64 c.h, .int .i64 c.u] 23) = w' := by
  obtain ⟨c1, c2, c3, _, _, _⟩ := h.cells
  have hl := h.lt
  go_enter Try.func11, Try.ntmps11
  go_wp2
  exact bodyPost_ret (v := .agg #[.int .i64 c.e, .int .i64 c.h, .int .i64 c.u]) (by simp [results, Try.results11, go_sem]) rfl ⟨rfl, rfl⟩

theorem DiskAt.set3 {w : World} {g : Nat} {c : Cl} (h : DiskAt w g c) (n : Cl) : DiskAt (((w.setCell ⟨g, 1, none⟩ (.int .i64 n.e)).setCell ⟨g, 2, none⟩ (.int .i64 n.h)).setCell ⟨g, 3, none⟩ (.int .i64 n.u)) g n := by
  obtain ⟨r, lg, sn, st, ct, a, h⟩ := h
  exact ⟨r, lg, sn, st, ct, a, by simp [World.setCell, Array.getElem?_modify, h]⟩

/-- What Swap answers. -/
def swapE (c o n : Cl) : Int := if n.e < o.e ∨ 1099511627776 < n.e then 1 else if c = o then 0 else 150
def swapC (c o n : Cl) : Cl := if swapE c o n = 0 then n else c

set_option maxHeartbeats 1000000 in
theorem swap_any (g : Nat) (c o n : Cl) (w : World) (h : DiskAt w g c) :
    Calls Try.prog 10 #[.pointer (some ⟨g, 0, none⟩), .agg #[.int .i64 o.e, .int .i64 o.h, .int .i64 o.u], .agg #[.int .i64 n.e, .int .i64 n.h, .int .i64 n.u]] w fun e w' => e = .returned (.int .i64 (swapE c o n)) ∧ DiskAt w' g (swapC c o n) ∧ Chg (fun k => k = g) w w' := by
  obtain ⟨c1, c2, c3, f1, f2, f3⟩ := h.cells
  have hl := h.lt
  have HD := Lib.hid h; clear h
  have hb2 : Chg (fun k => k = g) w ((w.alloc (.cells #[.int .i64 o.e, .int .i64 o.h, .int .i64 o.u] 23)).alloc (.cells #[.int .i64 n.e, .int .i64 n.h, .int .i64 n.u] 23)) := ((Chg.refl _ w).alloc _).alloc _
  have hn2 : Chg NoBlk w ((w.alloc (.cells #[.int .i64 o.e, .int .i64 o.h, .int .i64 o.u] 23)).alloc (.cells #[.int .i64 n.e, .int .i64 n.h, .int .i64 n.u] 23)) := ((Chg.refl _ w).alloc _).alloc _
  have HB2 := Lib.hid hb2
  have HN2 := Lib.hid hn2
  clear hb2 hn2
  by_cases h1 : n.e < o.e
  · have e1 : swapE c o n = 1 := if_pos (.inl h1)
    have e2 : swapC c o n = c := by unfold swapC; rw [e1]; rfl
    have E1 := Lib.hid e1
    have E2 := Lib.hid e2
    clear e1 e2
    go_enter Try.func10, Try.ntmps10
    go_wp2
    go_ret
    exact ⟨by rw [E1.out]; rfl, by rw [E2.out]; exact HD.out.chg HN2.out (fun h => h), HB2.out⟩
  by_cases h2 : 1099511627776 < n.e
  · have e1 : swapE c o n = 1 := if_pos (.inr h2)
    have e2 : swapC c o n = c := by unfold swapC; rw [e1]; rfl
    have E1 := Lib.hid e1
    have E2 := Lib.hid e2
    clear e1 e2
    go_enter Try.func10, Try.ntmps10
    go_wp2
    go_ret
    exact ⟨by rw [E1.out]; rfl, by rw [E2.out]; exact HD.out.chg HN2.out (fun h => h), HB2.out⟩
  have h12 : ¬ (n.e < o.e ∨ 1099511627776 < n.e) := by omega
  by_cases h3 : c = o
  · have e1 : swapE c o n = 0 := by unfold swapE; rw [if_neg h12, if_pos h3]
    have e2 : swapC c o n = n := by unfold swapC; rw [e1]; rfl
    have E1 := Lib.hid e1
    have E2 := Lib.hid e2
    clear e1 e2 h12
    have hq := fun w => neq_cl c o w
    simp only [h3, not_true_eq_false, decide_false] at hq
    subst h3
    go_enter Try.func10, Try.ntmps10
    go_wp2
    go_quiet (fail)
    go_wp2
    go_ret
    exact ⟨by rw [E1.out]; rfl, by rw [E2.out]; exact DiskAt.set3 (HD.out.chg (HN2.out.drewN nq) (fun h => h)) n, (((HB2.out.drewN nq).setCell (p := ⟨g, 1, none⟩) (.inr rfl) _).setCell (p := ⟨g, 2, none⟩) (.inr rfl) _).setCell (p := ⟨g, 3, none⟩) (.inr rfl) _⟩
  · have e1 : swapE c o n = 150 := by unfold swapE; rw [if_neg h12, if_neg h3]
    have e2 : swapC c o n = c := by unfold swapC; rw [e1]; rfl
    have E1 := Lib.hid e1
    have E2 := Lib.hid e2
    clear e1 e2 h12
    have hq := fun w => neq_cl c o w
    simp only [h3, not_false_eq_true, decide_true] at hq
    clear h3
    go_enter Try.func10, Try.ntmps10
    go_wp2
    go_quiet (fail)
    go_wp2
    go_ret
    exact ⟨by rw [E1.out]; rfl, by rw [E2.out]; exact HD.out.chg (HN2.out.drewN nq) (fun h => h), HB2.out.drewN nq⟩
end Go.Proofs.Ytcpaimgenfbidaa
