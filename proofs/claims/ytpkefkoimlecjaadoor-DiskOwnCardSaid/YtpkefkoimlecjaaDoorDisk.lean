/- A disk: what a block holds that is one; New, Claim, Swap, Cut, Room, part. -/
import Derived.Test.YtpkefkoimlecjaaDoorBase
import Derived.Laws.StructEq
namespace Go.Proofs.YtpkefkoimlecjaaDoor
open Go.RowKit

/-- A claim: epoch, who, until. -/
structure Cl where
  e : Int
  h : Int
  u : Int
deriving DecidableEq
def z0 : Cl := ⟨0, 0, 0⟩
theorem Cl.ext_iff' (c o : Cl) : c = o ↔ c.e = o.e ∧ c.h = o.h ∧ c.u = o.u := by
  constructor
  · rintro rfl; exact ⟨rfl, rfl, rfl⟩
  · intro ⟨h1, h2, h3⟩
    cases c; cases o
    simp_all
theorem neq_cl (c o : Cl) (w : World) : (Go.binOp .neq 31 (.agg #[.int .i64 c.e, .int .i64 c.h, .int .i64 c.u]) (.agg #[.int .i64 o.e, .int .i64 o.h, .int .i64 o.u])).run Tryd.prog w = .ok (.bool (decide (¬ c = o))) w := by
  simp only [Cl.ext_iff']
  by_cases h1 : c.e = o.e <;> by_cases h2 : c.h = o.h <;> by_cases h3 : c.u = o.u <;> simp [go_sem, h1, h2, h3]

/-- A disk's data; where its three rows lie. -/
structure Dk where
  room : Nat
  c : Cl
  log : List UInt8
  snap : List UInt8
  staged : List UInt8
  cut : Bool
  at_ : Int
deriving DecidableEq
structure Lay where
  la : Option Addr
  lc : Nat
  sa : Option Addr
  sc : Nat
  ta : Option Addr
  tc : Nat
def Lay.none : Lay := ⟨.none, 0, .none, 0, .none, 0⟩
def Lay.lb (y : Lay) : Option Nat := y.la.map (·.block)
def Dk.cells (d : Dk) (y : Lay) : Array Value := #[.int .i64 (d.room : Int), .int .i64 d.c.e, .int .i64 d.c.h, .int .i64 d.c.u, .slice y.la d.log.length y.lc, .slice y.sa d.snap.length y.sc, .slice y.ta d.staged.length y.tc, .bool d.cut, .int .i64 d.at_]
theorem ownBlock_map (A : Option Addr) (n c : Nat) : Value.ownBlock (.slice A n c) = A.map (·.block) := by cases A <;> rfl

structure DiskAt (w : World) (g : Nat) (d : Dk) (y : Lay) : Prop where
  blk : w.heap[g]? = some (.cells (d.cells y) 57 (0, 0))
  l : w.ownsRow (g + 1) 5 1 (.slice y.la d.log.length y.lc) d.log.length (cells8 d.log)
  s : w.ownsRow (g + 1) 5 1 (.slice y.sa d.snap.length y.sc) d.snap.length (cells8 d.snap)
  t : w.ownsRow (g + 1) 5 1 (.slice y.ta d.staged.length y.tc) d.staged.length (cells8 d.staged)
  ls : ∀ k, y.sa.map (·.block) = some k → y.lb ≠ some k
  lt : ∀ k, y.ta.map (·.block) = some k → y.lb ≠ some k
  r : d.room ≤ 1048576
  ll : d.log.length ≤ d.room
  sl : d.snap.length ≤ d.room
  tl : d.staged.length ≤ d.room
namespace DiskAt
variable {w w' : World} {g : Nat} {d d' : Dk} {y y' : Lay}
theorem glt (h : DiskAt w g d y) : g < w.heap.size := (Array.getElem?_eq_some_iff.1 h.blk).1
theorem lbl (h : DiskAt w g d y) (k : Nat) (hk : y.lb = some k) : g < k ∧ k < w.heap.size := by
  have := h.l.lt k (by rw [ownBlock_map]; exact hk)
  omega
theorem chg {S : Nat → Prop} (h : DiskAt w g d y) (hc : Chg S w w') (hs : ∀ k, g ≤ k → k < w.heap.size → ¬ S k) : DiskAt w' g d y where
  blk := (hc.block g h.glt (hs g (Nat.le_refl _) h.glt)).trans h.blk
  l := hc.own h.l (fun k hk => by have := h.l.lt k hk; exact hs k (by omega) this.2)
  s := hc.own h.s (fun k hk => by have := h.s.lt k hk; exact hs k (by omega) this.2)
  t := hc.own h.t (fun k hk => by have := h.t.lt k hk; exact hs k (by omega) this.2)
  ls := h.ls
  lt := h.lt
  r := h.r
  ll := h.ll
  sl := h.sl
  tl := h.tl
theorem chg0 (h : DiskAt w g d y) (hc : Chg NoBlk w w') : DiskAt w' g d y := h.chg hc (fun _ _ _ h => h)
theorem drewN (h : DiskAt w g d y) (n : Nat) : DiskAt (w.drewN n) g d y := h.chg0 ((Chg.refl _ w).drewN n)
/-- Its own block is another; its rows are the same. -/
theorem re (h : DiskAt w g d y) (hc : Chg (fun k => k = g) w w') (hb : w'.heap[g]? = some (.cells (d'.cells y) 57 (0, 0))) (e1 : d'.log = d.log) (e2 : d'.snap = d.snap) (e3 : d'.staged = d.staged) (e4 : d'.room = d.room) : DiskAt w' g d' y where
  blk := hb
  l := by rw [e1]; exact hc.own h.l (fun k hk e => by have := (h.l.lt k hk).1; omega)
  s := by rw [e2]; exact hc.own h.s (fun k hk e => by have := (h.s.lt k hk).1; omega)
  t := by rw [e3]; exact hc.own h.t (fun k hk e => by have := (h.t.lt k hk).1; omega)
  ls := h.ls
  lt := h.lt
  r := by rw [e4]; exact h.r
  ll := by rw [e1, e4]; exact h.ll
  sl := by rw [e2, e4]; exact h.sl
  tl := by rw [e3, e4]; exact h.tl
theorem c0 (h : DiskAt w g d y) : w.cell? ⟨g, 0, none⟩ = some (.int .i64 (d.room : Int)) := by simp [World.cell?, h.blk, Dk.cells]
theorem c1 (h : DiskAt w g d y) : w.cell? ⟨g, 1, none⟩ = some (.int .i64 d.c.e) := by simp [World.cell?, h.blk, Dk.cells]
theorem c2 (h : DiskAt w g d y) : w.cell? ⟨g, 2, none⟩ = some (.int .i64 d.c.h) := by simp [World.cell?, h.blk, Dk.cells]
theorem c3 (h : DiskAt w g d y) : w.cell? ⟨g, 3, none⟩ = some (.int .i64 d.c.u) := by simp [World.cell?, h.blk, Dk.cells]
theorem c4 (h : DiskAt w g d y) : w.cell? ⟨g, 4, none⟩ = some (.slice y.la d.log.length y.lc) := by simp [World.cell?, h.blk, Dk.cells]
theorem c5 (h : DiskAt w g d y) : w.cell? ⟨g, 5, none⟩ = some (.slice y.sa d.snap.length y.sc) := by simp [World.cell?, h.blk, Dk.cells]
theorem c6 (h : DiskAt w g d y) : w.cell? ⟨g, 6, none⟩ = some (.slice y.ta d.staged.length y.tc) := by simp [World.cell?, h.blk, Dk.cells]
theorem c7 (h : DiskAt w g d y) : w.cell? ⟨g, 7, none⟩ = some (.bool d.cut) := by simp [World.cell?, h.blk, Dk.cells]
theorem c8 (h : DiskAt w g d y) : w.cell? ⟨g, 8, none⟩ = some (.int .i64 d.at_) := by simp [World.cell?, h.blk, Dk.cells]
theorem fz (h : DiskAt w g d y) (i : Nat) : w.frozen? ⟨g, i, none⟩ = false := by simp [World.frozen?, h.blk]
theorem setClaim (h : DiskAt w g d y) (n : Cl) : DiskAt (((w.setCell ⟨g, 1, none⟩ (.int .i64 n.e)).setCell ⟨g, 2, none⟩ (.int .i64 n.h)).setCell ⟨g, 3, none⟩ (.int .i64 n.u)) g { d with c := n } y := by
  refine h.re ((((Chg.refl (fun k => k = g) w).setCell (p := ⟨g, 1, none⟩) (.inr rfl) _).setCell (p := ⟨g, 2, none⟩) (.inr rfl) _).setCell (p := ⟨g, 3, none⟩) (.inr rfl) _) ?_ rfl rfl rfl rfl
  simp [World.setCell, Array.getElem?_modify, h.blk, Dk.cells]
theorem setCut (h : DiskAt w g d y) (b : Bool) : DiskAt (w.setCell ⟨g, 7, none⟩ (.bool b)) g { d with cut := b } y := by
  refine h.re ((Chg.refl (fun k => k = g) w).setCell (p := ⟨g, 7, none⟩) (.inr rfl) _) ?_ rfl rfl rfl rfl
  simp [World.setCell, Array.getElem?_modify, h.blk, Dk.cells]
theorem setAt (h : DiskAt w g d y) (n : Int) : DiskAt (w.setCell ⟨g, 8, none⟩ (.int .i64 n)) g { d with at_ := n } y := by
  refine h.re ((Chg.refl (fun k => k = g) w).setCell (p := ⟨g, 8, none⟩) (.inr rfl) _) ?_ rfl rfl rfl rfl
  simp [World.setCell, Array.getElem?_modify, h.blk, Dk.cells]
end DiskAt
theorem chg_g (g i : Nat) (w : World) (v : Value) : Chg (fun k => k = g) w (w.setCell ⟨g, i, none⟩ v) := (Chg.refl (fun k => k = g) w).setCell (p := ⟨g, i, none⟩) (.inr rfl) v

def clamp (n : Int) : Nat := (min (max n 0) 1048576).toNat
def fresh (n : Int) : Dk := ⟨clamp n, z0, [], [], [], false, 0⟩
theorem own_nil (w : World) (b : Nat) : w.ownsRow b 5 1 (.slice none 0 0) 0 (cells8 []) := ⟨rfl, .inl ⟨rfl, rfl⟩⟩

/-- A new disk. -/
theorem new_any (r : Int) (w : World) : Calls Tryd.prog 8 #[.int .i64 r] w fun e w' => e = .returned (.pointer (some ⟨w.heap.size, 0, none⟩)) ∧ DiskAt w' w.heap.size (fresh r) Lay.none ∧ Below w.heap.size w w' := by
  have key : ∀ n : Nat, n = clamp r → DiskAt (w.alloc (.cells #[.int .i64 (n : Int), .int .i64 0, .int .i64 0, .int .i64 0, .slice none 0 0, .slice none 0 0, .slice none 0 0, .bool false, .int .i64 0] 57)) w.heap.size (fresh r) Lay.none := by
    rintro n rfl
    refine ⟨heap_alloc_new w _, own_nil _ _, own_nil _ _, own_nil _ _, fun k hk => by simp [Lay.none] at hk, fun k hk => by simp [Lay.none] at hk, ?_, Nat.zero_le _, Nat.zero_le _, Nat.zero_le _⟩
    simp only [fresh, clamp]; omega
  have hr : r < 0 ∨ (0 ≤ r ∧ r ≤ 1048576) ∨ 1048576 < r := by omega
  rcases hr with h | ⟨h, h'⟩ | h
  · have K := Lib.hid (key 0 (by simp [clamp]; omega))
    clear key
    go_enter Tryd.func8, Tryd.ntmps8
    go_wp2_with fail
    all_goals go_ret
    all_goals exact ⟨rfl, K.out, (Below.refl _ _).alloc (Nat.le_refl _) _⟩
  · obtain ⟨n, rfl⟩ := Int.eq_ofNat_of_zero_le (show 0 ≤ r by omega)
    have K := Lib.hid (key n (by simp [clamp]; omega))
    clear key
    go_enter Tryd.func8, Tryd.ntmps8
    go_wp2_with fail
    all_goals go_ret
    all_goals exact ⟨rfl, K.out, (Below.refl _ _).alloc (Nat.le_refl _) _⟩
  · have K := Lib.hid (key 1048576 (by simp [clamp]; omega))
    clear key
    go_enter Tryd.func8, Tryd.ntmps8
    go_wp2_with fail
    all_goals go_ret
    all_goals exact ⟨rfl, K.out, (Below.refl _ _).alloc (Nat.le_refl _) _⟩

set_option maxHeartbeats 400000 in
theorem claim_any (g : Nat) (d : Dk) (y : Lay) (w : World) (h : DiskAt w g d y) :
    Calls Tryd.prog 20 #[.pointer (some ⟨g, 0, none⟩)] w fun e w' => e = .returned (.agg #[.int .i64 d.c.e, .int .i64 d.c.h, .int .i64 d.c.u]) ∧ w.alloc (.cells #[.int .i64 d.c.e, .int .i64 d.c.h, .int .i64 d.c.u] 31) = w' := by
  have c1 := h.c1
  have c2 := h.c2
  have c3 := h.c3
  have hl := h.glt
  clear h
  go_enter Tryd.func20, Tryd.ntmps20
  go_wp2
  exact bodyPost_ret (v := .agg #[.int .i64 d.c.e, .int .i64 d.c.h, .int .i64 d.c.u]) (by simp [results, Tryd.results20, go_sem]) rfl ⟨rfl, rfl⟩

theorem room_any (g : Nat) (d : Dk) (y : Lay) (w : World) (h : DiskAt w g d y) :
    Calls Tryd.prog 18 #[.pointer (some ⟨g, 0, none⟩)] w fun e w' => e = .returned (.int .i64 (d.room : Int)) ∧ w = w' := by
  have c0 := h.c0
  have hl := h.glt
  clear h
  go_enter Tryd.func18, Tryd.ntmps18
  go_wp2
  go_ret
  exact ⟨rfl, rfl⟩

/-- What Swap answers. -/
def swapE (c o n : Cl) : Int := if n.e < o.e ∨ 1099511627776 < n.e then 1 else if c = o then 0 else 150
def swapC (c o n : Cl) : Cl := if swapE c o n = 0 then n else c

set_option maxHeartbeats 1000000 in
theorem swap_any (g : Nat) (d : Dk) (y : Lay) (o n : Cl) (w : World) (h : DiskAt w g d y) :
    Calls Tryd.prog 9 #[.pointer (some ⟨g, 0, none⟩), .agg #[.int .i64 o.e, .int .i64 o.h, .int .i64 o.u], .agg #[.int .i64 n.e, .int .i64 n.h, .int .i64 n.u]] w fun e w' => e = .returned (.int .i64 (swapE d.c o n)) ∧ DiskAt w' g { d with c := swapC d.c o n } y ∧ Chg (fun k => k = g) w w' := by
  have c1 := h.c1
  have c2 := h.c2
  have c3 := h.c3
  have f1 := h.fz 1
  have f2 := h.fz 2
  have f3 := h.fz 3
  have hl := h.glt
  have HD := Lib.hid h; clear h
  have hb2 : Chg (fun k => k = g) w ((w.alloc (.cells #[.int .i64 o.e, .int .i64 o.h, .int .i64 o.u] 31)).alloc (.cells #[.int .i64 n.e, .int .i64 n.h, .int .i64 n.u] 31)) := ((Chg.refl _ w).alloc _).alloc _
  have hn2 : Chg NoBlk w ((w.alloc (.cells #[.int .i64 o.e, .int .i64 o.h, .int .i64 o.u] 31)).alloc (.cells #[.int .i64 n.e, .int .i64 n.h, .int .i64 n.u] 31)) := ((Chg.refl _ w).alloc _).alloc _
  have HB2 := Lib.hid hb2
  have HN2 := Lib.hid hn2
  clear hb2 hn2
  by_cases h1 : n.e < o.e
  · have e1 : swapE d.c o n = 1 := if_pos (.inl h1)
    have e2 : swapC d.c o n = d.c := by unfold swapC; rw [e1]; rfl
    have E1 := Lib.hid e1
    have E2 := Lib.hid e2
    clear e1 e2
    go_enter Tryd.func9, Tryd.ntmps9
    go_wp2
    go_ret
    exact ⟨by rw [E1.out]; rfl, by rw [E2.out]; exact HD.out.chg0 HN2.out, HB2.out⟩
  by_cases h2 : 1099511627776 < n.e
  · have e1 : swapE d.c o n = 1 := if_pos (.inr h2)
    have e2 : swapC d.c o n = d.c := by unfold swapC; rw [e1]; rfl
    have E1 := Lib.hid e1
    have E2 := Lib.hid e2
    clear e1 e2
    go_enter Tryd.func9, Tryd.ntmps9
    go_wp2
    go_ret
    exact ⟨by rw [E1.out]; rfl, by rw [E2.out]; exact HD.out.chg0 HN2.out, HB2.out⟩
  have h12 : ¬ (n.e < o.e ∨ 1099511627776 < n.e) := by omega
  by_cases h3 : d.c = o
  · have e1 : swapE d.c o n = 0 := by unfold swapE; rw [if_neg h12, if_pos h3]
    have e2 : swapC d.c o n = n := by unfold swapC; rw [e1]; rfl
    have E1 := Lib.hid e1
    have E2 := Lib.hid e2
    clear e1 e2 h12
    have hq := fun w => neq_cl d.c o w
    simp only [h3, not_true_eq_false, decide_false] at hq
    subst h3
    go_enter Tryd.func9, Tryd.ntmps9
    go_wp2
    go_quiet (fail)
    go_wp2
    go_ret
    exact ⟨by rw [E1.out]; rfl, by rw [E2.out]; exact (HD.out.chg0 (HN2.out.drewN nq)).setClaim n, (((HB2.out.drewN nq).setCell (p := ⟨g, 1, none⟩) (.inr rfl) _).setCell (p := ⟨g, 2, none⟩) (.inr rfl) _).setCell (p := ⟨g, 3, none⟩) (.inr rfl) _⟩
  · have e1 : swapE d.c o n = 150 := by unfold swapE; rw [if_neg h12, if_neg h3]
    have e2 : swapC d.c o n = d.c := by unfold swapC; rw [e1]; rfl
    have E1 := Lib.hid e1
    have E2 := Lib.hid e2
    clear e1 e2 h12
    have hq := fun w => neq_cl d.c o w
    simp only [h3, not_false_eq_true, decide_true] at hq
    clear h3
    go_enter Tryd.func9, Tryd.ntmps9
    go_wp2
    go_quiet (fail)
    go_wp2
    go_ret
    exact ⟨by rw [E1.out]; rfl, by rw [E2.out]; exact HD.out.chg0 (HN2.out.drewN nq), HB2.out.drewN nq⟩
end Go.Proofs.YtpkefkoimlecjaaDoor
