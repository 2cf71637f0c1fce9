/- An agent, a part in memory; upto, over. -/
import Derived.Test.YtoeamofemepgpaaBase
import Derived.Test.YtoeamofemepgpaaHeldW
import Derived.Test.YtoeamofemepgpaaMsg
import Derived.Test.YtoeamofemepgpaaChT
import Derived.Deep.RegionHeld3
import Derived.Deep.Cut
import Derived.Lib.MinMax
import Derived.Deep.DeepCutAuto
import Derived.Test.YtoeamofemepgpaaOver
namespace Go.Proofs.Ytoeamofemepgpaa
open Go.RowKit

structure Pt where
  job : Int
  att : Int
  d0 : Int
  d1 : Int
  d2 : Int
  d3 : Int
  begun : Int
  end_ : Int
  wall : Int
  how : Int
  rep : Bool
  sent : Bool
  at_ : Int
abbrev Pt.cells (p : Pt) : Array Value := #[.int .i64 p.job, .int .i64 p.att, .int .i64 p.d0, .int .i64 p.d1, .int .i64 p.d2, .int .i64 p.d3, .int .i64 p.begun, .int .i64 p.end_, .int .i64 p.wall, .int .i64 p.how, .bool p.rep, .bool p.sent, .int .i64 p.at_]
/-- Block b is a part. -/
def PtAt (w : World) (b : Nat) (p : Pt) : Prop := w.heap[b]? = some (.cells p.cells 73 (0, 0))
theorem PtAt.lt {w : World} {b : Nat} {p : Pt} (h : PtAt w b p) : b < w.heap.size := (Array.getElem?_eq_some_iff.1 h).1
def Pt.over (p : Pt) (h : Int) : Pt := { p with how := h, rep := true, sent := false }
/-- Up to which tick a part runs. -/
def Pt.upto (p : Pt) (u : Int) : Int := min p.end_ (min p.wall u)

theorem run_min3 {P : Program} (w : World) (ts : Array TypeId) (t : TypeId) (x y z : Int) :
    (Builtin.min_ ts t #[.int .i64 x, .int .i64 y, .int .i64 z]).run P w = .ok (.int .i64 (min x (min y z))) w := by
  have e : (if z < if y < x then y else x then z else if y < x then y else x) = min x (min y z) := by
    simp only [Int.min_def]
    repeat' split
    all_goals omega
  simp [Builtin.min_, Builtin.min2, e]
attribute [local go_sem high] run_min3

theorem upto_any (w : World) (A b : Nat) (p : Pt) (u : Int) (h : PtAt w b p) (hu : w.cell? ⟨A, 10, none⟩ = some (.int .i64 u)) :
    Calls Try.prog 38 #[.pointer (some ⟨A, 0, none⟩), .pointer (some ⟨b, 0, none⟩)] w fun e w' => e = .returned (.int .i64 (p.upto u)) ∧ w.drew = w' := by
  have f0 : w.drew.cell? ⟨b, 7, none⟩ = some (.int .i64 p.end_) := cellb (i := 7) h rfl
  have f1 : w.drew.cell? ⟨b, 8, none⟩ = some (.int .i64 p.wall) := cellb (i := 8) h rfl
  have f2 : w.drew.cell? ⟨A, 10, none⟩ = some (.int .i64 u) := hu
  obtain ⟨pe, hpe⟩ : ∃ x, x = p.end_ := ⟨_, rfl⟩
  obtain ⟨pw, hpw⟩ : ∃ x, x = p.wall := ⟨_, rfl⟩
  have HR : Hid (p.upto u = min pe (min pw u)) := Lib.hid (by rw [hpe, hpw]; rfl)
  rw [← hpe] at f0
  rw [← hpw] at f1
  rw [HR.out]
  clear h hu hpe hpw HR
  go_enter Try.func38, Try.ntmps38
  go_upto_region 1 with fail
  refine wp_region_noPanic ?_
  refine wp_region_held_drew (S := fun w' => w'.cell? ⟨b, 7, none⟩ = some (.int .i64 pe) ∧ w'.cell? ⟨b, 8, none⟩ = some (.int .i64 pw) ∧ w'.cell? ⟨A, 10, none⟩ = some (.int .i64 u)) (by kernel_rfl) ?_ (fun hHeld => ?_)
  · try dsimp only
    (refine ⟨?_, ?_, ?_⟩ <;> (first | with_reducible assumption))
  refine wpAnyH_take (i := 0) (v := ?_) (by (simp only [List.getElem?_toArray, List.getElem?_cons_zero]; rfl)) (by kernel_rfl) (by kernel_rfl) (by kernel_rfl) (fun _ _ _ h => h) (Or.inl ⟨by rfl, ?_⟩) (by assumption) ?_
  rotate_left
  · (intro w hSw; (try dsimp only at hSw); go_simp; try with_reducible rfl)
  try simp only [Act.put, List.setIfInBounds_toArray, List.set_cons_zero, List.set_cons_succ]
  refine wpAnyH_take (i := 1) (v := ?_) (by (simp only [List.getElem?_toArray, List.getElem?_cons_succ, List.getElem?_cons_zero]; rfl)) (by kernel_rfl) (by kernel_rfl) (by kernel_rfl) (fun _ _ _ h => h) (Or.inl ⟨by rfl, ?_⟩) (by assumption) ?_
  rotate_left
  · (intro w hSw; (try dsimp only at hSw); go_simp; try with_reducible rfl)
  try simp only [Act.put, List.setIfInBounds_toArray, List.set_cons_zero, List.set_cons_succ]
  refine wpAnyH_take (i := 2) (v := ?_) (by (simp only [List.getElem?_toArray, List.getElem?_cons_succ, List.getElem?_cons_zero]; rfl)) (by kernel_rfl) (by kernel_rfl) (by kernel_rfl) (fun _ _ _ h => h) (Or.inl ⟨by rfl, ?_⟩) (by assumption) ?_
  rotate_left
  · (intro w hSw; (try dsimp only at hSw); go_simp; try with_reducible rfl)
  try simp only [Act.put, List.setIfInBounds_toArray, List.set_cons_zero, List.set_cons_succ]
  refine wpAnyH_take (i := 3) (v := ?_) (by (simp only [List.getElem?_toArray, List.getElem?_cons_succ, List.getElem?_cons_zero]; rfl)) (by kernel_rfl) (by kernel_rfl) (by kernel_rfl) (fun _ _ _ h => h) (Or.inl ⟨by rfl, ?_⟩) (by assumption) ?_
  rotate_left
  · (intro w hSw; (try dsimp only at hSw); go_simp; try with_reducible rfl)
  try simp only [Act.put, List.setIfInBounds_toArray, List.set_cons_zero, List.set_cons_succ]
  refine wpAnyH_take (i := 4) (v := ?_) (by (simp only [List.getElem?_toArray, List.getElem?_cons_succ, List.getElem?_cons_zero]; rfl)) (by kernel_rfl) (by kernel_rfl) (by kernel_rfl) (fun _ _ _ h => h) (Or.inl ⟨by rfl, ?_⟩) (by assumption) ?_
  rotate_left
  · (intro w hSw; (try dsimp only at hSw); go_simp; try with_reducible rfl)
  try simp only [Act.put, List.setIfInBounds_toArray, List.set_cons_zero, List.set_cons_succ]
  refine wpAnyH_take (i := 5) (v := ?_) (by (simp only [List.getElem?_toArray, List.getElem?_cons_succ, List.getElem?_cons_zero]; rfl)) (by kernel_rfl) (by kernel_rfl) (by kernel_rfl) (fun _ _ _ h => h) (Or.inl ⟨by rfl, ?_⟩) (by assumption) ?_
  rotate_left
  · (intro w hSw; (try dsimp only at hSw); go_simp; try with_reducible rfl)
  try simp only [Act.put, List.setIfInBounds_toArray, List.set_cons_zero, List.set_cons_succ]
  refine wpAnyH_take (i := 6) (v := ?_) (by (simp only [List.getElem?_toArray, List.getElem?_cons_succ, List.getElem?_cons_zero]; rfl)) (by kernel_rfl) (by kernel_rfl) (by kernel_rfl) (fun _ _ _ h => h) (Or.inl ⟨by rfl, ?_⟩) (by assumption) ?_
  rotate_left
  · (intro w hSw; (try dsimp only at hSw); go_simp; try with_reducible rfl)
  try simp only [Act.put, List.setIfInBounds_toArray, List.set_cons_zero, List.set_cons_succ]
  refine wpAnyH_take (i := 7) (v := ?_) (by (simp only [List.getElem?_toArray, List.getElem?_cons_succ, List.getElem?_cons_zero]; rfl)) (by kernel_rfl) (by kernel_rfl) (by kernel_rfl) (fun _ _ _ h => h) (Or.inl ⟨by rfl, ?_⟩) (by assumption) ?_
  rotate_left
  · (intro w hSw; (try dsimp only at hSw); go_simp; try with_reducible rfl)
  try simp only [Act.put, List.setIfInBounds_toArray, List.set_cons_zero, List.set_cons_succ]
  refine wpAnyH_take (i := 8) (v := ?_) (by (simp only [List.getElem?_toArray, List.getElem?_cons_succ, List.getElem?_cons_zero]; rfl)) (by kernel_rfl) (by kernel_rfl) (by kernel_rfl) (fun _ _ _ h => h) (Or.inl ⟨by rfl, ?_⟩) (by assumption) ?_
  rotate_left
  · (intro w hSw; (try dsimp only at hSw); go_simp; try with_reducible rfl)
  try simp only [Act.put, List.setIfInBounds_toArray, List.set_cons_zero, List.set_cons_succ]
  refine wpAnyH_take (i := 9) (v := ?_) (by (simp only [List.getElem?_toArray, List.getElem?_cons_succ, List.getElem?_cons_zero]; rfl)) (by kernel_rfl) (by kernel_rfl) (by kernel_rfl) (fun _ _ _ h => h) (Or.inl ⟨by rfl, ?_⟩) (by assumption) ?_
  rotate_left
  · (intro w hSw; (try dsimp only at hSw); go_simp; try with_reducible rfl)
  try simp only [Act.put, List.setIfInBounds_toArray, List.set_cons_zero, List.set_cons_succ]
  refine wpAnyH_take (i := 10) (v := ?_) (by (simp only [List.getElem?_toArray, List.getElem?_cons_succ, List.getElem?_cons_zero]; rfl)) (by kernel_rfl) (by kernel_rfl) (by kernel_rfl) (fun _ _ _ h => h) (Or.inl ⟨by rfl, ?_⟩) (by assumption) ?_
  rotate_left
  · (intro w hSw; (try dsimp only at hSw); go_simp; try with_reducible rfl)
  try simp only [Act.put, List.setIfInBounds_toArray, List.set_cons_zero, List.set_cons_succ]
  refine wpAnyH_take (i := 11) (v := ?_) (by (simp only [List.getElem?_toArray, List.getElem?_cons_succ, List.getElem?_cons_zero]; rfl)) (by kernel_rfl) (by kernel_rfl) (by kernel_rfl) (fun _ _ _ h => h) (Or.inl ⟨by rfl, ?_⟩) (by assumption) ?_
  rotate_left
  · (intro w hSw; (try dsimp only at hSw); go_simp; try with_reducible rfl)
  try simp only [Act.put, List.setIfInBounds_toArray, List.set_cons_zero, List.set_cons_succ]
  refine wpAnyH_take (i := 12) (v := ?_) (by (simp only [List.getElem?_toArray, List.getElem?_cons_succ, List.getElem?_cons_zero]; rfl)) (by kernel_rfl) (by kernel_rfl) (by kernel_rfl) (fun _ _ _ h => h) (Or.inl ⟨by rfl, ?_⟩) (by assumption) ?_
  rotate_left
  · (intro w hSw; (try dsimp only at hSw); go_simp; try with_reducible rfl)
  try simp only [Act.put, List.setIfInBounds_toArray, List.set_cons_zero, List.set_cons_succ]
  refine wpAnyH_take (i := 13) (v := ?_) (by (simp only [List.getElem?_toArray, List.getElem?_cons_succ, List.getElem?_cons_zero]; rfl)) (by kernel_rfl) (by kernel_rfl) (by kernel_rfl) (fun _ _ _ h => h) (Or.inl ⟨by rfl, ?_⟩) (by assumption) ?_
  rotate_left
  · (intro w hSw; (try dsimp only at hSw); go_simp; try with_reducible rfl)
  try simp only [Act.put, List.setIfInBounds_toArray, List.set_cons_zero, List.set_cons_succ]
  refine wpAnyH_done (by kernel_rfl) ?_ _
  refine NoPanic.normal ?_
  clear hHeld f0 f1 f2
  go_wp2_with fail
  go_ret
  exact ⟨rfl, rfl⟩

theorem over_any (w : World) (b : Nat) (p : Pt) (h : Int) (hb : PtAt w b p) :
    Calls Try.prog 30 #[.pointer (some ⟨b, 0, none⟩), .int .i64 h] w fun e w' => (∃ v, e = .returned v) ∧ PtAt w' b (p.over h) ∧ Chg (fun k => k = b) w w' := by
  have f9 : w.cell? ⟨b, 9, none⟩ = some (.int .i64 p.how) := cellb (i := 9) hb rfl
  have f10 : w.cell? ⟨b, 10, none⟩ = some (.bool p.rep) := cellb (i := 10) hb rfl
  have f11 : w.cell? ⟨b, 11, none⟩ = some (.bool p.sent) := cellb (i := 11) hb rfl
  have fz : ∀ i, w.frozen? ⟨b, i, none⟩ = false := fzb hb
  have HB := Lib.hid hb
  clear hb
  go_enter Try.func30, Try.ntmps30
  go_wp2_with fail
  have hc : Chg (fun k => k = b) w (((w.setCell ⟨b, 9, none⟩ (.int .i64 h)).setCell ⟨b, 10, none⟩ (.bool true)).setCell ⟨b, 11, none⟩ (.bool false)) :=
    (((Chg.refl (fun k => k = b) w).setCell (p := ⟨b, 9, none⟩) (.inr rfl) _).setCell (p := ⟨b, 10, none⟩) (.inr rfl) _).setCell (p := ⟨b, 11, none⟩) (.inr rfl) _
  have hn := HB.out
  unfold PtAt Pt.cells at hn
  have hp : PtAt (((w.setCell ⟨b, 9, none⟩ (.int .i64 h)).setCell ⟨b, 10, none⟩ (.bool true)).setCell ⟨b, 11, none⟩ (.bool false)) b (p.over h) := by
    unfold PtAt
    simp [World.setCell, Array.getElem?_modify, hn, Pt.over]
  go_end0
  exact ⟨⟨_, rfl⟩, hp, hc⟩
end Go.Proofs.Ytoeamofemepgpaa
