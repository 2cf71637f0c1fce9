/- The four fenced calls of one who bears another epoch. -/
import Derived.Test.YtpkefkoimlecjaaDoorDone
namespace Go.Proofs.YtpkefkoimlecjaaDoor
open Go.RowKit

theorem append_fenced (g m : Nat) (d : Dk) (y : Lay) (ep n : Int) (A : Option Addr) (c : Nat) (l : List UInt8) (w : World) (h : DiskAt w g d y) (hm : m = l.length) (hB : BytesIn w w.heap.size A c l) (hA : l ≠ [] → ∀ ad, A = some ad → ad.block ≠ g) (hne : ep ≠ d.c.e) :
    Calls Tryd.prog 10 #[.pointer (some ⟨g, 0, none⟩), .int .i64 ep, .int .i64 n, .slice A m c] w fun e w' => e = .returned (.tuple #[.int .i64 0, .int .i64 150]) ∧ ∃ y', DiskAt w' g d y' ∧ Foot g y y' w w' := by
  have e1 : apE d ep n l = 150 := if_neg hne
  have e2 : apD d ep n l = d := if_neg hne
  have e3 : apN d ep n l = 0 := by unfold apN; rw [e1]; rfl
  have K := append_any g m d y ep n A c l w h hm hB hA
  rwa [e1, e2, e3] at K
theorem chop_fenced (g : Nat) (d : Dk) (y : Lay) (ep n : Int) (w : World) (h : DiskAt w g d y) (hne : ep ≠ d.c.e) :
    Calls Tryd.prog 22 #[.pointer (some ⟨g, 0, none⟩), .int .i64 ep, .int .i64 n] w fun e w' => e = .returned (.int .i64 150) ∧ ∃ y', DiskAt w' g d y' ∧ Foot g y y' w w' := by
  have K := chop_any g d y ep n w h
  rwa [show chE d ep n = 150 from if_neg hne, show chD d ep n = d from if_neg hne] at K
theorem stage_fenced (g m : Nat) (d : Dk) (y : Lay) (ep : Int) (A : Option Addr) (c : Nat) (l : List UInt8) (w : World) (h : DiskAt w g d y) (hm : m = l.length) (hB : BytesIn w w.heap.size A c l) (hA : l ≠ [] → ∀ ad, A = some ad → ad.block ≠ g) (hne : ep ≠ d.c.e) :
    Calls Tryd.prog 12 #[.pointer (some ⟨g, 0, none⟩), .int .i64 ep, .slice A m c] w fun e w' => e = .returned (.int .i64 150) ∧ ∃ y', DiskAt w' g d y' ∧ Foot g y y' w w' := by
  have K := stage_any g m d y ep A c l w h hm hB hA
  rwa [show sgE d ep l = 150 from if_neg hne, show sgD d ep l = d from if_neg hne] at K
theorem commit_fenced (g : Nat) (d : Dk) (y : Lay) (ep sum n : Int) (w : World) (h : DiskAt w g d y) (hh : Hal w) (h0 : 0 < w.heap.size) (hne : ep ≠ d.c.e) :
    Calls Tryd.prog 14 #[.pointer (some ⟨g, 0, none⟩), .int .i64 ep, .int .u32 sum, .int .i64 n] w fun e w' => e = .returned (.int .i64 150) ∧ ∃ y', DiskAt w' g d y' ∧ Foot g y y' w w' := by
  have K := commit_any g d y ep sum n w h hh h0
  rwa [show comE d ep sum n = 150 from if_neg hne, show comD d ep sum n = d from if_neg hne] at K
/-- A box that holds no bytes stays, whatever is done to a disk. -/
theorem footKeep {w w' : World} {b g : Nat} {cs : Array Value} {t : TypeId} {f : Nat × Nat} {d : Dk} {y y' : Lay} (h : w.heap[b]? = some (.cells cs t f)) (ht : t ≠ 5) (hd : DiskAt w g d y) (hg : b ≠ g) (F : Foot g y y' w w') : w'.heap[b]? = some (.cells cs t f) :=
  (F.keep (Array.getElem?_eq_some_iff.1 h).1 hg (fun e => by
    obtain ⟨cur, f', h'⟩ := own_elem hd.l (k := b) (by rw [ownBlock_map]; exact e)
    rw [h] at h'
    injection h' with h'
    injection h' with _ h2 _
    exact ht h2)).1.trans h
end Go.Proofs.YtpkefkoimlecjaaDoor
