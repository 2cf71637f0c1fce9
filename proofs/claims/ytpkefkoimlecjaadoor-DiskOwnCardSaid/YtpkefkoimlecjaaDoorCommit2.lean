/- A disk: Commit, whole. -/
import Derived.Test.YtpkefkoimlecjaaDoorCommit
namespace Go.Proofs.YtpkefkoimlecjaaDoor
open Go.RowKit

set_option maxHeartbeats 1000000 in
theorem fenced_commit (g : Nat) (d : Dk) (y : Lay) (ep : Int) (caps : Array Value) (w : World) (h : DiskAt w g d y) (x : Int) (R : World → Prop)
    (hr : ep = d.c.e → Calls Tryd.prog 28 caps w fun e w' => e = .returned (.int .i64 x) ∧ R w') (hn : ep ≠ d.c.e → x = 150 ∧ R w) :
    Calls Tryd.prog 23 #[.pointer (some ⟨g, 0, none⟩), .int .i64 ep, .func (.func 28) #[] caps] w fun e w' => e = .returned (.int .i64 x) ∧ R w' := by
  have c1 := h.c1
  have hl := h.glt
  clear h
  by_cases he : ep = d.c.e
  · have H := Lib.hid (hr he)
    subst he
    clear hr hn
    generalize d.c.e = E at c1
    go_enter Tryd.func23, Tryd.ntmps23
    go_wp2_with fail
    refine H.out.mono ?_
    rintro e w' ⟨rfl, hR⟩
    have HR := Lib.hid hR
    clear hR
    go_wp2_with fail
    go_ret
    exact ⟨rfl, HR.out⟩
  · have H := Lib.hid (hn he)
    have he' : (ep != d.c.e) = true := by rw [bne_iff_ne]; exact he
    clear hr hn he
    go_enter Tryd.func23, Tryd.ntmps23
    go_wp2_with fail
    go_ret
    exact ⟨by rw [H.out.1]; rfl, H.out.2⟩

/-- What Commit answers, and what the disk is behind it. -/
def comE (d : Dk) (ep sum n : Int) : Int := if ep = d.c.e then cmE d sum n else 150
def comD (d : Dk) (ep sum n : Int) : Dk := if ep = d.c.e then cmD d sum n else d

set_option maxHeartbeats 1000000 in
theorem commit_any (g : Nat) (d : Dk) (y : Lay) (ep sum n : Int) (w : World) (h : DiskAt w g d y) (hh : Hal w) (h0 : 0 < w.heap.size) :
    Calls Tryd.prog 14 #[.pointer (some ⟨g, 0, none⟩), .int .i64 ep, .int .u32 sum, .int .i64 n] w fun e w' => e = .returned (.int .i64 (comE d ep sum n)) ∧ ∃ y', DiskAt w' g (comD d ep sum n) y' ∧ Foot g y y' w w' := by
  have hl := h.glt
  obtain ⟨S, hS⟩ : ∃ S, S = w.heap.size := ⟨_, rfl⟩
  obtain ⟨wb, hwb⟩ : ∃ wb, wb = ((w.alloc (.cells #[.pointer (some ⟨g, 0, none⟩)] 26)).alloc (.cells #[.int .u32 sum] 36)).alloc (.cells #[.int .i64 n] 3) := ⟨_, rfl⟩
  have hn : Chg NoBlk w wb := by rw [hwb]; exact (((Chg.refl _ w).alloc _).alloc _).alloc _
  have k0 : wb.cell? ⟨S, 0, none⟩ = some (.pointer (some ⟨g, 0, none⟩)) := by rw [hwb, hS]; exact keepA (keepA (box_new w _ _))
  have k1 : wb.cell? ⟨S + 1, 0, none⟩ = some (.int .u32 sum) := by rw [hwb, hS]; have := keepA (o := .cells #[.int .i64 n] 3) (box_new (w.alloc (.cells #[.pointer (some ⟨g, 0, none⟩)] 26)) (.int .u32 sum) 36); simpa using this
  have k2 : wb.cell? ⟨S + 1 + 1, 0, none⟩ = some (.int .i64 n) := by rw [hwb, hS]; have := box_new ((w.alloc (.cells #[.pointer (some ⟨g, 0, none⟩)] 26)).alloc (.cells #[.int .u32 sum] 36)) (.int .i64 n) 3; simpa using this
  have h1 := commit1_any g S (S + 1) (S + 1 + 1) d y sum n wb (h.chg0 hn) (hh.below (hn.below (B := w.heap.size) (Nat.le_refl _) (fun k hk e => e)) h0) k0 k1 k2 (by omega) (by omega)
  have h2 := fenced_commit g d y ep #[.pointer (some ⟨S, 0, none⟩), .pointer (some ⟨S + 1, 0, none⟩), .pointer (some ⟨S + 1 + 1, 0, none⟩)] wb (h.chg0 hn) (comE d ep sum n) (fun w' => ∃ y', DiskAt w' g (comD d ep sum n) y' ∧ Foot g y y' wb w')
    (fun he => by unfold comE comD; rw [if_pos he, if_pos he]; exact h1) (fun he => by unfold comE comD; rw [if_neg he, if_neg he]; exact ⟨rfl, y, h.chg0 hn, Foot.refl _ _ _⟩)
  have H2 := Lib.hid h2
  have HN := Lib.hid hn
  clear h hh h1 h2 hn k0 k1 k2 hl
  go_enter Tryd.func14, Tryd.ntmps14
  go_wp2_with fail
  rw [← hwb, ← hS]
  refine H2.out.mono ?_
  rintro e w' ⟨rfl, y', hd', hf'⟩
  have HD' := Lib.hid hd'
  have HF' := Lib.hid ((Foot.of_no HN.out g y).trans hf')
  clear hd' hf' hwb hS H2
  go_wp2_with fail
  go_ret
  exact ⟨rfl, y', HD'.out, HF'.out⟩
end Go.Proofs.YtpkefkoimlecjaaDoor
