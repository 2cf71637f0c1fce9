/- What is unpacked, in plain words, for the document's reader. -/
import Derived.Test.YtkenaoejijpgpaaDoorBackP
import Derived.Test.YtkenaoejijpgpaaDoorFrmC
import Derived.Test.YtkenaoejijpgpaaDoorRdRT
import Derived.Test.YtkenaoejijpgpaaDoorMayOk18
import Derived.Test.YtkenaoejijpgpaaDoorHeldW
import Derived.Test.YtkenaoejijpgpaaDoorChT
import Derived.Deep.Cut
namespace Go.Proofs.YtkenaoejijpgpaaDoor
open Go.RowKit

def RdOk (s : Rd) : Prop := ¬ s.e = 0 → s.l = []
theorem rok_ru {s : Rd} (h : RdOk s) : RdOk (ruS s) := by
  intro he
  by_cases h0 : s.e = 0
  · exact ru_bad h0 he
  · have e : ruS s = s := by unfold ruS; rw [if_neg h0]
    rw [e]; exact h h0
theorem rok_fail {s : Rd} (h : RdOk s) (x : Int) : RdOk (rfail s x) := by
  intro he
  unfold rfail at he ⊢
  split
  · rfl
  · rename_i hn; rw [if_neg hn] at he; exact h he
theorem rok_rt {s : Rd} (h : RdOk s) (most : Int) : RdOk (rtS s most) := by
  have hc : RdOk (rcS s most) := by
    unfold rcS
    split
    · exact rok_fail (rok_ru h) 11
    · exact rok_ru h
  intro he
  unfold rtS at he ⊢
  by_cases h0 : (rcS s most).e = 0
  · rw [if_pos h0] at he ⊢
    split
    · rename_i h1; rw [if_pos h1] at he; exact absurd rfl he
    · rfl
  · rw [if_neg h0] at he ⊢; exact hc h0
theorem rok_rdF (fs : List FD) : ∀ (p : Rd × (Nat → Int)), RdOk p.1 → RdOk (rdF fs p).1 := by
  induction fs with
  | nil => intro p h; exact h
  | cons f fs ih => intro p h; exact ih _ (rok_ru h)
theorem rok_upR (l : List UInt8) : RdOk (upR l) := by
  have h0 : RdOk (up0 l).1 := by
    have h1 : RdOk (ruS (bodyRd l)) := rok_ru (fun h => absurd rfl h)
    unfold up0
    simp only
    split
    · exact h1
    · exact rok_fail h1 11
  have h1 : RdOk (upF l).1 := rok_rdF _ _ h0
  unfold upR
  split
  · exact rok_rt h1 4096
  · exact h1
/-- A read that went wrong has told nothing. -/
theorem ri_bad {s : Rd} (h0 : s.e = 0) (h : ¬ (ruS s).e = 0) : riN s = 0 := by
  have hn : ruN s = 0 := by
    unfold ruS at h
    unfold ruN
    rw [if_pos h0] at h ⊢
    rcases rdGo_err s.l 0 0 with h1 | ⟨_, h1⟩
    · exact absurd (by simpa using h1) h
    · rw [h1]
  unfold riN
  rw [hn]
  rfl
def RdR (w : World) (B g : Nat) (s : Rd) : Prop := ∃ A c, RdAt 83 w B g s A c
theorem RdR.chg {w w' : World} {B g : Nat} {s : Rd} {S : Nat → Prop} (h : RdR w B g s) (hc : Chg S w w') (hg : ¬ S g) (hs : ∀ k, k < B → ¬ S k) : RdR w' B g s := by
  obtain ⟨A, c, h⟩ := h
  exact ⟨A, c, h.chg hc hg hs⟩
theorem results_runp (tmps : Array Value) (w : World) (g : Nat) (cs : Array Value) (hp : tmps.getD 2 undef = .pointer (some ⟨g, 0, none⟩)) (hg : w.heap[g]? = some (.cells cs 29 (0, 0))) (hc : cs.size = 21) :
    (results Tryd.f16 tmps).run Tryd.prog w = .ok (.tuple #[.agg cs, tmps.getD 3 undef]) w := by
  rw [results_cell_tmp Tryd.results16]
  rw [hp]
  have h := run_loadVar_row (P := Tryd.prog) w g 29 29 cs (0, 0) _ hg Tryd.underlying29 rfl (by rw [hc]; kernel_rfl)
  simp [asAddr, h]
end Go.Proofs.YtkenaoejijpgpaaDoor
