/- Chapter 20: AgentFits, the plain part joined: sums of runs. -/
import Derived.Test.YtoeamofemepgpaaLive20
import Derived.Test.YtoeamofemepgpaaFew20
namespace Go.Proofs.Ytoeamofemepgpaa
open Go.RowKit

theorem fine_done {s : Ag} {m : Nat} (K : Nat) (v : Nat → Int) (n : Nat) (now : Int) (h : Fine s m) : Fine (s.done K v n now) (m + 1) := by
  unfold Ag.done
  split
  · exact (fine_boot h).mono (by omega)
  · split
    · exact (fine_down h).mono (by omega)
    · split
      · exact fine_hear v n now h
      · exact (fine_step h).mono (by omega)
theorem down_calm (s : Ag) : Calm s s.downs := ⟨List.Sublist.refl _, id, rfl, rfl, .inl rfl⟩
theorem done_whole (s : Ag) (K : Nat) (v : Nat → Int) (n : Nat) (now : Int) : (s.done K v n now).whole = s.whole := by
  unfold Ag.done
  split
  · unfold Ag.bootA
    split <;> rfl
  · split
    · rfl
    · split
      · rcases hears_calm s v n now with h | ⟨s1, hc, _, _, e, _⟩
        · exact h.whole
        · rw [e]; exact hc.whole
      · exact (stepA_calm s now).whole
theorem done_fits {s : Ag} (K : Nat) (v : Nat → Int) (n : Nat) (now : Int) (hs : Small s.ps) (hw : ∀ k, k < 4 → 0 ≤ s.whole k) (hf : Fits2 s) : Fits2 (s.done K v n now) := by
  unfold Ag.done
  split
  · exact boot_fits now hf hw
  · split
    · exact (down_calm s).fits hs hf
    · split
      · exact hears_fits v n now hs hf
      · exact (stepA_calm s now).fits hs hf
theorem new_fits (nd : Int) (g : Nat → Int) (l : List Int) (hg : rightB g = true) : Fits2 (Ag.new nd g l) := by
  refine ⟨List.nodup_nil, fun k hk => ?_⟩
  unfold rightB okb at hg
  simp only [Bool.and_eq_true, decide_eq_true_eq] at hg
  have hk : k = 0 ∨ k = 1 ∨ k = 2 ∨ k = 3 := by omega
  rcases hk with rfl | rfl | rfl | rfl
  · exact hg.1.1.1.1
  · exact hg.1.1.2.1
  · exact hg.1.2.1
  · exact hg.2.1
theorem right_bd {g : Nat → Int} (hg : rightB g = true) (k : Nat) (hk : k < 4) : 0 ≤ g k ∧ g k ≤ 1073741824 := by
  unfold rightB okb at hg
  simp only [Bool.and_eq_true, decide_eq_true_eq] at hg
  have hk : k = 0 ∨ k = 1 ∨ k = 2 ∨ k = 3 := by omega
  rcases hk with rfl | rfl | rfl | rfl
  · exact hg.1.1.1
  · exact hg.1.1.2
  · exact hg.1.2
  · exact hg.2
theorem rB_right (g : Nat → Int) : rightB g = (okb (g 0) && okb (g 1) && okb (g 2) && okb (g 3)) := rfl
/-- What the first k of the runs take. -/
def sums (l : List Pt) (k : Nat) : Nat → Int := fun d => sumf (fun p => p.d d) (l.take k)
theorem sumf_append (f : Pt → Int) : ∀ (l : List Pt) (p : Pt), sumf f (l ++ [p]) = sumf f l + f p
  | [], p => by simp [sumf]
  | a :: l, p => by
    show f a + sumf f (l ++ [p]) = f a + sumf f l + f p
    rw [sumf_append f l p]; omega
theorem sums_next {l : List Pt} {k : Nat} {p : Pt} (h : l[k]? = some p) (d : Nat) : sums l (k + 1) d = sums l k d + p.d d := by
  unfold sums
  rw [List.take_add_one, h]
  exact sumf_append _ _ _
theorem sums_bd {s : Ag} {g : Nat → Int} (hs : Small s.ps) (hf : Fits2 s) (hw : ∀ k, k < 4 → s.whole k = g k) (now : Int) (k d : Nat) (hd : d < 4) : 0 ≤ sums (s.runsAt now) k d ∧ sums (s.runsAt now) k d ≤ g d := by
  have hmem : ∀ p ∈ s.runsAt now, 0 ≤ p.d d := fun p hp => (d_pos hs ((runsAt_sub s now).trans List.filter_sublist |>.subset hp) d).1
  have h1 : sums (s.runsAt now) k d ≤ sumf (fun p => p.d d) (s.runsAt now) := sumf_sub (List.take_sublist k _) hmem
  have h2 := runs_tot hs now d
  have h3 := hf.sum d hd
  rw [hw d hd] at h3
  have h0 : sumf (fun p : Pt => p.d d) [] ≤ sums (s.runsAt now) k d := sumf_sub (List.nil_sublist _) (fun p hp => hmem p (List.mem_of_mem_take hp))
  have h00 : sumf (fun p : Pt => p.d d) [] = 0 := rfl
  rw [h00] at h0
  exact ⟨h0, by omega⟩
theorem flat_at {α β : Type} (f : α → List β) (n : Nat) (hf : ∀ a, (f a).length = n) : ∀ (l : List α) (k o : Nat) (a : α), l[k]? = some a → o < n → (l.flatMap f)[k * n + o]? = (f a)[o]?
  | [], k, o, a, h, _ => by simp at h
  | x :: l, 0, o, a, h, ho => by
    simp at h
    subst h
    rw [List.flatMap_cons, Nat.zero_mul, Nat.zero_add, List.getElem?_append_left (by rw [hf]; exact ho)]
  | x :: l, k + 1, o, a, h, ho => by
    rw [List.flatMap_cons, List.getElem?_append_right (by rw [hf, Nat.succ_mul]; omega), hf]
    have e : (k + 1) * n + o - n = k * n + o := by rw [Nat.succ_mul]; omega
    rw [e]
    exact flat_at f n hf l k o a (by simpa using h) ho
theorem run_at (u : Int) {l : List Pt} {k : Nat} {p : Pt} (h : l[k]? = some p) (o : Nat) (v : Value) (hv : (p.runC u)[o]? = some v) : (l.flatMap (Pt.runC u))[k * 8 + o]? = some v := by
  have ho : o < 8 := (List.getElem?_eq_some_iff.1 hv).1
  rw [flat_at (Pt.runC u) 8 (fun _ => rfl) l k o p h ho]
  exact hv
theorem runs_key {s : Ag} (hf : Fits2 s) (now : Int) {i j : Nat} {p q : Pt} (hi : (s.runsAt now)[i]? = some p) (hj : (s.runsAt now)[j]? = some q) (hij : i < j) : ¬ (p.job = q.job ∧ p.att = q.att) := fun ⟨h1, h2⟩ => by
  have hn := runs_nodup hf now
  have e1 : (keysOf (s.runsAt now))[i]? = some (p.job, p.att) := by unfold keysOf; rw [List.getElem?_map, hi]; rfl
  have e2 : (keysOf (s.runsAt now))[j]? = some (q.job, q.att) := by unfold keysOf; rw [List.getElem?_map, hj]; rfl
  rw [h1, h2] at e1
  have := (List.getElem?_inj (List.getElem?_eq_some_iff.1 e1).1 hn).1 (e1.trans e2.symm)
  omega
theorem runs_mem {s : Ag} {now : Int} {p : Pt} (h : p ∈ s.runsAt now) : p ∈ s.ps ∧ p.how = 0 ∧ s.up = true ∧ now < p.upto s.until_ ∧ p.begun ≤ now := by
  unfold Ag.runsAt at h
  split at h
  · rename_i hu
    unfold runsOf at h
    obtain ⟨h1, h2⟩ := List.mem_filter.1 h
    unfold Pt.runs at h2
    simp only [Bool.and_eq_true, decide_eq_true_eq] at h2
    exact ⟨h1, h2.1.1, hu, h2.1.2, h2.2⟩
  · cases h
theorem runs_len2 (s : Ag) (now : Int) : (s.runsAt now).length ≤ s.ps.length := ((runsAt_sub s now).trans List.filter_sublist).length_le
theorem chg_drewN {S : Nat → Prop} {w w' : World} (h : Chg S w w') (n : Nat) : Chg S w (w'.drewN n) := ⟨h.os, h.tape, h.output, h.size, h.block⟩
end Go.Proofs.Ytoeamofemepgpaa
