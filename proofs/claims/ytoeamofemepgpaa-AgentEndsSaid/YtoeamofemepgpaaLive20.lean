/- Chapter 20: what runs on an agent is what was launched, and fits: the plain part of AgentFits and AgentEnds. -/
import Derived.Test.YtoeamofemepgpaaPure20
namespace Go.Proofs.Ytoeamofemepgpaa
open Go.RowKit

/-- What counts of a part that runs. -/
def Pt.core (p : Pt) : Pt := { p with rep := false, sent := false, at_ := 0 }
def live (ps : List Pt) : List Pt := (ps.filter fun p => decide (p.how = 0)).map Pt.core
def keysOf (ps : List Pt) : List (Int × Int) := ps.map fun p => (p.job, p.att)
theorem live_cons_in {p : Pt} {ps : List Pt} (h : p.how = 0) : live (p :: ps) = p.core :: live ps := by simp [live, h]
theorem live_cons_out {p : Pt} {ps : List Pt} (h : ¬ p.how = 0) : live (p :: ps) = live ps := by simp [live, h]
theorem mem_live {p : Pt} {ps : List Pt} (hp : p ∈ ps) (h : p.how = 0) : p.core ∈ live ps :=
  List.mem_map.2 ⟨p, List.mem_filter.2 ⟨hp, by simp [h]⟩, rfl⟩
theorem of_live {q : Pt} {ps : List Pt} (h : q ∈ live ps) : ∃ p, p ∈ ps ∧ p.how = 0 ∧ q = p.core := by
  obtain ⟨p, h1, h2⟩ := List.mem_map.1 h
  obtain ⟨h3, h4⟩ := List.mem_filter.1 h1
  exact ⟨p, h3, by simpa using h4, h2.symm⟩
theorem live_map (F : Pt → Pt) : ∀ {ps : List Pt}, (∀ p ∈ ps, (F p).how = 0 → p.how = 0 ∧ (F p).core = p.core) → (live (ps.map F)).Sublist (live ps)
  | [], _ => List.Sublist.refl _
  | p :: ps, h => by
    have ih := live_map F (ps := ps) (fun q hq => h q (List.mem_cons_of_mem _ hq))
    rw [List.map_cons]
    by_cases h1 : (F p).how = 0
    · obtain ⟨h2, h3⟩ := h p (List.mem_cons_self ..) h1
      rw [live_cons_in h1, live_cons_in h2, h3]
      exact ih.cons_cons _
    · rw [live_cons_out h1]
      by_cases h2 : p.how = 0
      · rw [live_cons_in h2]; exact ih.cons _
      · rw [live_cons_out h2]; exact ih
theorem live_set {p q : Pt} (hq : q.how = 0 → p.how = 0 ∧ q.core = p.core) : ∀ {ps : List Pt} {i : Nat}, ps[i]? = some p → (live (ps.set i q)).Sublist (live ps)
  | [], i, h => by simp at h
  | x :: ps, 0, h => by
    simp at h
    subst h
    rw [List.set_cons_zero]
    by_cases h1 : q.how = 0
    · obtain ⟨h2, h3⟩ := hq h1
      rw [live_cons_in h1, live_cons_in h2, h3]
      exact List.Sublist.refl _
    · rw [live_cons_out h1]
      by_cases h2 : x.how = 0
      · rw [live_cons_in h2]; exact (List.Sublist.refl _).cons _
      · rw [live_cons_out h2]; exact List.Sublist.refl _
  | x :: ps, i + 1, h => by
    have ih := live_set hq (ps := ps) (i := i) (by simpa using h)
    rw [List.set_cons_succ]
    by_cases h2 : x.how = 0
    · rw [live_cons_in h2, live_cons_in h2]; exact ih.cons_cons _
    · rw [live_cons_out h2, live_cons_out h2]; exact ih
theorem live_append (ps : List Pt) (q : Pt) : live (ps ++ [q]) = live ps ++ (if q.how = 0 then [q.core] else []) := by
  unfold live
  rw [List.filter_append, List.map_append]
  by_cases h : q.how = 0 <;> simp [h]
def sumf (f : Pt → Int) : List Pt → Int
  | [] => 0
  | p :: r => f p + sumf f r
theorem tot_live {f : Pt → Int} (hf : ∀ p : Pt, f p.core = f p) : ∀ ps : List Pt, tot f ps = sumf f (live ps)
  | [] => rfl
  | p :: ps => by
    unfold tot
    rw [tot_live hf ps]
    by_cases h : p.how = 0
    · rw [live_cons_in h, if_pos h]
      show _ = f p.core + _
      rw [hf]
    · rw [live_cons_out h, if_neg h, Int.zero_add]
theorem sumf_sub {f : Pt → Int} {l m : List Pt} (h : l.Sublist m) : (∀ p ∈ m, 0 ≤ f p) → sumf f l ≤ sumf f m := by
  induction h with
  | slnil => intro _; exact Int.le_refl _
  | cons a _ ih =>
    intro hm
    have h1 := ih (fun p hp => hm p (List.mem_cons_of_mem _ hp))
    have h2 := hm a (List.mem_cons_self ..)
    show _ ≤ f a + sumf f _
    omega
  | cons_cons a _ ih =>
    intro hm
    have h1 := ih (fun p hp => hm p (List.mem_cons_of_mem _ hp))
    show f a + sumf f _ ≤ f a + sumf f _
    omega
theorem d_core (k : Nat) (p : Pt) : p.core.d k = p.d k := rfl
theorem d_pos {ps : List Pt} (h : Small ps) {p : Pt} (hp : p ∈ ps) (k : Nat) : 0 ≤ p.d k ∧ p.d k ≤ 1073741824 := by
  have := h p hp
  unfold Pt.d
  split
  · exact this.1
  · split
    · exact this.2.1
    · split
      · exact this.2.2.1
      · exact this.2.2.2
theorem all_eq (s : Ag) (v : Nat → Int) (n k : Nat) (hk : k < 4) : s.all v n k = v (11 + k) + tot (fun p => p.d k) (s.ps.take n) := by
  have hk : k = 0 ∨ k = 1 ∨ k = 2 ∨ k = 3 := by omega
  rcases hk with rfl | rfl | rfl | rfl <;> rfl
theorem fitB_le {a b : Nat → Int} (h : fitB a b = true) (k : Nat) (hk : k < 4) : a k ≤ b k := by
  unfold fitB at h
  simp only [Bool.and_eq_true, decide_eq_true_eq] at h
  have hk : k = 0 ∨ k = 1 ∨ k = 2 ∨ k = 3 := by omega
  rcases hk with rfl | rfl | rfl | rfl
  · exact h.1.1.1
  · exact h.1.1.2
  · exact h.1.2
  · exact h.2
theorem fitB_of {a b : Nat → Int} (h : ∀ k, k < 4 → a k ≤ b k) : fitB a b = true := by
  unfold fitB
  simp only [Bool.and_eq_true, decide_eq_true_eq]
  exact ⟨⟨⟨h 0 (by omega), h 1 (by omega)⟩, h 2 (by omega)⟩, h 3 (by omega)⟩
/-- Nothing begins. -/
structure Calm (s s' : Ag) : Prop where
  lv : (live s'.ps).Sublist (live s.ps)
  keys : (keysOf s.ps).Nodup → (keysOf s'.ps).Nodup
  whole : s'.whole = s.whole
  boot : s'.boot = s.boot
  since : s'.since = s.since ∨ live s'.ps = []
theorem Calm.refl (s : Ag) : Calm s s := ⟨List.Sublist.refl _, id, rfl, rfl, .inl rfl⟩
theorem Calm.trans {a b c : Ag} (h : Calm a b) (g : Calm b c) : Calm a c :=
  ⟨g.lv.trans h.lv, fun k => g.keys (h.keys k), g.whole.trans h.whole, g.boot.trans h.boot, by
    rcases g.since with e | e
    · rcases h.since with e2 | e2
      · exact .inl (e.trans e2)
      · refine .inr ?_
        have := g.lv
        rw [e2] at this
        exact List.eq_nil_of_sublist_nil this
    · exact .inr e⟩
theorem keys_map {F : Pt → Pt} (h : ∀ p : Pt, ((F p).job, (F p).att) = (p.job, p.att)) (ps : List Pt) : keysOf (ps.map F) = keysOf ps := by
  unfold keysOf
  rw [List.map_map]
  exact List.map_congr_left (fun p _ => h p)
theorem keys_set {p q : Pt} (h : (q.job, q.att) = (p.job, p.att)) {ps : List Pt} {i : Nat} (hp : ps[i]? = some p) : keysOf (ps.set i q) = keysOf ps := by
  unfold keysOf
  apply List.ext_getElem?
  intro j
  simp only [List.getElem?_map, List.getElem?_set]
  by_cases e : i = j
  · subst e
    rw [if_pos rfl, if_pos (List.getElem?_eq_some_iff.1 hp).1, hp]
    simp only [Option.map_some, h]
  · rw [if_neg e]
theorem keys_more {ps : List Pt} {q : Pt} (h : (keysOf ps).Nodup) (hq : (q.job, q.att) ∉ keysOf ps) : (keysOf (ps ++ [q])).Nodup := by
  unfold keysOf at h hq ⊢
  rw [List.map_append, List.nodup_append]
  refine ⟨h, by simp, fun a ha b hb => ?_⟩
  simp at hb
  subst hb
  exact fun e => hq (e ▸ ha)
theorem settle_core (p : Pt) (u t : Int) (h : (p.settle u t).how = 0) : p.how = 0 ∧ (p.settle u t).core = p.core := by
  unfold Pt.settle at h ⊢
  split at h
  · rename_i hc
    exfalso
    unfold Pt.over at h
    simp only at h
    split at h
    · exact absurd h (by decide)
    · split at h <;> exact absurd h (by decide)
  · rename_i hc
    rw [if_neg hc]
    exact ⟨h, rfl⟩
theorem settle_calm (s : Ag) (now : Int) : Calm s ((s.ticks now).settle now) :=
  ⟨live_map _ (fun p _ h => settle_core p _ _ h), fun h => by
    have : keysOf ((s.ticks now).settle now).ps = keysOf s.ps := keys_map (F := fun p => p.settle s.until_ now) (fun p => settle_key p _ _) s.ps
    rw [this]; exact h, rfl, rfl, .inl rfl⟩
theorem heard_calm (s : Ag) (v : Nat → Int) (now : Int) : Calm s (s.heard v now) := ⟨(settle_calm s now).lv, (settle_calm s now).keys, rfl, rfl, .inl rfl⟩
theorem ticks_calm (s : Ag) (now : Int) : Calm s (s.ticks now) := ⟨List.Sublist.refl _, id, rfl, rfl, .inl rfl⟩
/-- What still runs behind settle runs on. -/
theorem settled_on {s : Ag} {now : Int} {p : Pt} (hp : p ∈ ((s.ticks now).settle now).ps) (h : p.how = 0) : now < s.until_ := by
  obtain ⟨q, hq, rfl⟩ := List.mem_map.1 hp
  have hu : (s.ticks now).until_ = s.until_ := rfl
  rw [hu] at h
  unfold Pt.settle at h
  split at h
  · exfalso
    unfold Pt.over at h
    simp only at h
    split at h
    · exact absurd h (by decide)
    · split at h <;> exact absurd h (by decide)
  · rename_i hc
    have : ¬ q.upto s.until_ ≤ now := fun e => hc ⟨h, e⟩
    unfold Pt.upto at this
    omega
theorem grant_calm {s : Ag} (v : Nat → Int) (h : ∀ p ∈ s.ps, p.how = 0 → s.tick < s.until_) : Calm s (s.grant v) := by
  unfold Ag.grant
  split
  · exact Calm.refl s
  · split
    · exact Calm.refl s
    · split
      · rename_i hc
        refine ⟨List.Sublist.refl _, id, rfl, rfl, .inr ?_⟩
        refine List.eq_nil_iff_forall_not_mem.2 (fun q hq => ?_)
        obtain ⟨p, h1, h2, _⟩ := of_live hq
        have := h p h1 h2
        omega
      · exact ⟨List.Sublist.refl _, id, rfl, rfl, .inl rfl⟩
theorem more_calm {s : Ag} {q : Pt} (hq : ¬ q.how = 0) (hk : (q.job, q.att) ∉ keysOf s.ps) : Calm s (s.more q) := by
  refine ⟨?_, fun h => keys_more h hk, rfl, rfl, .inl rfl⟩
  show (live (s.ps ++ [q])).Sublist _
  rw [live_append, if_neg hq, List.append_nil]
  exact List.Sublist.refl _
theorem set_calm {s : Ag} {i : Nat} {p q : Pt} (hp : s.ps[i]? = some p) (hq : q.how = 0 → p.how = 0 ∧ q.core = p.core) (hk : (q.job, q.att) = (p.job, p.att)) : Calm s { s with ps := s.ps.set i q } := by
  refine ⟨live_set hq hp, fun h => ?_, rfl, rfl, .inl rfl⟩
  show (keysOf (s.ps.set i q)).Nodup
  rw [keys_set hk hp]
  exact h
theorem kill_calm (s : Ag) (v : Nat → Int) : Calm s (s.kill v) := by
  unfold Ag.kill
  split
  · rename_i hpl
    exact more_calm (by show ¬ ((3 : Int) = 0); decide) (placeOf_none hpl)
  · split
    · exact Calm.refl s
    · rename_i p hp
      split
      · exact set_calm hp (fun h => absurd h (by show ¬ ((3 : Int) = 0); decide)) rfl
      · rename_i hne
        split
        · exact set_calm hp (fun h => absurd h hne) rfl
        · exact Calm.refl s
theorem ack_calm (s : Ag) (v : Nat → Int) : Calm s (s.ack v) := by
  unfold Ag.ack
  split
  · exact Calm.refl s
  · split
    · exact Calm.refl s
    · rename_i p hp
      split
      · exact Calm.refl s
      · rename_i hne
        exact set_calm hp (fun h => absurd h hne) rfl
theorem launch_calm (s : Ag) (v : Nat → Int) : Calm s (s.launch v) ∨ (s.launch v = s.more (s.started v) ∧ s.may v = true ∧ s.place (v 6) (v 7) = none) := by
  unfold Ag.launch
  split
  · exact .inl (Calm.refl s)
  · rename_i hpl
    cases hm : s.may v
    · exact .inl (more_calm (by simp only [Bool.false_eq_true, if_false]; show ¬ ((3 : Int) = 0); decide) (placeOf_none hpl))
    · exact .inr ⟨by simp, rfl, hpl⟩
/-- Something begins. -/
def Begins (s : Ag) (v : Nat → Int) (n : Nat) (now : Int) (s' : Ag) : Prop :=
  ∃ s1, Calm s s1 ∧ s1.tick = now ∧ s1.since = s.since ∧ s' = s1.more (s1.started v) ∧ s1.may v = true ∧ s1.place (v 6) (v 7) = none ∧ OkM v n ∧ v 0 = 3
theorem hears_calm (s : Ag) (v : Nat → Int) (n : Nat) (now : Int) : Calm s (s.hears v n now) ∨ Begins s v n now (s.hears v n now) := by
  unfold Ag.hears
  split
  · split
    · split
      · rename_i hk
        unfold Ag.does
        split
        · exact .inl ((heard_calm s v now).trans (grant_calm v (fun p hp h => settled_on (s := s) (now := now) hp h)))
        · split
          · rename_i h3
            rcases launch_calm (s.heard v now) v with h | ⟨h1, h2, h4⟩
            · exact .inl ((heard_calm s v now).trans h)
            · exact .inr ⟨s.heard v now, heard_calm s v now, rfl, rfl, h1, h2, h4, hk.2.1, h3⟩
          · split
            · exact .inl ((heard_calm s v now).trans (kill_calm _ v))
            · exact .inl ((heard_calm s v now).trans (ack_calm _ v))
      · exact .inl (settle_calm s now)
    · exact .inl (ticks_calm s now)
  · exact .inl (Calm.refl s)
theorem step_core (p : Pt) (now : Int) (h : (p.step now).how = 0) : p.how = 0 ∧ (p.step now).core = p.core := by
  unfold Pt.step at h ⊢
  split
  · rename_i hc
    rw [if_pos hc] at h
    exact ⟨h, rfl⟩
  · rename_i hc
    rw [if_neg hc] at h
    exact ⟨h, rfl⟩
theorem step_key2 (p : Pt) (now : Int) : ((p.step now).job, (p.step now).att) = (p.job, p.att) := by
  unfold Pt.step
  split <;> rfl
theorem beaten_calm (s : Ag) (now : Int) : Calm s (s.beaten now) := by
  have h := settle_calm s now
  unfold Ag.beaten
  split
  · exact ⟨h.lv, h.keys, rfl, rfl, .inl rfl⟩
  · exact h
theorem steps_calm (s : Ag) (now : Int) : Calm s (s.steps now) := by
  refine (beaten_calm s now).trans ⟨live_map _ (fun p _ h => step_core p now h), fun h => ?_, rfl, rfl, .inl rfl⟩
  have : keysOf (s.steps now).ps = keysOf (s.beaten now).ps := keys_map (F := fun p => p.step now) (fun p => step_key2 p now) _
  rw [this]
  exact h
theorem stepA_calm (s : Ag) (now : Int) : Calm s (s.stepA now) := by
  unfold Ag.stepA
  split
  · split
    · exact steps_calm s now
    · exact ticks_calm s now
  · exact Calm.refl s
/-- All that runs fits, and each part is there once. -/
structure Fits2 (s : Ag) : Prop where
  keys : (keysOf s.ps).Nodup
  sum : ∀ k, k < 4 → tot (fun p => p.d k) s.ps ≤ s.whole k
theorem tot_mono {s s' : Ag} (hs : Small s.ps) (h : (live s'.ps).Sublist (live s.ps)) (k : Nat) : tot (fun p => p.d k) s'.ps ≤ tot (fun p => p.d k) s.ps := by
  rw [tot_live (d_core k), tot_live (d_core k)]
  refine sumf_sub h (fun q hq => ?_)
  obtain ⟨p, h1, _, rfl⟩ := of_live hq
  exact (d_pos hs h1 k).1
theorem Calm.fits {s s' : Ag} (h : Calm s s') (hs : Small s.ps) (hf : Fits2 s) : Fits2 s' :=
  ⟨h.keys hf.keys, fun k hk => by rw [h.whole]; exact Int.le_trans (tot_mono hs h.lv k) (hf.sum k hk)⟩
theorem started_d (s : Ag) (v : Nat → Int) (k : Nat) (hk : k < 4) : (s.started v).d k = v (11 + k) := by
  have hk : k = 0 ∨ k = 1 ∨ k = 2 ∨ k = 3 := by omega
  rcases hk with rfl | rfl | rfl | rfl <;> rfl
theorem tot_append (f : Pt → Int) (q : Pt) (hq : q.how = 0) : ∀ ps : List Pt, tot f (ps ++ [q]) = tot f ps + f q
  | [] => by simp [tot, hq]
  | p :: ps => by
    rw [List.cons_append]
    unfold tot
    rw [tot_append f q hq ps]
    omega
theorem Begins.fits {s s' : Ag} {v : Nat → Int} {n : Nat} {now : Int} (h : Begins s v n now s') (hf : Fits2 s) : Fits2 s' := by
  obtain ⟨s1, hc, _, _, rfl, hm, hpl, _⟩ := h
  refine ⟨keys_more (hc.keys hf.keys) (placeOf_none hpl), fun k hk => ?_⟩
  show tot _ (s1.ps ++ [s1.started v]) ≤ s1.whole k
  rw [tot_append _ _ rfl, started_d s1 v k hk]
  unfold Ag.may at hm
  simp only [Bool.and_eq_true] at hm
  have := fitB_le hm.2 k hk
  rw [all_eq s1 v _ k hk, List.take_length] at this
  omega
theorem hears_fits {s : Ag} (v : Nat → Int) (n : Nat) (now : Int) (hs : Small s.ps) (hf : Fits2 s) : Fits2 (s.hears v n now) := by
  rcases hears_calm s v n now with h | h
  · exact h.fits hs hf
  · exact h.fits hf
theorem boot_fits {s : Ag} (now : Int) (hf : Fits2 s) (hw : ∀ k, k < 4 → 0 ≤ s.whole k) : Fits2 (s.bootA now) := by
  unfold Ag.bootA
  split
  · exact ⟨List.nodup_nil, fun k hk => hw k hk⟩
  · exact hf
/-- What runs at a tick. -/
theorem runsAt_sub (s : Ag) (now : Int) : (s.runsAt now).Sublist (s.ps.filter fun p => decide (p.how = 0)) := by
  unfold Ag.runsAt
  split
  · unfold runsOf
    have : (s.ps.filter fun p => p.runs s.until_ now) = (s.ps.filter fun p => decide (p.how = 0)).filter fun p => p.runs s.until_ now := by
      rw [List.filter_filter]
      refine List.filter_congr (fun p _ => ?_)
      unfold Pt.runs
      cases decide (p.how = 0) <;> simp
    rw [this]
    exact List.filter_sublist
  · exact List.nil_sublist _
theorem runs_tot {s : Ag} (hs : Small s.ps) (now : Int) (k : Nat) : sumf (fun p => p.d k) (s.runsAt now) ≤ tot (fun p => p.d k) s.ps := by
  have h := (runsAt_sub s now).map Pt.core
  have e : ∀ l : List Pt, sumf (fun p => p.d k) l = sumf (fun p => p.d k) (l.map Pt.core) := fun l => by
    induction l with
    | nil => rfl
    | cons a l ih => show _ + sumf _ l = _ + sumf _ (l.map Pt.core); rw [ih]; rfl
  rw [tot_live (d_core k), e]
  refine sumf_sub h (fun q hq => ?_)
  obtain ⟨p, h1, _, rfl⟩ := of_live hq
  exact (d_pos hs h1 k).1
theorem runs_nodup {s : Ag} (hf : Fits2 s) (now : Int) : (keysOf (s.runsAt now)).Nodup := by
  have h1 : (s.runsAt now).Sublist s.ps := (runsAt_sub s now).trans List.filter_sublist
  exact hf.keys.sublist (h1.map _)
end Go.Proofs.Ytoeamofemepgpaa
