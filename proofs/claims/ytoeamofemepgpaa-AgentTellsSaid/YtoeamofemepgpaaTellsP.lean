/- Chapter 20: AgentTells, what it comes to. -/
import Derived.Test.YtoeamofemepgpaaAwk20
namespace Go.Proofs.Ytoeamofemepgpaa
open Go.RowKit

def gT : Nat → Int := fun k => if k = 0 then 1 else 0
def sT0 (tk : Int) : Ag := Ag.new 3 gT [tk]
def sT (tk t : Int) (bt : Bool) (a : Int) (ps : List Pt) : Ag := { node := 3, g0 := 1, g1 := 0, g2 := 0, g3 := 0, work := [tk], up := true, tick := t, boot := 0, since := 1, until_ := 40, epoch := 2, beat := bt, at_ := a, ps := ps }
def pT (j tk wl : Int) : Pt := ⟨j, 2, 1, 0, 0, 0, 3, 3 + tk, 3 + wl, 0, false, false, 0⟩
/-- The part behind i steps since its end E. -/
def qT (j tk wl E h : Int) (i : Nat) : Pt := if i = 0 then pT j tk wl else { pT j tk wl with how := h, rep := true, sent := true, at_ := E + 4 * (((i - 1) / 4 : Nat) : Int) }
/-- How it ends, and when. -/
structure EndsT (tk wl E h : Int) : Prop where
  ht : 1 ≤ tk ∧ tk ≤ 20
  hw : 1 ≤ wl ∧ wl ≤ 20
  out : (tk ≤ wl ∧ E = 3 + tk ∧ h = 1) ∨ (wl < tk ∧ E = 3 + wl ∧ h = 2)
theorem tl1 (tk : Int) : (sT0 tk).bootA 0 = (sT0 tk).boots 0 := (bootA_ok (s := sT0 tk) ⟨by show (0 : Int) ≤ 0; decide, by decide⟩ rfl).1
theorem tl2 (tk : Int) : ((sT0 tk).boots 0).hears (mk 2 2 3 0 1 40 0 0 0 0 0 0 0 0 0) 0 1 = sT tk 1 false 0 [] :=
  hears_yes (s := (sT0 tk).boots 0) ⟨by show (0 : Int) ≤ 1; decide, by decide⟩ rfl ⟨.inl rfl, okGrant (by decide) (by decide) (by decide) (by decide), rfl, by show (0 : Int) ≤ 2; decide⟩
theorem takesT (tk t : Int) (bt : Bool) (a : Int) (ps : List Pt) (j : Int) (h : 1 ≤ tk ∧ tk ≤ 20) : (sT tk t bt a ps).takes j = tk := by
  have e : (sT tk t bt a ps).takes j = min (max ([tk].getD ((j - 1).toNat % 1) 0) 1) 2000 := rfl
  rw [e, Nat.mod_one]
  show min (max tk 1) 2000 = tk
  omega
theorem tl3 {j tk wl : Int} (hj : 1 ≤ j ∧ j ≤ 100) (ht : 1 ≤ tk ∧ tk ≤ 20) (hw : 1 ≤ wl ∧ wl ≤ 20) : (sT tk 1 false 0 []).hears (mk 3 2 3 0 0 0 j 2 2 wl 0 1 0 0 0) 0 3 = sT tk 3 false 0 [pT j tk wl] := by
  refine (hears_yes (s := sT tk 1 false 0 []) ⟨by show (1 : Int) ≤ 3; decide, by decide⟩ rfl ⟨.inr (.inl rfl), okLaunch (e := 2) (nd := 3) (by decide) (by decide) hj (by decide) (by decide) ⟨hw.1, by omega⟩ (by decide) (by decide) (by decide) (by decide), rfl, by show (2 : Int) ≤ 2; decide⟩).trans ?_
  show ((sT tk 3 false 0 []).launch (mk 3 2 3 0 0 0 j 2 2 wl 0 1 0 0 0)) = _
  have h1 : (sT tk 3 false 0 []).place j 2 = none := rfl
  have h2 : (sT tk 3 false 0 []).may (mk 3 2 3 0 0 0 j 2 2 wl 0 1 0 0 0) = true := rfl
  have h3 : (sT tk 3 false 0 []).started (mk 3 2 3 0 0 0 j 2 2 wl 0 1 0 0 0) = pT j tk wl := by
    show (⟨j, 2, 1, 0, 0, 0, 3, 3 + (sT tk 3 false 0 []).takes j, 3 + wl, 0, false, false, 0⟩ : Pt) = _
    rw [takesT _ _ _ _ _ _ ht]
    rfl
  unfold Ag.launch
  have h1' : (sT tk 3 false 0 []).place (mk 3 2 3 0 0 0 j 2 2 wl 0 1 0 0 0 6) (mk 3 2 3 0 0 0 j 2 2 wl 0 1 0 0 0 7) = none := h1
  rw [h1']
  simp only [h2, h3, if_true]
  rfl
theorem uptoT {j tk wl E h : Int} (e : EndsT tk wl E h) : (pT j tk wl).upto 40 = E := by
  obtain ⟨h1, h2, h3⟩ := e
  unfold Pt.upto pT
  simp only
  omega
theorem endT {tk wl E h : Int} (e : EndsT tk wl E h) : 4 ≤ E ∧ E ≤ 23 ∧ (h = 1 ∨ h = 2) ∧ (if E = 3 + tk then (1 : Int) else if E = 3 + wl then 2 else 3) = h := by
  obtain ⟨h1, h2, h3⟩ := e
  refine ⟨by omega, by omega, by omega, ?_⟩
  rcases h3 with ⟨a, b, c⟩ | ⟨a, b, c⟩
  · rw [if_pos b, c]
  · rw [if_neg (by omega), if_pos b, c]
theorem runs1T {j tk wl E h : Int} (e : EndsT tk wl E h) : (sT tk 3 false 0 [pT j tk wl]).runsAt (E - 1) = [pT j tk wl] := by
  have hE := endT e
  show runsOf 40 (E - 1) [pT j tk wl] = _
  unfold runsOf
  have : (pT j tk wl).runs 40 (E - 1) = true := by
    unfold Pt.runs
    rw [uptoT e]
    have h3 : (pT j tk wl).begun = 3 := rfl
    have h4 : (pT j tk wl).how = 0 := rfl
    rw [h3, h4]
    simp
    omega
  simp [this]
theorem runs0T {j tk wl E h : Int} (e : EndsT tk wl E h) : (sT tk 3 false 0 [pT j tk wl]).runsAt E = [] := by
  show runsOf 40 E [pT j tk wl] = _
  unfold runsOf
  have : (pT j tk wl).runs 40 E = false := by
    unfold Pt.runs
    rw [uptoT e]
    simp
  simp [this]
/-- The part at the i-th tick behind its end, settled. -/
def rT (j tk wl E h : Int) (i : Nat) : Pt := { pT j tk wl with how := h, rep := true, sent := decide (i ≠ 0), at_ := if i = 0 then 0 else E + 4 * (((i - 1) / 4 : Nat) : Int) }
theorem settleT {j tk wl E h : Int} (e : EndsT tk wl E h) (i : Nat) : (qT j tk wl E h i).settle 40 (E + i) = rT j tk wl E h i := by
  have hE := endT e
  unfold qT rT
  by_cases hi : i = 0
  · subst hi
    unfold Pt.settle
    have h4 : (pT j tk wl).how = 0 := rfl
    rw [if_pos rfl, uptoT e, if_pos ⟨h4, by omega⟩]
    have e1 : (pT j tk wl).end_ = 3 + tk := rfl
    have e2 : (pT j tk wl).wall = 3 + wl := rfl
    rw [e1, e2, hE.2.2.2]
    rfl
  · rw [if_neg hi]
    unfold Pt.settle
    rw [if_neg (by show ¬ (h = 0 ∧ _); omega)]
    simp [hi]
theorem tellsT {j tk wl E h : Int} (i : Nat) : (rT j tk wl E h i).tells (E + i) = decide (i % 4 = 0) := by
  unfold rT Pt.tells
  by_cases hi : i = 0
  · subst hi; rfl
  · simp only [hi, if_false, ne_eq, not_false_iff, decide_true, Bool.not_true, Bool.false_or, Bool.true_and]
    rw [decide_eq_decide]
    omega
theorem stepT {j tk wl E h : Int} (i : Nat) : (rT j tk wl E h i).step (E + i) = qT j tk wl E h (i + 1) := by
  unfold Pt.step
  rw [tellsT]
  unfold qT rT
  rw [if_neg (Nat.succ_ne_zero i)]
  by_cases hi : i % 4 = 0
  · rw [if_pos (by simpa using hi)]
    have : (E : Int) + (i : Int) = E + 4 * (((i + 1 - 1) / 4 : Nat) : Int) := by omega
    simp only [this]
  · rw [if_neg (by simpa using hi)]
    have h0 : i ≠ 0 := fun e => hi (by rw [e])
    have : (i - 1) / 4 = (i + 1 - 1) / 4 := by omega
    simp [h0, this]
theorem howT {j tk wl E h : Int} (i : Nat) : (qT j tk wl E h (i + 1)).how = h := by unfold qT; rw [if_neg (Nat.succ_ne_zero i)]
theorem keyT {j tk wl E h : Int} (i : Nat) : (qT j tk wl E h i).job = j ∧ (qT j tk wl E h i).att = 2 := by unfold qT; split <;> exact ⟨rfl, rfl⟩
theorem stays {p : Pt} (h : p.how ≠ 0) (u t : Int) : p.settle u t = p := by unfold Pt.settle; rw [if_neg (fun e => h e.1)]
/-- What Step told: perhaps a beat, perhaps a report. -/
def outT (b1 b2 : Bool) (p : Pt) : List Value := (if b1 then beatC 3 0 else []) ++ (if b2 then repC 3 p else [])
def numT (b1 b2 : Bool) : Nat := (if b1 then 1 else 0) + (if b2 then 1 else 0)
/-- A Step at a tick, of an agent with one part that settles as r. -/
theorem stepS {tk t0 a : Int} {bt : Bool} {q r : Pt} {t : Int} (ht : t0 ≤ t) (hm : t < 1099511627776) (hr : q.settle 40 t = r) :
    (sT tk t0 bt a [q]).stepA t = sT tk t true (if (sT tk t0 bt a [q]).beats t then t else a) [r.step t] ∧
    (sT tk t0 bt a [q]).stepN t = numT ((sT tk t0 bt a [q]).beats t) (r.tells t) ∧ (sT tk t0 bt a [q]).stepO t = outT ((sT tk t0 bt a [q]).beats t) (r.tells t) r := by
  obtain ⟨h1, h2, h3⟩ := stepA_up (s := sT tk t0 bt a [q]) (now := t) ⟨ht, hm⟩ rfl
  rw [h1, h2, h3]
  have hs : ((sT tk t0 bt a [q]).ticks t).settle t = sT tk t bt a [r] := by
    show ({ sT tk t bt a [q] with ps := [q.settle 40 t] } : Ag) = _
    rw [hr]
    rfl
  have hb : (sT tk t0 bt a [q]).beats t = (!bt || decide (a + 3 ≤ t)) := rfl
  have hbn : (sT tk t0 bt a [q]).beaten t = sT tk t true (if (sT tk t0 bt a [q]).beats t then t else a) [r] := by
    unfold Ag.beaten
    rw [hs]
    cases hq : (sT tk t0 bt a [q]).beats t
    · have : bt = true := by cases bt <;> simp [hb] at hq ⊢
      subst this
      simp
    · simp [sT]
  have hps : ((sT tk t0 bt a [q]).beaten t).ps = [r] := by rw [hbn]; rfl
  refine ⟨?_, ?_, ?_⟩
  · unfold Ag.steps
    rw [hbn]
    rfl
  · unfold Ag.told numT
    rw [hps]
    cases (sT tk t0 bt a [q]).beats t <;> cases ht : r.tells t <;> simp [ht]
  · unfold Ag.outs outT reps
    rw [hps]
    have e1 : (sT tk t0 bt a [q]).node = 3 := rfl
    have e2 : (sT tk t0 bt a [q]).boot = 0 := rfl
    rw [e1, e2]
    cases (sT tk t0 bt a [q]).beats t <;> cases ht : r.tells t <;> simp [ht]
/-- What a message to one part that is over does. -/
theorem hearS {tk t0 a : Int} {bt : Bool} {q : Pt} {t : Int} {v : Nat → Int} (ht : t0 ≤ t) (hm : t < 1099511627776) (hq : q.how ≠ 0) (hk : (sT tk t0 bt a [q]).hark v 0) : (sT tk t0 bt a [q]).hears v 0 t = ({ sT tk t bt a [q] with epoch := v 1 } : Ag).does v := by
  rw [hears_yes (s := sT tk t0 bt a [q]) ⟨ht, hm⟩ rfl hk]
  have hs : ((sT tk t0 bt a [q]).ticks t).settle t = sT tk t bt a [q] := by
    show ({ sT tk t bt a [q] with ps := [q.settle 40 t] } : Ag) = _
    rw [stays hq]
    rfl
  unfold Ag.heard
  rw [hs]
theorem placeT {tk t a : Int} {bt : Bool} {q : Pt} {j : Int} (hj : q.job = j) (ha : q.att = 2) : (sT tk t bt a [q]).place j 2 = some 0 := by
  unfold Ag.place
  show placeOf j 2 [(q.job, q.att)] 0 = _
  simp [placeOf, hj, ha]
theorem hearL {j tk wl : Int} {t0 a : Int} {bt : Bool} {q : Pt} {t : Int} (hj : 1 ≤ j ∧ j ≤ 100) (hw : 1 ≤ wl ∧ wl ≤ 20) (ht : t0 ≤ t) (hm : 0 ≤ t ∧ t ≤ 1000) (hq : q.how ≠ 0) (hqj : q.job = j ∧ q.att = 2) :
    (sT tk t0 bt a [q]).hears (mk 3 2 3 0 0 0 j 2 t wl 0 1 0 0 0) 0 t = sT tk t bt a [q] := by
  refine (hearS ht (by omega) hq ⟨.inr (.inl rfl), okLaunch (e := 2) (nd := 3) (by decide) (by decide) hj (by decide) ⟨hm.1, by omega⟩ ⟨hw.1, by omega⟩ (by decide) (by decide) (by decide) (by decide), rfl, by show (2 : Int) ≤ 2; decide⟩).trans ?_
  show (sT tk t bt a [q]).launch _ = _
  unfold Ag.launch
  have h1 : (sT tk t bt a [q]).place (mk 3 2 3 0 0 0 j 2 t wl 0 1 0 0 0 6) (mk 3 2 3 0 0 0 j 2 t wl 0 1 0 0 0 7) = some 0 := placeT hqj.1 hqj.2
  rw [h1]
theorem hearA {j tk : Int} {t0 a : Int} {bt : Bool} {q : Pt} {t : Int} (hj : 1 ≤ j ∧ j ≤ 100) (ht : t0 ≤ t) (hm : 0 ≤ t ∧ t ≤ 1000) (hq : q.how ≠ 0) (hqj : q.job = j ∧ q.att = 2) :
    (sT tk t0 bt a [q]).hears (mk 6 2 3 0 0 0 j 2 0 0 0 0 0 0 0) 0 t = sT tk t bt a [{ q with rep := false }] := by
  refine (hearS ht (by omega) hq ⟨.inr (.inr (.inr rfl)), okPart (e := 2) (nd := 3) (.inr rfl) (by decide) (by decide) hj (by decide), rfl, by show (2 : Int) ≤ 2; decide⟩).trans ?_
  show (sT tk t bt a [q]).ack _ = _
  unfold Ag.ack
  have h1 : (sT tk t bt a [q]).place (mk 6 2 3 0 0 0 j 2 0 0 0 0 0 0 0 6) (mk 6 2 3 0 0 0 j 2 0 0 0 0 0 0 0 7) = some 0 := placeT hqj.1 hqj.2
  rw [h1]
  show (if q.how = 0 then sT tk t bt a [q] else _) = _
  rw [if_neg hq]
  rfl
theorem hearK {j tk : Int} {t0 a : Int} {bt : Bool} {q : Pt} {t : Int} (hj : 1 ≤ j ∧ j ≤ 100) (ht : t0 ≤ t) (hm : 0 ≤ t ∧ t ≤ 1000) (hq : q.how ≠ 0) (hr : q.rep = false) (hqj : q.job = j ∧ q.att = 2) :
    (sT tk t0 bt a [q]).hears (mk 4 2 3 0 0 0 j 2 0 0 0 0 0 0 0) 0 t = sT tk t bt a [q.over q.how] := by
  refine (hearS ht (by omega) hq ⟨.inr (.inr (.inl rfl)), okPart (e := 2) (nd := 3) (.inl rfl) (by decide) (by decide) hj (by decide), rfl, by show (2 : Int) ≤ 2; decide⟩).trans ?_
  show (sT tk t bt a [q]).kill _ = _
  unfold Ag.kill
  have h1 : (sT tk t bt a [q]).place (mk 4 2 3 0 0 0 j 2 0 0 0 0 0 0 0 6) (mk 4 2 3 0 0 0 j 2 0 0 0 0 0 0 0 7) = some 0 := placeT hqj.1 hqj.2
  rw [h1]
  show (if q.how = 0 then _ else if q.rep = false then _ else _) = _
  rw [if_neg hq, if_pos hr]
  rfl
/-- Is the k-th of them a report? -/
def isRep (b1 : Bool) (k : Nat) : Bool := !b1 || decide (k = 1)
def cntR (b1 : Bool) : Nat → Nat
  | 0 => 0
  | k + 1 => cntR b1 k + (if isRep b1 k then 1 else 0)
theorem cnt_all (b1 b2 : Bool) : cntR b1 (numT b1 b2) = if b2 then 1 else 0 := by cases b1 <;> cases b2 <;> rfl
theorem out_at (b1 b2 : Bool) (p : Pt) (k o : Nat) (hk : k < numT b1 b2) (ho : o < 21) : (outT b1 b2 p)[21 * k + o]? = if isRep b1 k then (repC 3 p)[o]? else (beatC 3 0)[o]? := by
  have l1 : (beatC 3 0).length = 21 := rfl
  have l2 : (repC 3 p).length = 21 := rfl
  cases b1 <;> cases b2 <;> simp [numT] at hk
  · subst hk
    simp [outT, isRep]
  · subst hk
    simp [outT, isRep]
  · have : k = 0 ∨ k = 1 := by omega
    rcases this with rfl | rfl
    · simp only [outT, isRep, if_true]
      rw [List.getElem?_append_left (by rw [l1]; omega)]
      simp
    · simp only [outT, isRep, if_true]
      rw [List.getElem?_append_right (by rw [l1]; omega), l1]
      have : 21 * 1 + o - 21 = o := by omega
      rw [this]
      simp
theorem cnt_le (b1 : Bool) : ∀ k, cntR b1 k ≤ k
  | 0 => Nat.le_refl 0
  | k + 1 => by
    have := cnt_le b1 k
    unfold cntR
    split <;> omega
theorem runs_none {tk t a : Int} {bt : Bool} {q : Pt} (h : q.how ≠ 0) (x : Int) : (sT tk t bt a [q]).runsAt x = [] := by
  show runsOf 40 x [q] = _
  unfold runsOf
  have : q.runs 40 x = false := by unfold Pt.runs; simp [h]
  simp [this]
/-- Nothing overflows here. -/
theorem fineT {tk t a : Int} {bt : Bool} {q : Pt} (ht : 0 ≤ t ∧ t ≤ 1000) (ha : 0 ≤ a ∧ a ≤ 1000) (hq : q.d0 = 1 ∧ q.d1 = 0 ∧ q.d2 = 0 ∧ q.d3 = 0 ∧ 0 ≤ q.at_ ∧ q.at_ ≤ 1000) : Fine (sT tk t bt a [q]) 1 := by
  refine ⟨⟨ht.1, by show t ≤ _; omega⟩, fun p hp => ?_, ⟨⟨ha.1, by show a ≤ _; omega⟩, fun p hp => ?_⟩, by show 1 ≤ 1000000; omega, Nat.le_refl 1⟩
  · have : p = q := by simpa [sT] using hp
    subst this
    obtain ⟨q0, q1, q2, q3, q4⟩ := hq
    rw [q0, q1, q2, q3]
    exact ⟨by decide, by decide, by decide, by decide⟩
  · have : p = q := by simpa [sT] using hp
    subst this
    exact ⟨hq.2.2.2.2.1, by omega⟩
theorem fineQ {j tk wl E h : Int} (i : Nat) (hE : 4 ≤ E ∧ E ≤ 23) (hi : i ≤ 30) : let q := qT j tk wl E h i; q.d0 = 1 ∧ q.d1 = 0 ∧ q.d2 = 0 ∧ q.d3 = 0 ∧ 0 ≤ q.at_ ∧ q.at_ ≤ 1000 := by
  unfold qT
  split
  · exact ⟨rfl, rfl, rfl, rfl, by show (0 : Int) ≤ 0; decide, by show (0 : Int) ≤ 1000; decide⟩
  · refine ⟨rfl, rfl, rfl, rfl, ?_, ?_⟩
    · show 0 ≤ E + 4 * (((i - 1) / 4 : Nat) : Int); omega
    · show E + 4 * (((i - 1) / 4 : Nat) : Int) ≤ 1000; omega
end Go.Proofs.Ytoeamofemepgpaa
