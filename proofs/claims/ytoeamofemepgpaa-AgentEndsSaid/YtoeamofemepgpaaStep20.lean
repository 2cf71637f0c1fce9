/- Chapter 20: Step. -/
import Derived.Test.YtoeamofemepgpaaHear20
import Derived.Test.YtoeamofemepgpaaKill
import Derived.IntWalk
namespace Go.Proofs.Ytoeamofemepgpaa
open Go.RowKit Go.Shelf

/-- Is a part told now? -/
def Pt.tells (p : Pt) (now : Int) : Bool := p.rep && (!p.sent || decide (p.at_ + 4 ≤ now))
def Pt.step (p : Pt) (now : Int) : Pt := if p.tells now then { p with sent := true, at_ := now } else p
def repC (node : Int) (p : Pt) : List Value := [.int .i64 5, .int .i64 0, .int .i64 node, .int .i64 0, .int .i64 0, .int .i64 0, .int .i64 p.job, .int .i64 p.att, .int .i64 0, .int .i64 0, .int .i64 p.how, .int .i64 0, .int .i64 0, .int .i64 0, .int .i64 0, .int .i64 0, .int .i64 0, .slice none 0 0, .int .i64 0, .int .i64 0, .int .i64 0]
def beatC (node boot : Int) : List Value := [.int .i64 1, .int .i64 0, .int .i64 node, .int .i64 boot, .int .i64 0, .int .i64 0, .int .i64 0, .int .i64 0, .int .i64 0, .int .i64 0, .int .i64 0, .int .i64 0, .int .i64 0, .int .i64 0, .int .i64 0, .int .i64 0, .int .i64 0, .slice none 0 0, .int .i64 0, .int .i64 0, .int .i64 0]
def reps (node now : Int) (ps : List Pt) : List Value := (ps.filter fun p => p.tells now).flatMap (repC node)
def Ag.beats (s : Ag) (now : Int) : Bool := !s.beat || decide (s.at_ + 3 ≤ now)
/-- The agent behind the beat. -/
def Ag.beaten (s : Ag) (now : Int) : Ag := if s.beats now then { (s.ticks now).settle now with beat := true, at_ := now } else (s.ticks now).settle now
/-- The agent behind Step. -/
def Ag.steps (s : Ag) (now : Int) : Ag := { s.beaten now with ps := (s.beaten now).ps.map fun p => p.step now }
/-- How many messages Step tells, and their cells. -/
def Ag.told (s : Ag) (now : Int) : Nat := (if s.beats now then 1 else 0) + ((s.beaten now).ps.filter fun p => p.tells now).length
def Ag.outs (s : Ag) (now : Int) : List Value := (if s.beats now then beatC s.node s.boot else []) ++ reps s.node now (s.beaten now).ps
theorem reps_take {node now : Int} {ps : List Pt} {i : Nat} {p : Pt} (h : ps[i]? = some p) : reps node now (ps.take (i + 1)) = reps node now (ps.take i) ++ (if p.tells now then repC node p else []) := by
  unfold reps
  rw [List.take_add_one, h, List.filter_append, List.flatMap_append]
  cases hh : p.tells now <;> simp [hh]
theorem tells_take {now : Int} {ps : List Pt} {i : Nat} {p : Pt} (h : ps[i]? = some p) : ((ps.take (i + 1)).filter fun p => p.tells now).length = ((ps.take i).filter fun p => p.tells now).length + (if p.tells now then 1 else 0) := by
  rw [List.take_add_one, h, List.filter_append, List.length_append]
  cases hh : p.tells now <;> simp [hh]
theorem step_key (p : Pt) (t : Int) : ((p.step t).job, (p.step t).att) = (p.job, p.att) := by
  unfold Pt.step
  split <;> rfl
theorem Try.infoMsg : (Try.prog.info? 35).map (fun i => (i.zero, i.size, i.bytes)) = some (some (.agg #[.int .i64 0, .int .i64 0, .int .i64 0, .int .i64 0, .int .i64 0, .int .i64 0, .int .i64 0, .int .i64 0, .int .i64 0, .int .i64 0, .int .i64 0, .int .i64 0, .int .i64 0, .int .i64 0, .int .i64 0, .int .i64 0, .int .i64 0, .slice none 0 0, .int .i64 0, .int .i64 0, .int .i64 0]), 21, 184) := by kernel_rfl
/-- Between two rounds. -/
def StepI (w : World) (A : Nat) (L : Lay) (s2 : Ag) (now : Int) (k0 : Nat) (o0 : List Value) (i : Nat) (o : Value) (wr : World) : Prop :=
  ∃ (A2 : Option Addr) (c2 m : Nat), o = .slice A2 m c2 ∧ m = k0 + ((s2.ps.take i).filter fun p => p.tells now).length ∧
    wr.ownsRow w.heap.size 35 21 (.slice A2 m c2) m (o0 ++ reps s2.node now (s2.ps.take i)) ∧
    AgAt wr A L { s2 with ps := mid (fun p => p.step now) s2.ps i } ∧ Chg (L.own A) w wr
theorem StepI.next {w Wd w4 w5 : World} {A : Nat} {L : Lay} {s2 : Ag} {now : Int} {k0 m i b : Nat} {o0 : List Value} {A2 A4 : Option Addr} {c2 c4 : Nat} {p : Pt} (hlow : ∀ k, L.own A k → k < w.heap.size)
    (ha : AgAt Wd A L { s2 with ps := mid (fun p => p.step now) s2.ps i }) (hc : Chg (L.own A) w Wd) (hb : L.bs[i]? = some b) (hp : s2.ps[i]? = some p) (ht : p.tells now = true)
    (hm : m = k0 + ((s2.ps.take i).filter fun p => p.tells now).length)
    (hs : Chg (fun k => k = b) Wd w4) (hq : PtAt w4 b { p with sent := true, at_ := now })
    (hold : w4.ownsRow w.heap.size 35 21 (.slice A2 m c2) m (o0 ++ reps s2.node now (s2.ps.take i)))
    (hown : w5.ownsRow w.heap.size 35 21 (.slice A4 (m + 1) c4) (m + 1) ((o0 ++ reps s2.node now (s2.ps.take i)) ++ repC s2.node p))
    (hg : (w4.drew.alloc (.cells (repC s2.node p).toArray 35)).grownBy w5 (Value.slice A2 m c2).ownBlock) :
    StepI w A L s2 now k0 o0 (i + 1) (.slice A4 (m + 1) c4) w5 := by
  have hst : p.step now = { p with sent := true, at_ := now } := by unfold Pt.step; rw [if_pos ht]
  have hmi := mid_at (fun p => p.step now) s2.ps hp
  have h4 : AgAt w4 A L { s2 with ps := mid (fun p => p.step now) s2.ps (i + 1) } := by
    refine ha.setp hb hmi (q := { p with sent := true, at_ := now }) rfl ?_ hs hq
    rw [mid_succ _ _ hp, hst]
  have hr : ∀ k, (Value.slice A2 m c2).ownBlock = some k → w.heap.size ≤ k := fun k hk => (hold.lt k hk).1
  have c5 : Chg (fun k => (Value.slice A2 m c2).ownBlock = some k) w4 w5 := ((Chg.refl _ w4).drew.alloc _).grown hg (fun k hk => .inr hk)
  refine ⟨A4, c4, m + 1, rfl, by rw [tells_take hp, ht, hm]; simp; omega, ?_, h4.chg c5 (fun k hk ho => by have := hr k hk; have := hlow k ho; omega), ?_⟩
  · rw [reps_take hp, ht, if_pos rfl, ← List.append_assoc]
    exact hown
  · have hbo : L.own A b := .inr (.inr (.inr (.inr (List.mem_of_getElem? hb))))
    exact chg_on (hc.trans (hs.mono (fun k _ e => by rw [e]; exact hbo))) c5 (fun k hk e => by have := hr k e; omega)
theorem StepI.stay {w Wd : World} {A : Nat} {L : Lay} {s2 : Ag} {now : Int} {k0 i : Nat} {o0 : List Value} {o : Value} {p : Pt} (h : StepI w A L s2 now k0 o0 i o Wd) (hp : s2.ps[i]? = some p) (ht : p.tells now = false) : StepI w A L s2 now k0 o0 (i + 1) o Wd := by
  obtain ⟨A2, c2, m, rfl, hm, ho, ha, hc⟩ := h
  have hst : p.step now = p := by unfold Pt.step; rw [ht]; simp
  refine ⟨A2, c2, m, rfl, by rw [tells_take hp, ht, hm]; simp, by rw [reps_take hp, ht]; simpa using ho, ?_, hc⟩
  have hmi := mid_at (fun p => p.step now) s2.ps hp
  rw [mid_succ _ _ hp, hst]
  have e : (mid (fun p => p.step now) s2.ps i).set i p = mid (fun p => p.step now) s2.ps i := by
    apply List.ext_getElem?
    intro j
    rw [List.getElem?_set]
    by_cases e : i = j
    · subst e
      rw [if_pos rfl, hmi, if_pos (List.getElem?_eq_some_iff.1 hmi).1]
    · rw [if_neg e]
  rw [e]
  exact ha
/-- What Step answers. -/
def StepPost (w : World) (A : Nat) (L : Lay) (s : Ag) (now : Int) (e : Ending) (w' : World) : Prop :=
  ∃ A2 c2, e = .returned (.slice A2 (s.told now) c2) ∧ w'.ownsRow w.heap.size 35 21 (.slice A2 (s.told now) c2) (s.told now) (s.outs now) ∧ AgAt w' A L (s.steps now) ∧ Chg (L.own A) w w'
/-- Ticks that an agent keeps are none that could overflow. -/
def Ats (s : Ag) : Prop := (0 ≤ s.at_ ∧ s.at_ ≤ 2199023255552) ∧ ∀ p ∈ s.ps, 0 ≤ p.at_ ∧ p.at_ ≤ 2199023255552
theorem step_down (w : World) {A : Nat} {L : Lay} {s : Ag} (h : AgAt w A L s) (now : Int) (h0 : ¬ now < s.tick) (hn : ¬ (1099511627776 : Int) ≤ now) (hup : s.up = false) :
    Calls Try.prog 13 #[.pointer (some ⟨A, 0, none⟩), .int .i64 now] w fun e w' => e = .returned (.slice none 0 0) ∧ AgAt w' A L (s.ticks now) ∧ Chg (L.own A) w w' := by
  have c7 : w.cell? ⟨A, 7, none⟩ = some (.int .i64 s.tick) := cellb (i := 7) h.blk rfl
  have HCL := Lib.hid (clock_ok w A now s.tick c7 (fzb h.blk 7) h0 hn)
  have q := h.set (i := 7) (v := .int .i64 now) (s' := s.ticks now) (by simp [Ag.ticks]) rfl rfl h.booted
  have HA2 : Hid (AgAt (w.setCell ⟨A, 7, none⟩ (.int .i64 now)) A L (s.ticks now)) := Lib.hid q.1
  have HC2 : Hid (Chg (L.own A) w (w.setCell ⟨A, 7, none⟩ (.int .i64 now))) := Lib.hid (q.2.mono (fun k _ e => .inl e))
  clear q c7 h
  go_enter Try.func13, Try.ntmps13
  go_wp2_with fail
  refine HCL.out.mono ?_
  clear HCL
  rintro e w' ⟨rfl, rfl⟩
  generalize w.setCell ⟨A, 7, none⟩ (.int .i64 now) = w2 at *
  have c6 : w2.cell? ⟨A, 6, none⟩ = some (.bool false) := by rw [← hup]; exact cellb (i := 6) HA2.out.blk rfl
  go_wp2_with fail
  go_ret
  exact ⟨rfl, HA2.out, HC2.out⟩
set_option maxRecDepth 10000 in
set_option maxHeartbeats 8000000 in
theorem step_mute (w : World) {A : Nat} {L : Lay} {s : Ag} (h : AgAt w A L s) (now : Int) (h0 : ¬ now < s.tick) (hn : ¬ (1099511627776 : Int) ≤ now) (hup : s.up = true) (hln : s.ps.length ≤ 1000000) (hats : Ats s) (hb1 : s.beat = true) (hb2 : ¬ s.at_ + 3 ≤ now) :
    Calls Try.prog 13 #[.pointer (some ⟨A, 0, none⟩), .int .i64 now] w fun e w' => StepPost w A L s now e w' := by
  obtain ⟨iM, hiM, hz0, hz1, hz2⟩ := info_parts Try.infoMsg
  have hbt : s.beats now = false := by simp [Ag.beats, hb1]; omega
  have hlow : ∀ k, L.own A k → k < w.heap.size := fun k hk => h.own_lt hk
  have c7 : w.cell? ⟨A, 7, none⟩ = some (.int .i64 s.tick) := cellb (i := 7) h.blk rfl
  have HCL := Lib.hid (clock_ok w A now s.tick c7 (fzb h.blk 7) h0 hn)
  have q := h.set (i := 7) (v := .int .i64 now) (s' := s.ticks now) (by simp [Ag.ticks]) rfl rfl h.booted
  have HA2 : Hid (AgAt (w.setCell ⟨A, 7, none⟩ (.int .i64 now)) A L (s.ticks now)) := Lib.hid q.1
  have HC2 : Hid (Chg (L.own A) w (w.setCell ⟨A, 7, none⟩ (.int .i64 now))) := Lib.hid (q.2.mono (fun k _ e => .inl e))
  have hlen : (s.ticks now).ps.length ≤ 100000000 := by show s.ps.length ≤ _; omega
  have HLOW := Lib.hid hlow
  have HATS := Lib.hid hats
  have HB1 := Lib.hid hb1
  have HBEAT := Lib.hid hbt
  clear q c7 h hlow hats hb1 hbt
  go_enter Try.func13, Try.ntmps13
  go_upto_region 3 with (go_at_call 23; refine HCL.out.mono ?_; clear HCL; rintro e w' ⟨rfl, rfl⟩; generalize w.setCell ⟨A, 7, none⟩ (.int .i64 now) = w2 at *; have c6 : w2.cell? ⟨A, 6, none⟩ = some (.bool true) := by rw [← hup]; exact cellb (i := 6) HA2.out.blk rfl)
  clear c6
  go_upto_region 4 with (go_at_call 24; refine (settle_ag w2 HA2.out hlen now).mono ?_; rintro e w3 ⟨⟨r3, rfl⟩, ha3, hc3⟩; have HA3 := Lib.hid ha3; have HC3 := Lib.hid (HC2.out.trans hc3); clear ha3 hc3)
  clear HA2 HC2 hlen
  have c13 : w3.cell? ⟨A, 13, none⟩ = some (.int .i64 s.at_) := cellb (i := 13) HA3.out.blk rfl
  have hw3 : IntKind.i64.wrap (s.at_ + 3) = s.at_ + 3 := IntWalk.i64_in _ (by have := HATS.out.1; omega)
  have c12 : w3.cell? ⟨A, 12, none⟩ = some (.bool true) := by rw [← HB1.out]; exact cellb (i := 12) HA3.out.blk rfl
  have HBT : Hid (s.beaten now = (s.ticks now).settle now) := Lib.hid (by unfold Ag.beaten; rw [HBEAT.out]; simp)
  have HTD : Hid (s.told now = 0 + ((s.beaten now).ps.filter fun p => p.tells now).length) := Lib.hid (by unfold Ag.told; rw [HBEAT.out]; simp)
  have HOT : Hid (s.outs now = [] ++ reps s.node now (s.beaten now).ps) := Lib.hid (by unfold Ag.outs; rw [HBEAT.out]; simp)
  go_upto_region 8 with fail
  clear c12 c13 hw3 hb2
  have HAB : Hid (AgAt w3 A L (s.beaten now)) := Lib.hid (by rw [HBT.out]; exact HA3.out)
  have HI : Hid (StepI w A L (s.beaten now) now 0 [] 0 (.slice none 0 0) w3) := Lib.hid ⟨none, 0, 0, rfl, by simp, ⟨by simp [reps], .inl ⟨rfl, rfl⟩⟩, by rw [mid_zero]; exact HAB.out, HC3.out⟩
  clear HA3 HC3
  generalize w3 = W at *
  have hnode : (s.beaten now).node = s.node := by rw [HBT.out]; rfl
  have HND := Lib.hid hnode
  have hbl : (s.beaten now).ps.length = s.ps.length := by rw [HBT.out]; simp [Ag.settle, Ag.ticks]
  have hln2 : L.n = (s.beaten now).ps.length := by rw [HAB.out.blen, HAB.out.plen]
  have HN2 := Lib.hid hln2
  have hnb : L.n ≤ 1000000 := by omega
  have hpat : ∀ p ∈ (s.beaten now).ps, 0 ≤ p.at_ ∧ p.at_ ≤ 2199023255552 := by
    intro p hp
    have e : (s.beaten now).ps = s.ps.map fun p => p.settle s.until_ now := by rw [HBT.out]; rfl
    rw [e] at hp
    obtain ⟨q, hq, rfl⟩ := List.mem_map.1 hp
    have := HATS.out.2 q hq
    unfold Pt.settle Pt.over
    split <;> exact this
  have HPAT := Lib.hid hpat
  obtain ⟨rb, hrb⟩ := HAB.out.rb
  obtain ⟨RA, hRA⟩ : ∃ x, x = L.RA := ⟨_, rfl⟩
  rw [← hRA] at hrb
  have HRA := Lib.hid hRA
  have HRB := Lib.hid hrb
  have c15 : W.cell? ⟨A, 15, none⟩ = some (.slice RA L.n L.c) := by rw [hRA]; exact cellb (i := 15) HAB.out.blk rfl
  obtain ⟨s2, hs2⟩ : ∃ x, x = s.beaten now := ⟨_, rfl⟩
  rw [← hs2] at HI HND HN2 HPAT HTD HOT
  have HS2 := Lib.hid hs2
  obtain ⟨n, hnq⟩ : ∃ x, x = L.n := ⟨_, rfl⟩
  rw [← hnq] at c15 hnb HN2
  have HNQ := Lib.hid hnq
  clear hnode hbl hln2 hpat hRA hrb hs2 hnq HAB hln
  go_wp2_with fail
  go_loopw [5, 60] (fun o v wr => ∃ i : Nat, i ≤ n ∧ v = .int .i64 i ∧ Hid (StepI w A L s2 now 0 ([]) i o wr)) (fun _ v _ => n - (intOf v).toNat)
  case atStart => exact ⟨0, Nat.zero_le _, rfl, HI⟩
  case round =>
    obtain ⟨i, hi, rfl, HJ⟩ := hrel
    obtain ⟨A2, c2, m, rfl, hm, hown, ha, hc⟩ := HJ.out
    by_cases hin : i < n
    · have hi0 : (0 : Int) ≤ (i : Int) := by omega
      have hi1 : (i : Int) < (n : Int) := by omega
      have hlt : i < s2.ps.length := by have := HN2.out; omega
      obtain ⟨p, hp⟩ : ∃ p, s2.ps[i]? = some p := ⟨_, List.getElem?_eq_getElem hlt⟩
      have hmi : (mid (fun p => p.step now) s2.ps i)[i]? = some p := mid_at _ _ hp
      obtain ⟨b, hb, hpt⟩ := bs_at ha hmi
      have hcr : RA = some ⟨rb, 0, none⟩ ∧ wr.cell? ⟨rb, i, none⟩ = some (.pointer (some ⟨b, 0, none⟩)) := by
        rcases ha.row.2 with ⟨hv, h3⟩ | ⟨g, cap, cur, hv, _, hg, _⟩
        · have := HNQ.out; omega
        · injection hv with e1
          have e2 : RA = some ⟨g, 0, none⟩ := by rw [HRA.out, e1]
          rcases HRB.out with e | e
          · rw [e2] at e; cases e
          · have e3 := e2.symm.trans e
            injection e3 with e3; injection e3 with e3
            subst e3
            refine ⟨e2, ?_⟩
            have hcell := ha.row.cells (g := g) (by rw [e1]; rfl) i (.pointer (some ⟨b, 0, none⟩)) (by simp [hb])
            rwa [Addr.add_lit, Nat.zero_add] at hcell
      obtain ⟨hra, hptr⟩ := hcr
      subst hra
      have hm3 : m ≤ 1000001 := by
        rw [hm]
        have := List.length_filter_le (fun p => Pt.tells p now) (s2.ps.take i)
        have h2 : (s2.ps.take i).length ≤ i := by rw [List.length_take]; omega
        omega
      have hab := HPAT.out p (List.mem_of_getElem? hp)
      have hw4 : IntKind.i64.wrap (p.at_ + 4) = p.at_ + 4 := IntWalk.i64_in _ (by omega)
      have HHA := Lib.hid ha
      have HHC := Lib.hid hc
      have HOWN := Lib.hid hown
      have HM := Lib.hid hm
      have HPT := Lib.hid hpt
      have k12 : wr.cell? ⟨b, 12, none⟩ = some (.int .i64 p.at_) := cellb (i := 12) hpt rfl
      have hle : w.heap.size ≤ wr.heap.size := hc.size
      clear ha hc hown hm hpt hmi HRB
      cases hrep : p.rep
      · have k10 : wr.cell? ⟨b, 10, none⟩ = some (.bool false) := by rw [← hrep]; exact cellb (i := 10) HPT.out rfl
        have HT : Hid (p.tells now = false) := Lib.hid (by simp [Pt.tells, hrep])
        clear hrep
        go_wp2_with fail
        go_roundw
        case rel => exact ⟨i + 1, by omega, by go_num, Lib.hid (HJ.out.stay hp HT.out)⟩
        case measure => simp [intOf]; omega
      · have k10 : wr.cell? ⟨b, 10, none⟩ = some (.bool true) := by rw [← hrep]; exact cellb (i := 10) HPT.out rfl
        by_cases hso : p.sent = true ∧ ¬ p.at_ + 4 ≤ now
        · obtain ⟨hsent, hat⟩ := hso
          have k11 : wr.cell? ⟨b, 11, none⟩ = some (.bool true) := by rw [← hsent]; exact cellb (i := 11) HPT.out rfl
          have HT : Hid (p.tells now = false) := Lib.hid (by simp [Pt.tells, hrep, hsent]; omega)
          clear hrep hsent
          go_wp2_with fail
          go_roundw
          case rel => exact ⟨i + 1, by omega, by go_num, Lib.hid (HJ.out.stay hp HT.out)⟩
          case measure => simp [intOf]; omega
        · cases hsent : p.sent
          · skip
            have k11 : wr.cell? ⟨b, 11, none⟩ = some (.bool false) := by rw [← hsent]; exact cellb (i := 11) HPT.out rfl
            have HT : Hid (p.tells now = true) := Lib.hid (by simp [Pt.tells, hrep, hsent])
            have k11' : wr.cell? ⟨b, 11, none⟩ = some (.bool p.sent) := cellb (i := 11) HPT.out rfl
            have z11 : wr.frozen? ⟨b, 11, none⟩ = false := fzb HPT.out 11
            have z12 : wr.frozen? ⟨b, 12, none⟩ = false := fzb HPT.out 12
            have b1 := set_blk (i := 11) (show wr.heap[b]? = _ from HPT.out) (.bool true)
            have b2 := set_blk (i := 12) b1 (.int .i64 now)
            have j12 : (wr.setCell ⟨b, 11, none⟩ (.bool true)).cell? ⟨b, 12, none⟩ = some (.int .i64 p.at_) := cellb (i := 12) b1 rfl
            have zj12 : (wr.setCell ⟨b, 11, none⟩ (.bool true)).frozen? ⟨b, 12, none⟩ = false := by rw [show ({ block := b, off := 12 } : Addr) = ⟨b, 12, none⟩ from rfl]; exact fzb b1 12
            have c1 : Chg (fun k => k = b) wr (wr.setCell ⟨b, 11, none⟩ (.bool true)) := (Chg.refl (fun k => k = b) wr).setCell (p := ⟨b, 11, none⟩) (.inr rfl) _
            have c2' := c1.setCell (p := ⟨b, 12, none⟩) (.inr rfl) (.int .i64 now)
            have HS := Lib.hid c2'
            have HQ : Hid (PtAt ((wr.setCell ⟨b, 11, none⟩ (.bool true)).setCell ⟨b, 12, none⟩ (.int .i64 now)) b { p with sent := true, at_ := now }) := Lib.hid (by unfold PtAt; rw [b2]; simp)
            clear b1 b2 c1 c2' hrep hsent k11'
            go_upto_region 13 with fail
            clear k10 k11 k12 hptr z11 z12 j12 zj12
            generalize (wr.setCell ⟨b, 11, none⟩ (.bool true)).setCell ⟨b, 12, none⟩ (.int .i64 now) = w4 at *
            have hbA : b ≠ A := ne_tag HPT.out HHA.out.blk (by simp [otag])
            have HA4 : Hid (w4.heap[A]? = some (.cells (({ s2 with ps := mid (fun p => p.step now) s2.ps i } : Ag).cells L) 60 (0, 0))) := Lib.hid ((HS.out.block A HHA.out.lt (fun e => hbA e.symm)).trans HHA.out.blk)
            have HOB : Hid (∀ k, (Value.slice A2 m c2).ownBlock = some k → w.heap.size ≤ k) := Lib.hid (fun k hk => (HOWN.out.lt k hk).1)
            have hown4 : Hid (w4.ownsRow w.heap.size 35 21 (.slice A2 m c2) m (([]) ++ reps s2.node now (s2.ps.take i))) := Lib.hid (HS.out.own HOWN.out (fun k hk e => by
              obtain ⟨cur, f, e0⟩ := own_elem HOWN.out hk
              exact ne_tag e0 HPT.out (by simp [otag]) e))
            have hle4 : w.heap.size ≤ w4.heap.size := Nat.le_trans hle HS.out.size
            have hbo : L.own A b := .inr (.inr (.inr (.inr (List.mem_of_getElem? hb))))
            have f0 : w4.drew.cell? ⟨A, 0, none⟩ = some (.int .i64 s.node) := by rw [← HND.out]; exact cellb (i := 0) HA4.out rfl
            have g0 : w4.drew.cell? ⟨b, 0, none⟩ = some (.int .i64 p.job) := cellb (i := 0) HQ.out rfl
            have g1 : w4.drew.cell? ⟨b, 1, none⟩ = some (.int .i64 p.att) := cellb (i := 1) HQ.out rfl
            have g9 : w4.drew.cell? ⟨b, 9, none⟩ = some (.int .i64 p.how) := cellb (i := 9) HQ.out rfl
            have HOD : Hid (w4.drew.ownsRow w.heap.size 35 21 (.slice A2 m c2) m (([]) ++ reps s2.node now (s2.ps.take i))) := hown4
            have HDZ : Hid (w4.drew.heap.size = w4.heap.size) := Lib.hid rfl
            have HD4 : Hid (Chg (fun k => k = b) w4 w4.drew) := Lib.hid (Chg.refl _ w4).drew
            have HNX : Hid (∀ A4 c4 w5, w5.ownsRow w.heap.size 35 21 (.slice A4 (m + 1) c4) (m + 1) ((([]) ++ reps s2.node now (s2.ps.take i)) ++ [.int .i64 5, .int .i64 0, .int .i64 s.node, .int .i64 0, .int .i64 0, .int .i64 0, .int .i64 p.job, .int .i64 p.att, .int .i64 0, .int .i64 0, .int .i64 p.how, .int .i64 0, .int .i64 0, .int .i64 0, .int .i64 0, .int .i64 0, .int .i64 0, .slice none 0 0, .int .i64 0, .int .i64 0, .int .i64 0]) → (w4.drew.alloc (.cells #[.int .i64 5, .int .i64 0, .int .i64 s.node, .int .i64 0, .int .i64 0, .int .i64 0, .int .i64 p.job, .int .i64 p.att, .int .i64 0, .int .i64 0, .int .i64 p.how, .int .i64 0, .int .i64 0, .int .i64 0, .int .i64 0, .int .i64 0, .int .i64 0, .slice none 0 0, .int .i64 0, .int .i64 0, .int .i64 0] 35)).grownBy w5 (Value.slice A2 m c2).ownBlock → StepI w A L s2 now 0 ([]) (i + 1) (.slice A4 (m + 1) c4) w5) := Lib.hid (fun A4 c4 w5 ho hg => by
              have e : repC s2.node p = [.int .i64 5, .int .i64 0, .int .i64 s.node, .int .i64 0, .int .i64 0, .int .i64 0, .int .i64 p.job, .int .i64 p.att, .int .i64 0, .int .i64 0, .int .i64 p.how, .int .i64 0, .int .i64 0, .int .i64 0, .int .i64 0, .int .i64 0, .int .i64 0, .slice none 0 0, .int .i64 0, .int .i64 0, .int .i64 0] := by rw [HND.out]; rfl
              exact StepI.next HLOW.out HHA.out HHC.out hb hp HT.out HM.out HS.out HQ.out hown4.out (by rw [e]; exact ho) (by rw [e]; exact hg))
            clear hown4 HOWN
            refine wp_region_noPanic ?_
            refine wp_region_held_drew (S := fun w' => w'.cell? ⟨A, 0, none⟩ = some (.int .i64 s.node) ∧ w'.cell? ⟨b, 0, none⟩ = some (.int .i64 p.job) ∧ w'.cell? ⟨b, 1, none⟩ = some (.int .i64 p.att) ∧ w'.cell? ⟨b, 9, none⟩ = some (.int .i64 p.how)) (by kernel_rfl) ?_ (fun hHeld => ?_)
            · try dsimp only
              (refine ⟨?_, ?_, ?_, ?_⟩ <;> (first | with_reducible assumption))
            have HEQ : Hid (w4.drew.heap[A]? = w4.heap[A]?) := Lib.hid rfl
            have HWF : Hid (w4.drew.cell? ⟨A, 0, none⟩ = some (.int .i64 s.node) ∧ w4.drew.cell? ⟨b, 0, none⟩ = some (.int .i64 p.job) ∧ w4.drew.cell? ⟨b, 1, none⟩ = some (.int .i64 p.att) ∧ w4.drew.cell? ⟨b, 9, none⟩ = some (.int .i64 p.how)) := Lib.hid hHeld
            generalize w4.drew = Wd at *
            refine tk 0 ?_
            try simp only [Act.put, p1, p2, p3]
            refine tk 1 ?_
            try simp only [Act.put, p1, p2, p3]
            refine tk 2 ?_
            try simp only [Act.put, p1, p2, p3]
            refine tk 3 ?_
            try simp only [Act.put, p1, p2, p3]
            refine tk 4 ?_
            try simp only [Act.put, p1, p2, p3]
            refine tk 5 ?_
            try simp only [Act.put, p1, p2, p3]
            refine tk 6 ?_
            try simp only [Act.put, p1, p2, p3]
            refine tk 7 ?_
            try simp only [Act.put, p1, p2, p3]
            refine tk 8 ?_
            try simp only [Act.put, p1, p2, p3]
            refine tk 9 ?_
            try simp only [Act.put, p1, p2, p3]
            refine tk 10 ?_
            try simp only [Act.put, p1, p2, p3]
            refine tk 11 ?_
            try simp only [Act.put, p1, p2, p3]
            refine tk 12 ?_
            try simp only [Act.put, p1, p2, p3]
            refine tk 13 ?_
            try simp only [Act.put, p1, p2, p3]
            refine tk 14 ?_
            try simp only [Act.put, p1, p2, p3]
            refine tk 15 ?_
            try simp only [Act.put, p1, p2, p3]
            refine tk 16 ?_
            try simp only [Act.put, p1, p2, p3]
            refine tk 17 ?_
            try simp only [Act.put, p1, p2, p3]
            refine tk 18 ?_
            try simp only [Act.put, p1, p2, p3]
            refine tk 19 ?_
            try simp only [Act.put, p1, p2, p3]
            refine rd 20 fun K hK => ?_
            go_simp
            have f0' : (Wd.alloc (.cells #[.int .i64 5, .int .i64 0, .int .i64 s.node, .int .i64 0, .int .i64 0, .int .i64 0, .int .i64 p.job, .int .i64 p.att, .int .i64 0, .int .i64 0, .int .i64 p.how, .int .i64 0, .int .i64 0, .int .i64 0, .int .i64 0, .int .i64 0, .int .i64 0, .slice none 0 0, .int .i64 0, .int .i64 0, .int .i64 0] 35)).cell? ⟨A, 0, none⟩ = some (.int .i64 s.node) := keepA f0
            have g0' : (Wd.alloc (.cells #[.int .i64 5, .int .i64 0, .int .i64 s.node, .int .i64 0, .int .i64 0, .int .i64 0, .int .i64 p.job, .int .i64 p.att, .int .i64 0, .int .i64 0, .int .i64 p.how, .int .i64 0, .int .i64 0, .int .i64 0, .int .i64 0, .int .i64 0, .int .i64 0, .slice none 0 0, .int .i64 0, .int .i64 0, .int .i64 0] 35)).cell? ⟨b, 0, none⟩ = some (.int .i64 p.job) := keepA g0
            have g1' : (Wd.alloc (.cells #[.int .i64 5, .int .i64 0, .int .i64 s.node, .int .i64 0, .int .i64 0, .int .i64 0, .int .i64 p.job, .int .i64 p.att, .int .i64 0, .int .i64 0, .int .i64 p.how, .int .i64 0, .int .i64 0, .int .i64 0, .int .i64 0, .int .i64 0, .int .i64 0, .slice none 0 0, .int .i64 0, .int .i64 0, .int .i64 0] 35)).cell? ⟨b, 1, none⟩ = some (.int .i64 p.att) := keepA g1
            have g9' : (Wd.alloc (.cells #[.int .i64 5, .int .i64 0, .int .i64 s.node, .int .i64 0, .int .i64 0, .int .i64 0, .int .i64 p.job, .int .i64 p.att, .int .i64 0, .int .i64 0, .int .i64 p.how, .int .i64 0, .int .i64 0, .int .i64 0, .int .i64 0, .int .i64 0, .int .i64 0, .slice none 0 0, .int .i64 0, .int .i64 0, .int .i64 0] 35)).cell? ⟨b, 9, none⟩ = some (.int .i64 p.how) := keepA g9
            clear f0 g0 g1 g9
            refine hK.out _ _ ?_ (fun hHeld => ?_)
            · try dsimp only
              (refine ⟨?_, ?_, ?_, ?_⟩ <;> (first | with_reducible assumption))
            clear hK K
            try simp only [Act.put, p1, p2, p3]
            refine rd 21 fun K hK => ?_
            refine step_append_row _ rfl (.tmp 91) (.tmp 111) _ rfl w.heap.size 35 iM _ 21 184 Try.underlying38 hiM hz0 hz1 hz2 rfl (by omega) A2 m c2 (([]) ++ reps s2.node now (s2.ps.take i)) rfl (HOD.out.alloc _) (Wd.heap.size + 1) (some ⟨Wd.heap.size, 0, none⟩) 1 1 [.int .i64 5, .int .i64 0, .int .i64 s.node, .int .i64 0, .int .i64 0, .int .i64 0, .int .i64 p.job, .int .i64 p.att, .int .i64 0, .int .i64 0, .int .i64 p.how, .int .i64 0, .int .i64 0, .int .i64 0, .int .i64 0, .int .i64 0, .int .i64 0, .slice none 0 0, .int .i64 0, .int .i64 0, .int .i64 0] rfl (cellsIn_alloc Wd #[.int .i64 5, .int .i64 0, .int .i64 s.node, .int .i64 0, .int .i64 0, .int .i64 0, .int .i64 p.job, .int .i64 p.att, .int .i64 0, .int .i64 0, .int .i64 p.how, .int .i64 0, .int .i64 0, .int .i64 0, .int .i64 0, .int .i64 0, .int .i64 0, .slice none 0 0, .int .i64 0, .int .i64 0, .int .i64 0] 35 (0, 0) 21 1 rfl) (by simp [Value.oneCell']) (by unfold maxLen; omega) (by omega) (by have := HDZ.out; simp; omega) ?_
            intro A4 c4 w5 hown hg hor
            have HN := Lib.hid (HNX.out A4 c4 w5 hown hg)
            have c5 : Chg (fun k => (Value.slice A2 m c2).ownBlock = some k) Wd w5 := ((Chg.refl _ Wd).alloc _).grown hg (fun k hk => .inr hk)
            have hA5 : A < w.heap.size := HLOW.out A (.inl rfl)
            have hb5 : b < w.heap.size := HLOW.out b hbo
            have nb : ¬ (Value.slice A2 m c2).ownBlock = some b := fun e => by have := HOB.out b e; omega
            have nA : ¬ (Value.slice A2 m c2).ownBlock = some A := fun e => by have := HOB.out A e; omega
            skip
            have i0 : Wd.cell? ⟨A, 0, none⟩ = some (.int .i64 s.node) := HWF.out.1
            have i1 : Wd.cell? ⟨b, 0, none⟩ = some (.int .i64 p.job) := HWF.out.2.1
            have i2 : Wd.cell? ⟨b, 1, none⟩ = some (.int .i64 p.att) := HWF.out.2.2.1
            have i3 : Wd.cell? ⟨b, 9, none⟩ = some (.int .i64 p.how) := HWF.out.2.2.2
            have n0 : w5.cell? ⟨A, 0, none⟩ = some (.int .i64 s.node) := c5.cell i0 nA
            have n1 : w5.cell? ⟨b, 0, none⟩ = some (.int .i64 p.job) := c5.cell i1 nb
            have n2 : w5.cell? ⟨b, 1, none⟩ = some (.int .i64 p.att) := c5.cell i2 nb
            have n3 : w5.cell? ⟨b, 9, none⟩ = some (.int .i64 p.how) := c5.cell i3 nb
            clear hown hg hor c5 i0 i1 i2 i3 f0' g0' g1' g9'
            refine hK.out _ _ ?_ (fun hHeld => ?_)
            · try dsimp only
              (refine ⟨?_, ?_, ?_, ?_⟩ <;> (first | with_reducible assumption))
            clear hK K
            try simp only [Act.put, p1, p2, p3]
            refine tk 22 ?_
            try simp only [Act.put, p1, p2, p3]
            refine wpAnyH_done (by kernel_rfl) ?_ _
            refine NoPanic.normal ?_
            clear hHeld n0 n1 n2 n3
            go_wp2_with fail
            go_roundw
            case rel => exact ⟨i + 1, by omega, by go_num, HN⟩
            case measure => simp [intOf]; omega
          · skip
            have k11 : wr.cell? ⟨b, 11, none⟩ = some (.bool true) := by rw [← hsent]; exact cellb (i := 11) HPT.out rfl
            have hat : p.at_ + 4 ≤ now := Classical.byContradiction (fun e => hso ⟨hsent, e⟩)
            have HT : Hid (p.tells now = true) := Lib.hid (by simp [Pt.tells, hrep, hsent]; omega)
            have k11' : wr.cell? ⟨b, 11, none⟩ = some (.bool p.sent) := cellb (i := 11) HPT.out rfl
            have z11 : wr.frozen? ⟨b, 11, none⟩ = false := fzb HPT.out 11
            have z12 : wr.frozen? ⟨b, 12, none⟩ = false := fzb HPT.out 12
            have b1 := set_blk (i := 11) (show wr.heap[b]? = _ from HPT.out) (.bool true)
            have b2 := set_blk (i := 12) b1 (.int .i64 now)
            have j12 : (wr.setCell ⟨b, 11, none⟩ (.bool true)).cell? ⟨b, 12, none⟩ = some (.int .i64 p.at_) := cellb (i := 12) b1 rfl
            have zj12 : (wr.setCell ⟨b, 11, none⟩ (.bool true)).frozen? ⟨b, 12, none⟩ = false := by rw [show ({ block := b, off := 12 } : Addr) = ⟨b, 12, none⟩ from rfl]; exact fzb b1 12
            have c1 : Chg (fun k => k = b) wr (wr.setCell ⟨b, 11, none⟩ (.bool true)) := (Chg.refl (fun k => k = b) wr).setCell (p := ⟨b, 11, none⟩) (.inr rfl) _
            have c2' := c1.setCell (p := ⟨b, 12, none⟩) (.inr rfl) (.int .i64 now)
            have HS := Lib.hid c2'
            have HQ : Hid (PtAt ((wr.setCell ⟨b, 11, none⟩ (.bool true)).setCell ⟨b, 12, none⟩ (.int .i64 now)) b { p with sent := true, at_ := now }) := Lib.hid (by unfold PtAt; rw [b2]; simp)
            clear b1 b2 c1 c2' hrep hsent k11'
            go_upto_region 13 with fail
            clear k10 k11 k12 hptr z11 z12 j12 zj12
            generalize (wr.setCell ⟨b, 11, none⟩ (.bool true)).setCell ⟨b, 12, none⟩ (.int .i64 now) = w4 at *
            have hbA : b ≠ A := ne_tag HPT.out HHA.out.blk (by simp [otag])
            have HA4 : Hid (w4.heap[A]? = some (.cells (({ s2 with ps := mid (fun p => p.step now) s2.ps i } : Ag).cells L) 60 (0, 0))) := Lib.hid ((HS.out.block A HHA.out.lt (fun e => hbA e.symm)).trans HHA.out.blk)
            have HOB : Hid (∀ k, (Value.slice A2 m c2).ownBlock = some k → w.heap.size ≤ k) := Lib.hid (fun k hk => (HOWN.out.lt k hk).1)
            have hown4 : Hid (w4.ownsRow w.heap.size 35 21 (.slice A2 m c2) m (([]) ++ reps s2.node now (s2.ps.take i))) := Lib.hid (HS.out.own HOWN.out (fun k hk e => by
              obtain ⟨cur, f, e0⟩ := own_elem HOWN.out hk
              exact ne_tag e0 HPT.out (by simp [otag]) e))
            have hle4 : w.heap.size ≤ w4.heap.size := Nat.le_trans hle HS.out.size
            have hbo : L.own A b := .inr (.inr (.inr (.inr (List.mem_of_getElem? hb))))
            have f0 : w4.drew.cell? ⟨A, 0, none⟩ = some (.int .i64 s.node) := by rw [← HND.out]; exact cellb (i := 0) HA4.out rfl
            have g0 : w4.drew.cell? ⟨b, 0, none⟩ = some (.int .i64 p.job) := cellb (i := 0) HQ.out rfl
            have g1 : w4.drew.cell? ⟨b, 1, none⟩ = some (.int .i64 p.att) := cellb (i := 1) HQ.out rfl
            have g9 : w4.drew.cell? ⟨b, 9, none⟩ = some (.int .i64 p.how) := cellb (i := 9) HQ.out rfl
            have HOD : Hid (w4.drew.ownsRow w.heap.size 35 21 (.slice A2 m c2) m (([]) ++ reps s2.node now (s2.ps.take i))) := hown4
            have HDZ : Hid (w4.drew.heap.size = w4.heap.size) := Lib.hid rfl
            have HD4 : Hid (Chg (fun k => k = b) w4 w4.drew) := Lib.hid (Chg.refl _ w4).drew
            have HNX : Hid (∀ A4 c4 w5, w5.ownsRow w.heap.size 35 21 (.slice A4 (m + 1) c4) (m + 1) ((([]) ++ reps s2.node now (s2.ps.take i)) ++ [.int .i64 5, .int .i64 0, .int .i64 s.node, .int .i64 0, .int .i64 0, .int .i64 0, .int .i64 p.job, .int .i64 p.att, .int .i64 0, .int .i64 0, .int .i64 p.how, .int .i64 0, .int .i64 0, .int .i64 0, .int .i64 0, .int .i64 0, .int .i64 0, .slice none 0 0, .int .i64 0, .int .i64 0, .int .i64 0]) → (w4.drew.alloc (.cells #[.int .i64 5, .int .i64 0, .int .i64 s.node, .int .i64 0, .int .i64 0, .int .i64 0, .int .i64 p.job, .int .i64 p.att, .int .i64 0, .int .i64 0, .int .i64 p.how, .int .i64 0, .int .i64 0, .int .i64 0, .int .i64 0, .int .i64 0, .int .i64 0, .slice none 0 0, .int .i64 0, .int .i64 0, .int .i64 0] 35)).grownBy w5 (Value.slice A2 m c2).ownBlock → StepI w A L s2 now 0 ([]) (i + 1) (.slice A4 (m + 1) c4) w5) := Lib.hid (fun A4 c4 w5 ho hg => by
              have e : repC s2.node p = [.int .i64 5, .int .i64 0, .int .i64 s.node, .int .i64 0, .int .i64 0, .int .i64 0, .int .i64 p.job, .int .i64 p.att, .int .i64 0, .int .i64 0, .int .i64 p.how, .int .i64 0, .int .i64 0, .int .i64 0, .int .i64 0, .int .i64 0, .int .i64 0, .slice none 0 0, .int .i64 0, .int .i64 0, .int .i64 0] := by rw [HND.out]; rfl
              exact StepI.next HLOW.out HHA.out HHC.out hb hp HT.out HM.out HS.out HQ.out hown4.out (by rw [e]; exact ho) (by rw [e]; exact hg))
            clear hown4 HOWN
            refine wp_region_noPanic ?_
            refine wp_region_held_drew (S := fun w' => w'.cell? ⟨A, 0, none⟩ = some (.int .i64 s.node) ∧ w'.cell? ⟨b, 0, none⟩ = some (.int .i64 p.job) ∧ w'.cell? ⟨b, 1, none⟩ = some (.int .i64 p.att) ∧ w'.cell? ⟨b, 9, none⟩ = some (.int .i64 p.how)) (by kernel_rfl) ?_ (fun hHeld => ?_)
            · try dsimp only
              (refine ⟨?_, ?_, ?_, ?_⟩ <;> (first | with_reducible assumption))
            have HEQ : Hid (w4.drew.heap[A]? = w4.heap[A]?) := Lib.hid rfl
            have HWF : Hid (w4.drew.cell? ⟨A, 0, none⟩ = some (.int .i64 s.node) ∧ w4.drew.cell? ⟨b, 0, none⟩ = some (.int .i64 p.job) ∧ w4.drew.cell? ⟨b, 1, none⟩ = some (.int .i64 p.att) ∧ w4.drew.cell? ⟨b, 9, none⟩ = some (.int .i64 p.how)) := Lib.hid hHeld
            generalize w4.drew = Wd at *
            refine tk 0 ?_
            try simp only [Act.put, p1, p2, p3]
            refine tk 1 ?_
            try simp only [Act.put, p1, p2, p3]
            refine tk 2 ?_
            try simp only [Act.put, p1, p2, p3]
            refine tk 3 ?_
            try simp only [Act.put, p1, p2, p3]
            refine tk 4 ?_
            try simp only [Act.put, p1, p2, p3]
            refine tk 5 ?_
            try simp only [Act.put, p1, p2, p3]
            refine tk 6 ?_
            try simp only [Act.put, p1, p2, p3]
            refine tk 7 ?_
            try simp only [Act.put, p1, p2, p3]
            refine tk 8 ?_
            try simp only [Act.put, p1, p2, p3]
            refine tk 9 ?_
            try simp only [Act.put, p1, p2, p3]
            refine tk 10 ?_
            try simp only [Act.put, p1, p2, p3]
            refine tk 11 ?_
            try simp only [Act.put, p1, p2, p3]
            refine tk 12 ?_
            try simp only [Act.put, p1, p2, p3]
            refine tk 13 ?_
            try simp only [Act.put, p1, p2, p3]
            refine tk 14 ?_
            try simp only [Act.put, p1, p2, p3]
            refine tk 15 ?_
            try simp only [Act.put, p1, p2, p3]
            refine tk 16 ?_
            try simp only [Act.put, p1, p2, p3]
            refine tk 17 ?_
            try simp only [Act.put, p1, p2, p3]
            refine tk 18 ?_
            try simp only [Act.put, p1, p2, p3]
            refine tk 19 ?_
            try simp only [Act.put, p1, p2, p3]
            refine rd 20 fun K hK => ?_
            go_simp
            have f0' : (Wd.alloc (.cells #[.int .i64 5, .int .i64 0, .int .i64 s.node, .int .i64 0, .int .i64 0, .int .i64 0, .int .i64 p.job, .int .i64 p.att, .int .i64 0, .int .i64 0, .int .i64 p.how, .int .i64 0, .int .i64 0, .int .i64 0, .int .i64 0, .int .i64 0, .int .i64 0, .slice none 0 0, .int .i64 0, .int .i64 0, .int .i64 0] 35)).cell? ⟨A, 0, none⟩ = some (.int .i64 s.node) := keepA f0
            have g0' : (Wd.alloc (.cells #[.int .i64 5, .int .i64 0, .int .i64 s.node, .int .i64 0, .int .i64 0, .int .i64 0, .int .i64 p.job, .int .i64 p.att, .int .i64 0, .int .i64 0, .int .i64 p.how, .int .i64 0, .int .i64 0, .int .i64 0, .int .i64 0, .int .i64 0, .int .i64 0, .slice none 0 0, .int .i64 0, .int .i64 0, .int .i64 0] 35)).cell? ⟨b, 0, none⟩ = some (.int .i64 p.job) := keepA g0
            have g1' : (Wd.alloc (.cells #[.int .i64 5, .int .i64 0, .int .i64 s.node, .int .i64 0, .int .i64 0, .int .i64 0, .int .i64 p.job, .int .i64 p.att, .int .i64 0, .int .i64 0, .int .i64 p.how, .int .i64 0, .int .i64 0, .int .i64 0, .int .i64 0, .int .i64 0, .int .i64 0, .slice none 0 0, .int .i64 0, .int .i64 0, .int .i64 0] 35)).cell? ⟨b, 1, none⟩ = some (.int .i64 p.att) := keepA g1
            have g9' : (Wd.alloc (.cells #[.int .i64 5, .int .i64 0, .int .i64 s.node, .int .i64 0, .int .i64 0, .int .i64 0, .int .i64 p.job, .int .i64 p.att, .int .i64 0, .int .i64 0, .int .i64 p.how, .int .i64 0, .int .i64 0, .int .i64 0, .int .i64 0, .int .i64 0, .int .i64 0, .slice none 0 0, .int .i64 0, .int .i64 0, .int .i64 0] 35)).cell? ⟨b, 9, none⟩ = some (.int .i64 p.how) := keepA g9
            clear f0 g0 g1 g9
            refine hK.out _ _ ?_ (fun hHeld => ?_)
            · try dsimp only
              (refine ⟨?_, ?_, ?_, ?_⟩ <;> (first | with_reducible assumption))
            clear hK K
            try simp only [Act.put, p1, p2, p3]
            refine rd 21 fun K hK => ?_
            refine step_append_row _ rfl (.tmp 91) (.tmp 111) _ rfl w.heap.size 35 iM _ 21 184 Try.underlying38 hiM hz0 hz1 hz2 rfl (by omega) A2 m c2 (([]) ++ reps s2.node now (s2.ps.take i)) rfl (HOD.out.alloc _) (Wd.heap.size + 1) (some ⟨Wd.heap.size, 0, none⟩) 1 1 [.int .i64 5, .int .i64 0, .int .i64 s.node, .int .i64 0, .int .i64 0, .int .i64 0, .int .i64 p.job, .int .i64 p.att, .int .i64 0, .int .i64 0, .int .i64 p.how, .int .i64 0, .int .i64 0, .int .i64 0, .int .i64 0, .int .i64 0, .int .i64 0, .slice none 0 0, .int .i64 0, .int .i64 0, .int .i64 0] rfl (cellsIn_alloc Wd #[.int .i64 5, .int .i64 0, .int .i64 s.node, .int .i64 0, .int .i64 0, .int .i64 0, .int .i64 p.job, .int .i64 p.att, .int .i64 0, .int .i64 0, .int .i64 p.how, .int .i64 0, .int .i64 0, .int .i64 0, .int .i64 0, .int .i64 0, .int .i64 0, .slice none 0 0, .int .i64 0, .int .i64 0, .int .i64 0] 35 (0, 0) 21 1 rfl) (by simp [Value.oneCell']) (by unfold maxLen; omega) (by omega) (by have := HDZ.out; simp; omega) ?_
            intro A4 c4 w5 hown hg hor
            have HN := Lib.hid (HNX.out A4 c4 w5 hown hg)
            have c5 : Chg (fun k => (Value.slice A2 m c2).ownBlock = some k) Wd w5 := ((Chg.refl _ Wd).alloc _).grown hg (fun k hk => .inr hk)
            have hA5 : A < w.heap.size := HLOW.out A (.inl rfl)
            have hb5 : b < w.heap.size := HLOW.out b hbo
            have nb : ¬ (Value.slice A2 m c2).ownBlock = some b := fun e => by have := HOB.out b e; omega
            have nA : ¬ (Value.slice A2 m c2).ownBlock = some A := fun e => by have := HOB.out A e; omega
            skip
            have i0 : Wd.cell? ⟨A, 0, none⟩ = some (.int .i64 s.node) := HWF.out.1
            have i1 : Wd.cell? ⟨b, 0, none⟩ = some (.int .i64 p.job) := HWF.out.2.1
            have i2 : Wd.cell? ⟨b, 1, none⟩ = some (.int .i64 p.att) := HWF.out.2.2.1
            have i3 : Wd.cell? ⟨b, 9, none⟩ = some (.int .i64 p.how) := HWF.out.2.2.2
            have n0 : w5.cell? ⟨A, 0, none⟩ = some (.int .i64 s.node) := c5.cell i0 nA
            have n1 : w5.cell? ⟨b, 0, none⟩ = some (.int .i64 p.job) := c5.cell i1 nb
            have n2 : w5.cell? ⟨b, 1, none⟩ = some (.int .i64 p.att) := c5.cell i2 nb
            have n3 : w5.cell? ⟨b, 9, none⟩ = some (.int .i64 p.how) := c5.cell i3 nb
            clear hown hg hor c5 i0 i1 i2 i3 f0' g0' g1' g9'
            refine hK.out _ _ ?_ (fun hHeld => ?_)
            · try dsimp only
              (refine ⟨?_, ?_, ?_, ?_⟩ <;> (first | with_reducible assumption))
            clear hK K
            try simp only [Act.put, p1, p2, p3]
            refine tk 22 ?_
            try simp only [Act.put, p1, p2, p3]
            refine wpAnyH_done (by kernel_rfl) ?_ _
            refine NoPanic.normal ?_
            clear hHeld n0 n1 n2 n3
            go_wp2_with fail
            go_roundw
            case rel => exact ⟨i + 1, by omega, by go_num, HN⟩
            case measure => simp [intOf]; omega
    · obtain rfl : i = n := by omega
      have e1 : s2.ps.take i = s2.ps := by rw [HN2.out, List.take_length]
      have e2 : mid (fun p => p.step now) s2.ps i = s2.ps.map fun p => p.step now := by rw [HN2.out]; exact mid_all _ _
      rw [e1] at hm hown
      rw [e2] at ha
      have hmt : m = s.told now := by rw [HTD.out, hm]
      have HF : Hid (StepPost w A L s now (.returned (.slice A2 m c2)) wr) := Lib.hid (by
        refine ⟨A2, c2, by rw [hmt], ?_, ?_, hc⟩
        · rw [HND.out] at hown; rw [← hmt, HOT.out]; exact hown
        · have e3 : s.steps now = { s2 with ps := s2.ps.map fun p => p.step now } := by rw [HS2.out]; rfl
          rw [e3]; exact ha)
      clear hm hown ha hc hmt e1 e2
      go_wp2_with fail
      go_ret
      exact HF.out
set_option maxRecDepth 10000 in
set_option maxHeartbeats 8000000 in
theorem step_first (w : World) {A : Nat} {L : Lay} {s : Ag} (h : AgAt w A L s) (now : Int) (h0 : ¬ now < s.tick) (hn : ¬ (1099511627776 : Int) ≤ now) (hup : s.up = true) (hln : s.ps.length ≤ 1000000) (hats : Ats s) (hb1 : s.beat = false) :
    Calls Try.prog 13 #[.pointer (some ⟨A, 0, none⟩), .int .i64 now] w fun e w' => StepPost w A L s now e w' := by
  obtain ⟨iM, hiM, hz0, hz1, hz2⟩ := info_parts Try.infoMsg
  have hbt : s.beats now = true := by simp [Ag.beats, hb1]
  have hlow : ∀ k, L.own A k → k < w.heap.size := fun k hk => h.own_lt hk
  have c7 : w.cell? ⟨A, 7, none⟩ = some (.int .i64 s.tick) := cellb (i := 7) h.blk rfl
  have HCL := Lib.hid (clock_ok w A now s.tick c7 (fzb h.blk 7) h0 hn)
  have q := h.set (i := 7) (v := .int .i64 now) (s' := s.ticks now) (by simp [Ag.ticks]) rfl rfl h.booted
  have HA2 : Hid (AgAt (w.setCell ⟨A, 7, none⟩ (.int .i64 now)) A L (s.ticks now)) := Lib.hid q.1
  have HC2 : Hid (Chg (L.own A) w (w.setCell ⟨A, 7, none⟩ (.int .i64 now))) := Lib.hid (q.2.mono (fun k _ e => .inl e))
  have hlen : (s.ticks now).ps.length ≤ 100000000 := by show s.ps.length ≤ _; omega
  have HLOW := Lib.hid hlow
  have HATS := Lib.hid hats
  have HB1 := Lib.hid hb1
  have HBEAT := Lib.hid hbt
  clear q c7 h hlow hats hb1 hbt
  go_enter Try.func13, Try.ntmps13
  go_upto_region 3 with (go_at_call 23; refine HCL.out.mono ?_; clear HCL; rintro e w' ⟨rfl, rfl⟩; generalize w.setCell ⟨A, 7, none⟩ (.int .i64 now) = w2 at *; have c6 : w2.cell? ⟨A, 6, none⟩ = some (.bool true) := by rw [← hup]; exact cellb (i := 6) HA2.out.blk rfl)
  clear c6
  go_upto_region 4 with (go_at_call 24; refine (settle_ag w2 HA2.out hlen now).mono ?_; rintro e w3 ⟨⟨r3, rfl⟩, ha3, hc3⟩; have HA3 := Lib.hid ha3; have HC3 := Lib.hid (HC2.out.trans hc3); clear ha3 hc3)
  clear HA2 HC2 hlen
  have c13 : w3.cell? ⟨A, 13, none⟩ = some (.int .i64 s.at_) := cellb (i := 13) HA3.out.blk rfl
  have hw3 : IntKind.i64.wrap (s.at_ + 3) = s.at_ + 3 := IntWalk.i64_in _ (by have := HATS.out.1; omega)
  have c12 : w3.cell? ⟨A, 12, none⟩ = some (.bool false) := by rw [← HB1.out]; exact cellb (i := 12) HA3.out.blk rfl
  have HBT : Hid (s.beaten now = { (s.ticks now).settle now with beat := true, at_ := now }) := Lib.hid (by unfold Ag.beaten; rw [HBEAT.out]; simp)
  have HTD : Hid (s.told now = 1 + ((s.beaten now).ps.filter fun p => p.tells now).length) := Lib.hid (by unfold Ag.told; rw [HBEAT.out]; simp)
  have HOT : Hid (s.outs now = beatC s.node s.boot ++ reps s.node now (s.beaten now).ps) := Lib.hid (by unfold Ag.outs; rw [HBEAT.out]; simp)
  have z12 : w3.frozen? ⟨A, 12, none⟩ = false := fzb HA3.out.blk 12
  have q1 := HA3.out.set (i := 12) (v := .bool true) (s' := { (s.ticks now).settle now with beat := true }) (by simp [Ag.settle, Ag.ticks]) rfl rfl HA3.out.booted
  have q2 := q1.1.set (i := 13) (v := .int .i64 now) (s' := s.beaten now) (by rw [HBT.out]; simp [Ag.settle, Ag.ticks]) (by rw [HBT.out]) (by rw [HBT.out]) (by rw [HBT.out]; exact HA3.out.booted)
  have d13 : (w3.setCell ⟨A, 12, none⟩ (.bool true)).cell? ⟨A, 13, none⟩ = some (.int .i64 s.at_) := cellb (i := 13) q1.1.blk rfl
  have zd13 : (w3.setCell ⟨A, 12, none⟩ (.bool true)).frozen? ⟨A, 13, none⟩ = false := fzb q1.1.blk 13
  have z13 : w3.frozen? ⟨A, 13, none⟩ = false := fzb HA3.out.blk 13
  have HA4 := Lib.hid q2.1
  have HC4 := Lib.hid (HC3.out.trans ((q1.2.trans q2.2).mono (fun k _ e => .inl e)))
  clear q1 q2 HA3 HC3
  go_upto_region 7 with fail
  clear c12 c13 hw3 z12 d13 zd13 z13
  generalize (w3.setCell ⟨A, 12, none⟩ (.bool true)).setCell ⟨A, 13, none⟩ (.int .i64 now) = w4 at *
  have f0 : w4.drew.cell? ⟨A, 0, none⟩ = some (.int .i64 s.node) := by have := cellb (i := 0) HA4.out.blk rfl; rw [HBT.out] at this; exact this
  have f8 : w4.drew.cell? ⟨A, 8, none⟩ = some (.int .i64 s.boot) := by have := cellb (i := 8) HA4.out.blk rfl; rw [HBT.out] at this; exact this
  have HAB4 : Hid (AgAt w4.drew A L (s.beaten now)) := Lib.hid HA4.out.drew
  have HC5 : Hid (Chg (L.own A) w w4.drew) := Lib.hid HC4.out.drew
  clear HA4 HC4
  refine wp_region_noPanic ?_
  refine wp_region_held_drew (S := fun w' => w'.cell? ⟨A, 0, none⟩ = some (.int .i64 s.node) ∧ w'.cell? ⟨A, 8, none⟩ = some (.int .i64 s.boot)) (by kernel_rfl) ?_ (fun hHeld => ?_)
  · try dsimp only
    (refine ⟨?_, ?_⟩ <;> (first | with_reducible assumption))
  have HWF : Hid (w4.drew.cell? ⟨A, 0, none⟩ = some (.int .i64 s.node) ∧ w4.drew.cell? ⟨A, 8, none⟩ = some (.int .i64 s.boot)) := Lib.hid hHeld
  generalize w4.drew = Wd at *
  refine tk 0 ?_
  try simp only [Act.put, p1, p2, p3]
  refine tk 1 ?_
  try simp only [Act.put, p1, p2, p3]
  refine tk 2 ?_
  try simp only [Act.put, p1, p2, p3]
  refine tk 3 ?_
  try simp only [Act.put, p1, p2, p3]
  refine tk 4 ?_
  try simp only [Act.put, p1, p2, p3]
  refine tk 5 ?_
  try simp only [Act.put, p1, p2, p3]
  refine tk 6 ?_
  try simp only [Act.put, p1, p2, p3]
  refine tk 7 ?_
  try simp only [Act.put, p1, p2, p3]
  refine tk 8 ?_
  try simp only [Act.put, p1, p2, p3]
  refine tk 9 ?_
  try simp only [Act.put, p1, p2, p3]
  refine rd 10 fun K hK => ?_
  go_simp
  have f0' : (Wd.alloc (.cells #[.int .i64 1, .int .i64 0, .int .i64 s.node, .int .i64 s.boot, .int .i64 0, .int .i64 0, .int .i64 0, .int .i64 0, .int .i64 0, .int .i64 0, .int .i64 0, .int .i64 0, .int .i64 0, .int .i64 0, .int .i64 0, .int .i64 0, .int .i64 0, .slice none 0 0, .int .i64 0, .int .i64 0, .int .i64 0] 35)).cell? ⟨A, 0, none⟩ = some (.int .i64 s.node) := keepA f0
  have f8' : (Wd.alloc (.cells #[.int .i64 1, .int .i64 0, .int .i64 s.node, .int .i64 s.boot, .int .i64 0, .int .i64 0, .int .i64 0, .int .i64 0, .int .i64 0, .int .i64 0, .int .i64 0, .int .i64 0, .int .i64 0, .int .i64 0, .int .i64 0, .int .i64 0, .int .i64 0, .slice none 0 0, .int .i64 0, .int .i64 0, .int .i64 0] 35)).cell? ⟨A, 8, none⟩ = some (.int .i64 s.boot) := keepA f8
  clear f0 f8
  refine hK.out _ _ ?_ (fun hHeld => ?_)
  · try dsimp only
    (refine ⟨?_, ?_⟩ <;> (first | with_reducible assumption))
  clear hK K
  try simp only [Act.put, p1, p2, p3]
  refine rd 11 fun K hK => ?_
  have HO0 : Hid ((Wd.alloc (.cells #[.int .i64 1, .int .i64 0, .int .i64 s.node, .int .i64 s.boot, .int .i64 0, .int .i64 0, .int .i64 0, .int .i64 0, .int .i64 0, .int .i64 0, .int .i64 0, .int .i64 0, .int .i64 0, .int .i64 0, .int .i64 0, .int .i64 0, .int .i64 0, .slice none 0 0, .int .i64 0, .int .i64 0, .int .i64 0] 35)).ownsRow w.heap.size 35 21 (.slice none 0 0) 0 []) := Lib.hid ⟨rfl, .inl ⟨rfl, rfl⟩⟩
  refine step_append_row _ rfl (.tmp 43) (.tmp 53) _ rfl w.heap.size 35 iM _ 21 184 Try.underlying38 hiM hz0 hz1 hz2 rfl (by omega) none 0 0 [] rfl HO0.out (Wd.heap.size + 1) (some ⟨Wd.heap.size, 0, none⟩) 1 1 [.int .i64 1, .int .i64 0, .int .i64 s.node, .int .i64 s.boot, .int .i64 0, .int .i64 0, .int .i64 0, .int .i64 0, .int .i64 0, .int .i64 0, .int .i64 0, .int .i64 0, .int .i64 0, .int .i64 0, .int .i64 0, .int .i64 0, .int .i64 0, .slice none 0 0, .int .i64 0, .int .i64 0, .int .i64 0] rfl (cellsIn_alloc Wd #[.int .i64 1, .int .i64 0, .int .i64 s.node, .int .i64 s.boot, .int .i64 0, .int .i64 0, .int .i64 0, .int .i64 0, .int .i64 0, .int .i64 0, .int .i64 0, .int .i64 0, .int .i64 0, .int .i64 0, .int .i64 0, .int .i64 0, .int .i64 0, .slice none 0 0, .int .i64 0, .int .i64 0, .int .i64 0] 35 (0, 0) 21 1 rfl) (by simp [Value.oneCell']) (by unfold maxLen; omega) (by omega) (by have := HC5.out.size; simp; omega) ?_
  intro A4 c4 W hown hg hor
  have c5 : Chg (fun _ => False) Wd W := ((Chg.refl _ Wd).alloc _).grown hg (fun k hk => by cases hk)
  have HAB : Hid (AgAt W A L (s.beaten now)) := Lib.hid (HAB4.out.chg c5 (fun k hk => hk.elim))
  have HI : Hid (StepI w A L (s.beaten now) now 1 (beatC s.node s.boot) 0 (.slice A4 (0 + 1) c4) W) := Lib.hid ⟨A4, c4, 0 + 1, rfl, by simp, by simpa [reps, beatC] using hown, by rw [mid_zero]; exact HAB.out, HC5.out.trans (c5.mono (fun k _ h => h.elim))⟩
  have n0 : W.cell? ⟨A, 0, none⟩ = some (.int .i64 s.node) := c5.cell HWF.out.1 (fun h => h)
  have n8 : W.cell? ⟨A, 8, none⟩ = some (.int .i64 s.boot) := c5.cell HWF.out.2 (fun h => h)
  clear hown hg hor c5 f0' f8'
  refine hK.out _ _ ?_ (fun hHeld => ?_)
  · try dsimp only
    (refine ⟨?_, ?_⟩ <;> (first | with_reducible assumption))
  clear hK K
  try simp only [Act.put, p1, p2, p3]
  refine tk 12 ?_
  try simp only [Act.put, p1, p2, p3]
  refine wpAnyH_done (by kernel_rfl) ?_ _
  refine NoPanic.normal ?_
  clear hHeld n0 n8 HWF HAB4 HC5
  have hnode : (s.beaten now).node = s.node := by rw [HBT.out]; rfl
  have HND := Lib.hid hnode
  have hbl : (s.beaten now).ps.length = s.ps.length := by rw [HBT.out]; simp [Ag.settle, Ag.ticks]
  have hln2 : L.n = (s.beaten now).ps.length := by rw [HAB.out.blen, HAB.out.plen]
  have HN2 := Lib.hid hln2
  have hnb : L.n ≤ 1000000 := by omega
  have hpat : ∀ p ∈ (s.beaten now).ps, 0 ≤ p.at_ ∧ p.at_ ≤ 2199023255552 := by
    intro p hp
    have e : (s.beaten now).ps = s.ps.map fun p => p.settle s.until_ now := by rw [HBT.out]; rfl
    rw [e] at hp
    obtain ⟨q, hq, rfl⟩ := List.mem_map.1 hp
    have := HATS.out.2 q hq
    unfold Pt.settle Pt.over
    split <;> exact this
  have HPAT := Lib.hid hpat
  obtain ⟨rb, hrb⟩ := HAB.out.rb
  obtain ⟨RA, hRA⟩ : ∃ x, x = L.RA := ⟨_, rfl⟩
  rw [← hRA] at hrb
  have HRA := Lib.hid hRA
  have HRB := Lib.hid hrb
  have c15 : W.cell? ⟨A, 15, none⟩ = some (.slice RA L.n L.c) := by rw [hRA]; exact cellb (i := 15) HAB.out.blk rfl
  obtain ⟨s2, hs2⟩ : ∃ x, x = s.beaten now := ⟨_, rfl⟩
  rw [← hs2] at HI HND HN2 HPAT HTD HOT
  have HS2 := Lib.hid hs2
  obtain ⟨n, hnq⟩ : ∃ x, x = L.n := ⟨_, rfl⟩
  rw [← hnq] at c15 hnb HN2
  have HNQ := Lib.hid hnq
  clear hnode hbl hln2 hpat hRA hrb hs2 hnq HAB hln
  go_wp2_with fail
  go_loopw [5, 60] (fun o v wr => ∃ i : Nat, i ≤ n ∧ v = .int .i64 i ∧ Hid (StepI w A L s2 now 1 (beatC s.node s.boot) i o wr)) (fun _ v _ => n - (intOf v).toNat)
  case atStart => exact ⟨0, Nat.zero_le _, rfl, HI⟩
  case round =>
    obtain ⟨i, hi, rfl, HJ⟩ := hrel
    obtain ⟨A2, c2, m, rfl, hm, hown, ha, hc⟩ := HJ.out
    by_cases hin : i < n
    · have hi0 : (0 : Int) ≤ (i : Int) := by omega
      have hi1 : (i : Int) < (n : Int) := by omega
      have hlt : i < s2.ps.length := by have := HN2.out; omega
      obtain ⟨p, hp⟩ : ∃ p, s2.ps[i]? = some p := ⟨_, List.getElem?_eq_getElem hlt⟩
      have hmi : (mid (fun p => p.step now) s2.ps i)[i]? = some p := mid_at _ _ hp
      obtain ⟨b, hb, hpt⟩ := bs_at ha hmi
      have hcr : RA = some ⟨rb, 0, none⟩ ∧ wr.cell? ⟨rb, i, none⟩ = some (.pointer (some ⟨b, 0, none⟩)) := by
        rcases ha.row.2 with ⟨hv, h3⟩ | ⟨g, cap, cur, hv, _, hg, _⟩
        · have := HNQ.out; omega
        · injection hv with e1
          have e2 : RA = some ⟨g, 0, none⟩ := by rw [HRA.out, e1]
          rcases HRB.out with e | e
          · rw [e2] at e; cases e
          · have e3 := e2.symm.trans e
            injection e3 with e3; injection e3 with e3
            subst e3
            refine ⟨e2, ?_⟩
            have hcell := ha.row.cells (g := g) (by rw [e1]; rfl) i (.pointer (some ⟨b, 0, none⟩)) (by simp [hb])
            rwa [Addr.add_lit, Nat.zero_add] at hcell
      obtain ⟨hra, hptr⟩ := hcr
      subst hra
      have hm3 : m ≤ 1000001 := by
        rw [hm]
        have := List.length_filter_le (fun p => Pt.tells p now) (s2.ps.take i)
        have h2 : (s2.ps.take i).length ≤ i := by rw [List.length_take]; omega
        omega
      have hab := HPAT.out p (List.mem_of_getElem? hp)
      have hw4 : IntKind.i64.wrap (p.at_ + 4) = p.at_ + 4 := IntWalk.i64_in _ (by omega)
      have HHA := Lib.hid ha
      have HHC := Lib.hid hc
      have HOWN := Lib.hid hown
      have HM := Lib.hid hm
      have HPT := Lib.hid hpt
      have k12 : wr.cell? ⟨b, 12, none⟩ = some (.int .i64 p.at_) := cellb (i := 12) hpt rfl
      have hle : w.heap.size ≤ wr.heap.size := hc.size
      clear ha hc hown hm hpt hmi HRB
      cases hrep : p.rep
      · have k10 : wr.cell? ⟨b, 10, none⟩ = some (.bool false) := by rw [← hrep]; exact cellb (i := 10) HPT.out rfl
        have HT : Hid (p.tells now = false) := Lib.hid (by simp [Pt.tells, hrep])
        clear hrep
        go_wp2_with fail
        go_roundw
        case rel => exact ⟨i + 1, by omega, by go_num, Lib.hid (HJ.out.stay hp HT.out)⟩
        case measure => simp [intOf]; omega
      · have k10 : wr.cell? ⟨b, 10, none⟩ = some (.bool true) := by rw [← hrep]; exact cellb (i := 10) HPT.out rfl
        by_cases hso : p.sent = true ∧ ¬ p.at_ + 4 ≤ now
        · obtain ⟨hsent, hat⟩ := hso
          have k11 : wr.cell? ⟨b, 11, none⟩ = some (.bool true) := by rw [← hsent]; exact cellb (i := 11) HPT.out rfl
          have HT : Hid (p.tells now = false) := Lib.hid (by simp [Pt.tells, hrep, hsent]; omega)
          clear hrep hsent
          go_wp2_with fail
          go_roundw
          case rel => exact ⟨i + 1, by omega, by go_num, Lib.hid (HJ.out.stay hp HT.out)⟩
          case measure => simp [intOf]; omega
        · cases hsent : p.sent
          · skip
            have k11 : wr.cell? ⟨b, 11, none⟩ = some (.bool false) := by rw [← hsent]; exact cellb (i := 11) HPT.out rfl
            have HT : Hid (p.tells now = true) := Lib.hid (by simp [Pt.tells, hrep, hsent])
            have k11' : wr.cell? ⟨b, 11, none⟩ = some (.bool p.sent) := cellb (i := 11) HPT.out rfl
            have z11 : wr.frozen? ⟨b, 11, none⟩ = false := fzb HPT.out 11
            have z12 : wr.frozen? ⟨b, 12, none⟩ = false := fzb HPT.out 12
            have b1 := set_blk (i := 11) (show wr.heap[b]? = _ from HPT.out) (.bool true)
            have b2 := set_blk (i := 12) b1 (.int .i64 now)
            have j12 : (wr.setCell ⟨b, 11, none⟩ (.bool true)).cell? ⟨b, 12, none⟩ = some (.int .i64 p.at_) := cellb (i := 12) b1 rfl
            have zj12 : (wr.setCell ⟨b, 11, none⟩ (.bool true)).frozen? ⟨b, 12, none⟩ = false := by rw [show ({ block := b, off := 12 } : Addr) = ⟨b, 12, none⟩ from rfl]; exact fzb b1 12
            have c1 : Chg (fun k => k = b) wr (wr.setCell ⟨b, 11, none⟩ (.bool true)) := (Chg.refl (fun k => k = b) wr).setCell (p := ⟨b, 11, none⟩) (.inr rfl) _
            have c2' := c1.setCell (p := ⟨b, 12, none⟩) (.inr rfl) (.int .i64 now)
            have HS := Lib.hid c2'
            have HQ : Hid (PtAt ((wr.setCell ⟨b, 11, none⟩ (.bool true)).setCell ⟨b, 12, none⟩ (.int .i64 now)) b { p with sent := true, at_ := now }) := Lib.hid (by unfold PtAt; rw [b2]; simp)
            clear b1 b2 c1 c2' hrep hsent k11'
            go_upto_region 13 with fail
            clear k10 k11 k12 hptr z11 z12 j12 zj12
            generalize (wr.setCell ⟨b, 11, none⟩ (.bool true)).setCell ⟨b, 12, none⟩ (.int .i64 now) = w4 at *
            have hbA : b ≠ A := ne_tag HPT.out HHA.out.blk (by simp [otag])
            have HA4 : Hid (w4.heap[A]? = some (.cells (({ s2 with ps := mid (fun p => p.step now) s2.ps i } : Ag).cells L) 60 (0, 0))) := Lib.hid ((HS.out.block A HHA.out.lt (fun e => hbA e.symm)).trans HHA.out.blk)
            have HOB : Hid (∀ k, (Value.slice A2 m c2).ownBlock = some k → w.heap.size ≤ k) := Lib.hid (fun k hk => (HOWN.out.lt k hk).1)
            have hown4 : Hid (w4.ownsRow w.heap.size 35 21 (.slice A2 m c2) m ((beatC s.node s.boot) ++ reps s2.node now (s2.ps.take i))) := Lib.hid (HS.out.own HOWN.out (fun k hk e => by
              obtain ⟨cur, f, e0⟩ := own_elem HOWN.out hk
              exact ne_tag e0 HPT.out (by simp [otag]) e))
            have hle4 : w.heap.size ≤ w4.heap.size := Nat.le_trans hle HS.out.size
            have hbo : L.own A b := .inr (.inr (.inr (.inr (List.mem_of_getElem? hb))))
            have f0 : w4.drew.cell? ⟨A, 0, none⟩ = some (.int .i64 s.node) := by rw [← HND.out]; exact cellb (i := 0) HA4.out rfl
            have g0 : w4.drew.cell? ⟨b, 0, none⟩ = some (.int .i64 p.job) := cellb (i := 0) HQ.out rfl
            have g1 : w4.drew.cell? ⟨b, 1, none⟩ = some (.int .i64 p.att) := cellb (i := 1) HQ.out rfl
            have g9 : w4.drew.cell? ⟨b, 9, none⟩ = some (.int .i64 p.how) := cellb (i := 9) HQ.out rfl
            have HOD : Hid (w4.drew.ownsRow w.heap.size 35 21 (.slice A2 m c2) m ((beatC s.node s.boot) ++ reps s2.node now (s2.ps.take i))) := hown4
            have HDZ : Hid (w4.drew.heap.size = w4.heap.size) := Lib.hid rfl
            have HD4 : Hid (Chg (fun k => k = b) w4 w4.drew) := Lib.hid (Chg.refl _ w4).drew
            have HNX : Hid (∀ A4 c4 w5, w5.ownsRow w.heap.size 35 21 (.slice A4 (m + 1) c4) (m + 1) (((beatC s.node s.boot) ++ reps s2.node now (s2.ps.take i)) ++ [.int .i64 5, .int .i64 0, .int .i64 s.node, .int .i64 0, .int .i64 0, .int .i64 0, .int .i64 p.job, .int .i64 p.att, .int .i64 0, .int .i64 0, .int .i64 p.how, .int .i64 0, .int .i64 0, .int .i64 0, .int .i64 0, .int .i64 0, .int .i64 0, .slice none 0 0, .int .i64 0, .int .i64 0, .int .i64 0]) → (w4.drew.alloc (.cells #[.int .i64 5, .int .i64 0, .int .i64 s.node, .int .i64 0, .int .i64 0, .int .i64 0, .int .i64 p.job, .int .i64 p.att, .int .i64 0, .int .i64 0, .int .i64 p.how, .int .i64 0, .int .i64 0, .int .i64 0, .int .i64 0, .int .i64 0, .int .i64 0, .slice none 0 0, .int .i64 0, .int .i64 0, .int .i64 0] 35)).grownBy w5 (Value.slice A2 m c2).ownBlock → StepI w A L s2 now 1 (beatC s.node s.boot) (i + 1) (.slice A4 (m + 1) c4) w5) := Lib.hid (fun A4 c4 w5 ho hg => by
              have e : repC s2.node p = [.int .i64 5, .int .i64 0, .int .i64 s.node, .int .i64 0, .int .i64 0, .int .i64 0, .int .i64 p.job, .int .i64 p.att, .int .i64 0, .int .i64 0, .int .i64 p.how, .int .i64 0, .int .i64 0, .int .i64 0, .int .i64 0, .int .i64 0, .int .i64 0, .slice none 0 0, .int .i64 0, .int .i64 0, .int .i64 0] := by rw [HND.out]; rfl
              exact StepI.next HLOW.out HHA.out HHC.out hb hp HT.out HM.out HS.out HQ.out hown4.out (by rw [e]; exact ho) (by rw [e]; exact hg))
            clear hown4 HOWN
            refine wp_region_noPanic ?_
            refine wp_region_held_drew (S := fun w' => w'.cell? ⟨A, 0, none⟩ = some (.int .i64 s.node) ∧ w'.cell? ⟨b, 0, none⟩ = some (.int .i64 p.job) ∧ w'.cell? ⟨b, 1, none⟩ = some (.int .i64 p.att) ∧ w'.cell? ⟨b, 9, none⟩ = some (.int .i64 p.how)) (by kernel_rfl) ?_ (fun hHeld => ?_)
            · try dsimp only
              (refine ⟨?_, ?_, ?_, ?_⟩ <;> (first | with_reducible assumption))
            have HEQ : Hid (w4.drew.heap[A]? = w4.heap[A]?) := Lib.hid rfl
            have HWF : Hid (w4.drew.cell? ⟨A, 0, none⟩ = some (.int .i64 s.node) ∧ w4.drew.cell? ⟨b, 0, none⟩ = some (.int .i64 p.job) ∧ w4.drew.cell? ⟨b, 1, none⟩ = some (.int .i64 p.att) ∧ w4.drew.cell? ⟨b, 9, none⟩ = some (.int .i64 p.how)) := Lib.hid hHeld
            generalize w4.drew = Wd at *
            refine tk 0 ?_
            try simp only [Act.put, p1, p2, p3]
            refine tk 1 ?_
            try simp only [Act.put, p1, p2, p3]
            refine tk 2 ?_
            try simp only [Act.put, p1, p2, p3]
            refine tk 3 ?_
            try simp only [Act.put, p1, p2, p3]
            refine tk 4 ?_
            try simp only [Act.put, p1, p2, p3]
            refine tk 5 ?_
            try simp only [Act.put, p1, p2, p3]
            refine tk 6 ?_
            try simp only [Act.put, p1, p2, p3]
            refine tk 7 ?_
            try simp only [Act.put, p1, p2, p3]
            refine tk 8 ?_
            try simp only [Act.put, p1, p2, p3]
            refine tk 9 ?_
            try simp only [Act.put, p1, p2, p3]
            refine tk 10 ?_
            try simp only [Act.put, p1, p2, p3]
            refine tk 11 ?_
            try simp only [Act.put, p1, p2, p3]
            refine tk 12 ?_
            try simp only [Act.put, p1, p2, p3]
            refine tk 13 ?_
            try simp only [Act.put, p1, p2, p3]
            refine tk 14 ?_
            try simp only [Act.put, p1, p2, p3]
            refine tk 15 ?_
            try simp only [Act.put, p1, p2, p3]
            refine tk 16 ?_
            try simp only [Act.put, p1, p2, p3]
            refine tk 17 ?_
            try simp only [Act.put, p1, p2, p3]
            refine tk 18 ?_
            try simp only [Act.put, p1, p2, p3]
            refine tk 19 ?_
            try simp only [Act.put, p1, p2, p3]
            refine rd 20 fun K hK => ?_
            go_simp
            have f0' : (Wd.alloc (.cells #[.int .i64 5, .int .i64 0, .int .i64 s.node, .int .i64 0, .int .i64 0, .int .i64 0, .int .i64 p.job, .int .i64 p.att, .int .i64 0, .int .i64 0, .int .i64 p.how, .int .i64 0, .int .i64 0, .int .i64 0, .int .i64 0, .int .i64 0, .int .i64 0, .slice none 0 0, .int .i64 0, .int .i64 0, .int .i64 0] 35)).cell? ⟨A, 0, none⟩ = some (.int .i64 s.node) := keepA f0
            have g0' : (Wd.alloc (.cells #[.int .i64 5, .int .i64 0, .int .i64 s.node, .int .i64 0, .int .i64 0, .int .i64 0, .int .i64 p.job, .int .i64 p.att, .int .i64 0, .int .i64 0, .int .i64 p.how, .int .i64 0, .int .i64 0, .int .i64 0, .int .i64 0, .int .i64 0, .int .i64 0, .slice none 0 0, .int .i64 0, .int .i64 0, .int .i64 0] 35)).cell? ⟨b, 0, none⟩ = some (.int .i64 p.job) := keepA g0
            have g1' : (Wd.alloc (.cells #[.int .i64 5, .int .i64 0, .int .i64 s.node, .int .i64 0, .int .i64 0, .int .i64 0, .int .i64 p.job, .int .i64 p.att, .int .i64 0, .int .i64 0, .int .i64 p.how, .int .i64 0, .int .i64 0, .int .i64 0, .int .i64 0, .int .i64 0, .int .i64 0, .slice none 0 0, .int .i64 0, .int .i64 0, .int .i64 0] 35)).cell? ⟨b, 1, none⟩ = some (.int .i64 p.att) := keepA g1
            have g9' : (Wd.alloc (.cells #[.int .i64 5, .int .i64 0, .int .i64 s.node, .int .i64 0, .int .i64 0, .int .i64 0, .int .i64 p.job, .int .i64 p.att, .int .i64 0, .int .i64 0, .int .i64 p.how, .int .i64 0, .int .i64 0, .int .i64 0, .int .i64 0, .int .i64 0, .int .i64 0, .slice none 0 0, .int .i64 0, .int .i64 0, .int .i64 0] 35)).cell? ⟨b, 9, none⟩ = some (.int .i64 p.how) := keepA g9
            clear f0 g0 g1 g9
            refine hK.out _ _ ?_ (fun hHeld => ?_)
            · try dsimp only
              (refine ⟨?_, ?_, ?_, ?_⟩ <;> (first | with_reducible assumption))
            clear hK K
            try simp only [Act.put, p1, p2, p3]
            refine rd 21 fun K hK => ?_
            refine step_append_row _ rfl (.tmp 91) (.tmp 111) _ rfl w.heap.size 35 iM _ 21 184 Try.underlying38 hiM hz0 hz1 hz2 rfl (by omega) A2 m c2 ((beatC s.node s.boot) ++ reps s2.node now (s2.ps.take i)) rfl (HOD.out.alloc _) (Wd.heap.size + 1) (some ⟨Wd.heap.size, 0, none⟩) 1 1 [.int .i64 5, .int .i64 0, .int .i64 s.node, .int .i64 0, .int .i64 0, .int .i64 0, .int .i64 p.job, .int .i64 p.att, .int .i64 0, .int .i64 0, .int .i64 p.how, .int .i64 0, .int .i64 0, .int .i64 0, .int .i64 0, .int .i64 0, .int .i64 0, .slice none 0 0, .int .i64 0, .int .i64 0, .int .i64 0] rfl (cellsIn_alloc Wd #[.int .i64 5, .int .i64 0, .int .i64 s.node, .int .i64 0, .int .i64 0, .int .i64 0, .int .i64 p.job, .int .i64 p.att, .int .i64 0, .int .i64 0, .int .i64 p.how, .int .i64 0, .int .i64 0, .int .i64 0, .int .i64 0, .int .i64 0, .int .i64 0, .slice none 0 0, .int .i64 0, .int .i64 0, .int .i64 0] 35 (0, 0) 21 1 rfl) (by simp [Value.oneCell']) (by unfold maxLen; omega) (by omega) (by have := HDZ.out; simp; omega) ?_
            intro A4 c4 w5 hown hg hor
            have HN := Lib.hid (HNX.out A4 c4 w5 hown hg)
            have c5 : Chg (fun k => (Value.slice A2 m c2).ownBlock = some k) Wd w5 := ((Chg.refl _ Wd).alloc _).grown hg (fun k hk => .inr hk)
            have hA5 : A < w.heap.size := HLOW.out A (.inl rfl)
            have hb5 : b < w.heap.size := HLOW.out b hbo
            have nb : ¬ (Value.slice A2 m c2).ownBlock = some b := fun e => by have := HOB.out b e; omega
            have nA : ¬ (Value.slice A2 m c2).ownBlock = some A := fun e => by have := HOB.out A e; omega
            skip
            have i0 : Wd.cell? ⟨A, 0, none⟩ = some (.int .i64 s.node) := HWF.out.1
            have i1 : Wd.cell? ⟨b, 0, none⟩ = some (.int .i64 p.job) := HWF.out.2.1
            have i2 : Wd.cell? ⟨b, 1, none⟩ = some (.int .i64 p.att) := HWF.out.2.2.1
            have i3 : Wd.cell? ⟨b, 9, none⟩ = some (.int .i64 p.how) := HWF.out.2.2.2
            have n0 : w5.cell? ⟨A, 0, none⟩ = some (.int .i64 s.node) := c5.cell i0 nA
            have n1 : w5.cell? ⟨b, 0, none⟩ = some (.int .i64 p.job) := c5.cell i1 nb
            have n2 : w5.cell? ⟨b, 1, none⟩ = some (.int .i64 p.att) := c5.cell i2 nb
            have n3 : w5.cell? ⟨b, 9, none⟩ = some (.int .i64 p.how) := c5.cell i3 nb
            clear hown hg hor c5 i0 i1 i2 i3 f0' g0' g1' g9'
            refine hK.out _ _ ?_ (fun hHeld => ?_)
            · try dsimp only
              (refine ⟨?_, ?_, ?_, ?_⟩ <;> (first | with_reducible assumption))
            clear hK K
            try simp only [Act.put, p1, p2, p3]
            refine tk 22 ?_
            try simp only [Act.put, p1, p2, p3]
            refine wpAnyH_done (by kernel_rfl) ?_ _
            refine NoPanic.normal ?_
            clear hHeld n0 n1 n2 n3
            go_wp2_with fail
            go_roundw
            case rel => exact ⟨i + 1, by omega, by go_num, HN⟩
            case measure => simp [intOf]; omega
          · skip
            have k11 : wr.cell? ⟨b, 11, none⟩ = some (.bool true) := by rw [← hsent]; exact cellb (i := 11) HPT.out rfl
            have hat : p.at_ + 4 ≤ now := Classical.byContradiction (fun e => hso ⟨hsent, e⟩)
            have HT : Hid (p.tells now = true) := Lib.hid (by simp [Pt.tells, hrep, hsent]; omega)
            have k11' : wr.cell? ⟨b, 11, none⟩ = some (.bool p.sent) := cellb (i := 11) HPT.out rfl
            have z11 : wr.frozen? ⟨b, 11, none⟩ = false := fzb HPT.out 11
            have z12 : wr.frozen? ⟨b, 12, none⟩ = false := fzb HPT.out 12
            have b1 := set_blk (i := 11) (show wr.heap[b]? = _ from HPT.out) (.bool true)
            have b2 := set_blk (i := 12) b1 (.int .i64 now)
            have j12 : (wr.setCell ⟨b, 11, none⟩ (.bool true)).cell? ⟨b, 12, none⟩ = some (.int .i64 p.at_) := cellb (i := 12) b1 rfl
            have zj12 : (wr.setCell ⟨b, 11, none⟩ (.bool true)).frozen? ⟨b, 12, none⟩ = false := by rw [show ({ block := b, off := 12 } : Addr) = ⟨b, 12, none⟩ from rfl]; exact fzb b1 12
            have c1 : Chg (fun k => k = b) wr (wr.setCell ⟨b, 11, none⟩ (.bool true)) := (Chg.refl (fun k => k = b) wr).setCell (p := ⟨b, 11, none⟩) (.inr rfl) _
            have c2' := c1.setCell (p := ⟨b, 12, none⟩) (.inr rfl) (.int .i64 now)
            have HS := Lib.hid c2'
            have HQ : Hid (PtAt ((wr.setCell ⟨b, 11, none⟩ (.bool true)).setCell ⟨b, 12, none⟩ (.int .i64 now)) b { p with sent := true, at_ := now }) := Lib.hid (by unfold PtAt; rw [b2]; simp)
            clear b1 b2 c1 c2' hrep hsent k11'
            go_upto_region 13 with fail
            clear k10 k11 k12 hptr z11 z12 j12 zj12
            generalize (wr.setCell ⟨b, 11, none⟩ (.bool true)).setCell ⟨b, 12, none⟩ (.int .i64 now) = w4 at *
            have hbA : b ≠ A := ne_tag HPT.out HHA.out.blk (by simp [otag])
            have HA4 : Hid (w4.heap[A]? = some (.cells (({ s2 with ps := mid (fun p => p.step now) s2.ps i } : Ag).cells L) 60 (0, 0))) := Lib.hid ((HS.out.block A HHA.out.lt (fun e => hbA e.symm)).trans HHA.out.blk)
            have HOB : Hid (∀ k, (Value.slice A2 m c2).ownBlock = some k → w.heap.size ≤ k) := Lib.hid (fun k hk => (HOWN.out.lt k hk).1)
            have hown4 : Hid (w4.ownsRow w.heap.size 35 21 (.slice A2 m c2) m ((beatC s.node s.boot) ++ reps s2.node now (s2.ps.take i))) := Lib.hid (HS.out.own HOWN.out (fun k hk e => by
              obtain ⟨cur, f, e0⟩ := own_elem HOWN.out hk
              exact ne_tag e0 HPT.out (by simp [otag]) e))
            have hle4 : w.heap.size ≤ w4.heap.size := Nat.le_trans hle HS.out.size
            have hbo : L.own A b := .inr (.inr (.inr (.inr (List.mem_of_getElem? hb))))
            have f0 : w4.drew.cell? ⟨A, 0, none⟩ = some (.int .i64 s.node) := by rw [← HND.out]; exact cellb (i := 0) HA4.out rfl
            have g0 : w4.drew.cell? ⟨b, 0, none⟩ = some (.int .i64 p.job) := cellb (i := 0) HQ.out rfl
            have g1 : w4.drew.cell? ⟨b, 1, none⟩ = some (.int .i64 p.att) := cellb (i := 1) HQ.out rfl
            have g9 : w4.drew.cell? ⟨b, 9, none⟩ = some (.int .i64 p.how) := cellb (i := 9) HQ.out rfl
            have HOD : Hid (w4.drew.ownsRow w.heap.size 35 21 (.slice A2 m c2) m ((beatC s.node s.boot) ++ reps s2.node now (s2.ps.take i))) := hown4
            have HDZ : Hid (w4.drew.heap.size = w4.heap.size) := Lib.hid rfl
            have HD4 : Hid (Chg (fun k => k = b) w4 w4.drew) := Lib.hid (Chg.refl _ w4).drew
            have HNX : Hid (∀ A4 c4 w5, w5.ownsRow w.heap.size 35 21 (.slice A4 (m + 1) c4) (m + 1) (((beatC s.node s.boot) ++ reps s2.node now (s2.ps.take i)) ++ [.int .i64 5, .int .i64 0, .int .i64 s.node, .int .i64 0, .int .i64 0, .int .i64 0, .int .i64 p.job, .int .i64 p.att, .int .i64 0, .int .i64 0, .int .i64 p.how, .int .i64 0, .int .i64 0, .int .i64 0, .int .i64 0, .int .i64 0, .int .i64 0, .slice none 0 0, .int .i64 0, .int .i64 0, .int .i64 0]) → (w4.drew.alloc (.cells #[.int .i64 5, .int .i64 0, .int .i64 s.node, .int .i64 0, .int .i64 0, .int .i64 0, .int .i64 p.job, .int .i64 p.att, .int .i64 0, .int .i64 0, .int .i64 p.how, .int .i64 0, .int .i64 0, .int .i64 0, .int .i64 0, .int .i64 0, .int .i64 0, .slice none 0 0, .int .i64 0, .int .i64 0, .int .i64 0] 35)).grownBy w5 (Value.slice A2 m c2).ownBlock → StepI w A L s2 now 1 (beatC s.node s.boot) (i + 1) (.slice A4 (m + 1) c4) w5) := Lib.hid (fun A4 c4 w5 ho hg => by
              have e : repC s2.node p = [.int .i64 5, .int .i64 0, .int .i64 s.node, .int .i64 0, .int .i64 0, .int .i64 0, .int .i64 p.job, .int .i64 p.att, .int .i64 0, .int .i64 0, .int .i64 p.how, .int .i64 0, .int .i64 0, .int .i64 0, .int .i64 0, .int .i64 0, .int .i64 0, .slice none 0 0, .int .i64 0, .int .i64 0, .int .i64 0] := by rw [HND.out]; rfl
              exact StepI.next HLOW.out HHA.out HHC.out hb hp HT.out HM.out HS.out HQ.out hown4.out (by rw [e]; exact ho) (by rw [e]; exact hg))
            clear hown4 HOWN
            refine wp_region_noPanic ?_
            refine wp_region_held_drew (S := fun w' => w'.cell? ⟨A, 0, none⟩ = some (.int .i64 s.node) ∧ w'.cell? ⟨b, 0, none⟩ = some (.int .i64 p.job) ∧ w'.cell? ⟨b, 1, none⟩ = some (.int .i64 p.att) ∧ w'.cell? ⟨b, 9, none⟩ = some (.int .i64 p.how)) (by kernel_rfl) ?_ (fun hHeld => ?_)
            · try dsimp only
              (refine ⟨?_, ?_, ?_, ?_⟩ <;> (first | with_reducible assumption))
            have HEQ : Hid (w4.drew.heap[A]? = w4.heap[A]?) := Lib.hid rfl
            have HWF : Hid (w4.drew.cell? ⟨A, 0, none⟩ = some (.int .i64 s.node) ∧ w4.drew.cell? ⟨b, 0, none⟩ = some (.int .i64 p.job) ∧ w4.drew.cell? ⟨b, 1, none⟩ = some (.int .i64 p.att) ∧ w4.drew.cell? ⟨b, 9, none⟩ = some (.int .i64 p.how)) := Lib.hid hHeld
            generalize w4.drew = Wd at *
            refine tk 0 ?_
            try simp only [Act.put, p1, p2, p3]
            refine tk 1 ?_
            try simp only [Act.put, p1, p2, p3]
            refine tk 2 ?_
            try simp only [Act.put, p1, p2, p3]
            refine tk 3 ?_
            try simp only [Act.put, p1, p2, p3]
            refine tk 4 ?_
            try simp only [Act.put, p1, p2, p3]
            refine tk 5 ?_
            try simp only [Act.put, p1, p2, p3]
            refine tk 6 ?_
            try simp only [Act.put, p1, p2, p3]
            refine tk 7 ?_
            try simp only [Act.put, p1, p2, p3]
            refine tk 8 ?_
            try simp only [Act.put, p1, p2, p3]
            refine tk 9 ?_
            try simp only [Act.put, p1, p2, p3]
            refine tk 10 ?_
            try simp only [Act.put, p1, p2, p3]
            refine tk 11 ?_
            try simp only [Act.put, p1, p2, p3]
            refine tk 12 ?_
            try simp only [Act.put, p1, p2, p3]
            refine tk 13 ?_
            try simp only [Act.put, p1, p2, p3]
            refine tk 14 ?_
            try simp only [Act.put, p1, p2, p3]
            refine tk 15 ?_
            try simp only [Act.put, p1, p2, p3]
            refine tk 16 ?_
            try simp only [Act.put, p1, p2, p3]
            refine tk 17 ?_
            try simp only [Act.put, p1, p2, p3]
            refine tk 18 ?_
            try simp only [Act.put, p1, p2, p3]
            refine tk 19 ?_
            try simp only [Act.put, p1, p2, p3]
            refine rd 20 fun K hK => ?_
            go_simp
            have f0' : (Wd.alloc (.cells #[.int .i64 5, .int .i64 0, .int .i64 s.node, .int .i64 0, .int .i64 0, .int .i64 0, .int .i64 p.job, .int .i64 p.att, .int .i64 0, .int .i64 0, .int .i64 p.how, .int .i64 0, .int .i64 0, .int .i64 0, .int .i64 0, .int .i64 0, .int .i64 0, .slice none 0 0, .int .i64 0, .int .i64 0, .int .i64 0] 35)).cell? ⟨A, 0, none⟩ = some (.int .i64 s.node) := keepA f0
            have g0' : (Wd.alloc (.cells #[.int .i64 5, .int .i64 0, .int .i64 s.node, .int .i64 0, .int .i64 0, .int .i64 0, .int .i64 p.job, .int .i64 p.att, .int .i64 0, .int .i64 0, .int .i64 p.how, .int .i64 0, .int .i64 0, .int .i64 0, .int .i64 0, .int .i64 0, .int .i64 0, .slice none 0 0, .int .i64 0, .int .i64 0, .int .i64 0] 35)).cell? ⟨b, 0, none⟩ = some (.int .i64 p.job) := keepA g0
            have g1' : (Wd.alloc (.cells #[.int .i64 5, .int .i64 0, .int .i64 s.node, .int .i64 0, .int .i64 0, .int .i64 0, .int .i64 p.job, .int .i64 p.att, .int .i64 0, .int .i64 0, .int .i64 p.how, .int .i64 0, .int .i64 0, .int .i64 0, .int .i64 0, .int .i64 0, .int .i64 0, .slice none 0 0, .int .i64 0, .int .i64 0, .int .i64 0] 35)).cell? ⟨b, 1, none⟩ = some (.int .i64 p.att) := keepA g1
            have g9' : (Wd.alloc (.cells #[.int .i64 5, .int .i64 0, .int .i64 s.node, .int .i64 0, .int .i64 0, .int .i64 0, .int .i64 p.job, .int .i64 p.att, .int .i64 0, .int .i64 0, .int .i64 p.how, .int .i64 0, .int .i64 0, .int .i64 0, .int .i64 0, .int .i64 0, .int .i64 0, .slice none 0 0, .int .i64 0, .int .i64 0, .int .i64 0] 35)).cell? ⟨b, 9, none⟩ = some (.int .i64 p.how) := keepA g9
            clear f0 g0 g1 g9
            refine hK.out _ _ ?_ (fun hHeld => ?_)
            · try dsimp only
              (refine ⟨?_, ?_, ?_, ?_⟩ <;> (first | with_reducible assumption))
            clear hK K
            try simp only [Act.put, p1, p2, p3]
            refine rd 21 fun K hK => ?_
            refine step_append_row _ rfl (.tmp 91) (.tmp 111) _ rfl w.heap.size 35 iM _ 21 184 Try.underlying38 hiM hz0 hz1 hz2 rfl (by omega) A2 m c2 ((beatC s.node s.boot) ++ reps s2.node now (s2.ps.take i)) rfl (HOD.out.alloc _) (Wd.heap.size + 1) (some ⟨Wd.heap.size, 0, none⟩) 1 1 [.int .i64 5, .int .i64 0, .int .i64 s.node, .int .i64 0, .int .i64 0, .int .i64 0, .int .i64 p.job, .int .i64 p.att, .int .i64 0, .int .i64 0, .int .i64 p.how, .int .i64 0, .int .i64 0, .int .i64 0, .int .i64 0, .int .i64 0, .int .i64 0, .slice none 0 0, .int .i64 0, .int .i64 0, .int .i64 0] rfl (cellsIn_alloc Wd #[.int .i64 5, .int .i64 0, .int .i64 s.node, .int .i64 0, .int .i64 0, .int .i64 0, .int .i64 p.job, .int .i64 p.att, .int .i64 0, .int .i64 0, .int .i64 p.how, .int .i64 0, .int .i64 0, .int .i64 0, .int .i64 0, .int .i64 0, .int .i64 0, .slice none 0 0, .int .i64 0, .int .i64 0, .int .i64 0] 35 (0, 0) 21 1 rfl) (by simp [Value.oneCell']) (by unfold maxLen; omega) (by omega) (by have := HDZ.out; simp; omega) ?_
            intro A4 c4 w5 hown hg hor
            have HN := Lib.hid (HNX.out A4 c4 w5 hown hg)
            have c5 : Chg (fun k => (Value.slice A2 m c2).ownBlock = some k) Wd w5 := ((Chg.refl _ Wd).alloc _).grown hg (fun k hk => .inr hk)
            have hA5 : A < w.heap.size := HLOW.out A (.inl rfl)
            have hb5 : b < w.heap.size := HLOW.out b hbo
            have nb : ¬ (Value.slice A2 m c2).ownBlock = some b := fun e => by have := HOB.out b e; omega
            have nA : ¬ (Value.slice A2 m c2).ownBlock = some A := fun e => by have := HOB.out A e; omega
            skip
            have i0 : Wd.cell? ⟨A, 0, none⟩ = some (.int .i64 s.node) := HWF.out.1
            have i1 : Wd.cell? ⟨b, 0, none⟩ = some (.int .i64 p.job) := HWF.out.2.1
            have i2 : Wd.cell? ⟨b, 1, none⟩ = some (.int .i64 p.att) := HWF.out.2.2.1
            have i3 : Wd.cell? ⟨b, 9, none⟩ = some (.int .i64 p.how) := HWF.out.2.2.2
            have n0 : w5.cell? ⟨A, 0, none⟩ = some (.int .i64 s.node) := c5.cell i0 nA
            have n1 : w5.cell? ⟨b, 0, none⟩ = some (.int .i64 p.job) := c5.cell i1 nb
            have n2 : w5.cell? ⟨b, 1, none⟩ = some (.int .i64 p.att) := c5.cell i2 nb
            have n3 : w5.cell? ⟨b, 9, none⟩ = some (.int .i64 p.how) := c5.cell i3 nb
            clear hown hg hor c5 i0 i1 i2 i3 f0' g0' g1' g9'
            refine hK.out _ _ ?_ (fun hHeld => ?_)
            · try dsimp only
              (refine ⟨?_, ?_, ?_, ?_⟩ <;> (first | with_reducible assumption))
            clear hK K
            try simp only [Act.put, p1, p2, p3]
            refine tk 22 ?_
            try simp only [Act.put, p1, p2, p3]
            refine wpAnyH_done (by kernel_rfl) ?_ _
            refine NoPanic.normal ?_
            clear hHeld n0 n1 n2 n3
            go_wp2_with fail
            go_roundw
            case rel => exact ⟨i + 1, by omega, by go_num, HN⟩
            case measure => simp [intOf]; omega
    · obtain rfl : i = n := by omega
      have e1 : s2.ps.take i = s2.ps := by rw [HN2.out, List.take_length]
      have e2 : mid (fun p => p.step now) s2.ps i = s2.ps.map fun p => p.step now := by rw [HN2.out]; exact mid_all _ _
      rw [e1] at hm hown
      rw [e2] at ha
      have hmt : m = s.told now := by rw [HTD.out, hm]
      have HF : Hid (StepPost w A L s now (.returned (.slice A2 m c2)) wr) := Lib.hid (by
        refine ⟨A2, c2, by rw [hmt], ?_, ?_, hc⟩
        · rw [HND.out] at hown; rw [← hmt, HOT.out]; exact hown
        · have e3 : s.steps now = { s2 with ps := s2.ps.map fun p => p.step now } := by rw [HS2.out]; rfl
          rw [e3]; exact ha)
      clear hm hown ha hc hmt e1 e2
      go_wp2_with fail
      go_ret
      exact HF.out
set_option maxRecDepth 10000 in
set_option maxHeartbeats 8000000 in
theorem step_late (w : World) {A : Nat} {L : Lay} {s : Ag} (h : AgAt w A L s) (now : Int) (h0 : ¬ now < s.tick) (hn : ¬ (1099511627776 : Int) ≤ now) (hup : s.up = true) (hln : s.ps.length ≤ 1000000) (hats : Ats s) (hb1 : s.beat = true) (hb2 : s.at_ + 3 ≤ now) :
    Calls Try.prog 13 #[.pointer (some ⟨A, 0, none⟩), .int .i64 now] w fun e w' => StepPost w A L s now e w' := by
  obtain ⟨iM, hiM, hz0, hz1, hz2⟩ := info_parts Try.infoMsg
  have hbt : s.beats now = true := by simp [Ag.beats, hb1, hb2]
  have hlow : ∀ k, L.own A k → k < w.heap.size := fun k hk => h.own_lt hk
  have c7 : w.cell? ⟨A, 7, none⟩ = some (.int .i64 s.tick) := cellb (i := 7) h.blk rfl
  have HCL := Lib.hid (clock_ok w A now s.tick c7 (fzb h.blk 7) h0 hn)
  have q := h.set (i := 7) (v := .int .i64 now) (s' := s.ticks now) (by simp [Ag.ticks]) rfl rfl h.booted
  have HA2 : Hid (AgAt (w.setCell ⟨A, 7, none⟩ (.int .i64 now)) A L (s.ticks now)) := Lib.hid q.1
  have HC2 : Hid (Chg (L.own A) w (w.setCell ⟨A, 7, none⟩ (.int .i64 now))) := Lib.hid (q.2.mono (fun k _ e => .inl e))
  have hlen : (s.ticks now).ps.length ≤ 100000000 := by show s.ps.length ≤ _; omega
  have HLOW := Lib.hid hlow
  have HATS := Lib.hid hats
  have HB1 := Lib.hid hb1
  have HBEAT := Lib.hid hbt
  clear q c7 h hlow hats hb1 hbt
  go_enter Try.func13, Try.ntmps13
  go_upto_region 3 with (go_at_call 23; refine HCL.out.mono ?_; clear HCL; rintro e w' ⟨rfl, rfl⟩; generalize w.setCell ⟨A, 7, none⟩ (.int .i64 now) = w2 at *; have c6 : w2.cell? ⟨A, 6, none⟩ = some (.bool true) := by rw [← hup]; exact cellb (i := 6) HA2.out.blk rfl)
  clear c6
  go_upto_region 4 with (go_at_call 24; refine (settle_ag w2 HA2.out hlen now).mono ?_; rintro e w3 ⟨⟨r3, rfl⟩, ha3, hc3⟩; have HA3 := Lib.hid ha3; have HC3 := Lib.hid (HC2.out.trans hc3); clear ha3 hc3)
  clear HA2 HC2 hlen
  have c13 : w3.cell? ⟨A, 13, none⟩ = some (.int .i64 s.at_) := cellb (i := 13) HA3.out.blk rfl
  have hw3 : IntKind.i64.wrap (s.at_ + 3) = s.at_ + 3 := IntWalk.i64_in _ (by have := HATS.out.1; omega)
  have c12 : w3.cell? ⟨A, 12, none⟩ = some (.bool true) := by rw [← HB1.out]; exact cellb (i := 12) HA3.out.blk rfl
  have HBT : Hid (s.beaten now = { (s.ticks now).settle now with beat := true, at_ := now }) := Lib.hid (by unfold Ag.beaten; rw [HBEAT.out]; simp)
  have HTD : Hid (s.told now = 1 + ((s.beaten now).ps.filter fun p => p.tells now).length) := Lib.hid (by unfold Ag.told; rw [HBEAT.out]; simp)
  have HOT : Hid (s.outs now = beatC s.node s.boot ++ reps s.node now (s.beaten now).ps) := Lib.hid (by unfold Ag.outs; rw [HBEAT.out]; simp)
  have z12 : w3.frozen? ⟨A, 12, none⟩ = false := fzb HA3.out.blk 12
  have q1 := HA3.out.set (i := 12) (v := .bool true) (s' := { (s.ticks now).settle now with beat := true }) (by simp [Ag.settle, Ag.ticks]) rfl rfl HA3.out.booted
  have q2 := q1.1.set (i := 13) (v := .int .i64 now) (s' := s.beaten now) (by rw [HBT.out]; simp [Ag.settle, Ag.ticks]) (by rw [HBT.out]) (by rw [HBT.out]) (by rw [HBT.out]; exact HA3.out.booted)
  have d13 : (w3.setCell ⟨A, 12, none⟩ (.bool true)).cell? ⟨A, 13, none⟩ = some (.int .i64 s.at_) := cellb (i := 13) q1.1.blk rfl
  have zd13 : (w3.setCell ⟨A, 12, none⟩ (.bool true)).frozen? ⟨A, 13, none⟩ = false := fzb q1.1.blk 13
  have z13 : w3.frozen? ⟨A, 13, none⟩ = false := fzb HA3.out.blk 13
  have HA4 := Lib.hid q2.1
  have HC4 := Lib.hid (HC3.out.trans ((q1.2.trans q2.2).mono (fun k _ e => .inl e)))
  clear q1 q2 HA3 HC3
  go_upto_region 7 with fail
  clear c12 c13 hw3 z12 d13 zd13 z13
  generalize (w3.setCell ⟨A, 12, none⟩ (.bool true)).setCell ⟨A, 13, none⟩ (.int .i64 now) = w4 at *
  have f0 : w4.drew.cell? ⟨A, 0, none⟩ = some (.int .i64 s.node) := by have := cellb (i := 0) HA4.out.blk rfl; rw [HBT.out] at this; exact this
  have f8 : w4.drew.cell? ⟨A, 8, none⟩ = some (.int .i64 s.boot) := by have := cellb (i := 8) HA4.out.blk rfl; rw [HBT.out] at this; exact this
  have HAB4 : Hid (AgAt w4.drew A L (s.beaten now)) := Lib.hid HA4.out.drew
  have HC5 : Hid (Chg (L.own A) w w4.drew) := Lib.hid HC4.out.drew
  clear HA4 HC4
  refine wp_region_noPanic ?_
  refine wp_region_held_drew (S := fun w' => w'.cell? ⟨A, 0, none⟩ = some (.int .i64 s.node) ∧ w'.cell? ⟨A, 8, none⟩ = some (.int .i64 s.boot)) (by kernel_rfl) ?_ (fun hHeld => ?_)
  · try dsimp only
    (refine ⟨?_, ?_⟩ <;> (first | with_reducible assumption))
  have HWF : Hid (w4.drew.cell? ⟨A, 0, none⟩ = some (.int .i64 s.node) ∧ w4.drew.cell? ⟨A, 8, none⟩ = some (.int .i64 s.boot)) := Lib.hid hHeld
  generalize w4.drew = Wd at *
  refine tk 0 ?_
  try simp only [Act.put, p1, p2, p3]
  refine tk 1 ?_
  try simp only [Act.put, p1, p2, p3]
  refine tk 2 ?_
  try simp only [Act.put, p1, p2, p3]
  refine tk 3 ?_
  try simp only [Act.put, p1, p2, p3]
  refine tk 4 ?_
  try simp only [Act.put, p1, p2, p3]
  refine tk 5 ?_
  try simp only [Act.put, p1, p2, p3]
  refine tk 6 ?_
  try simp only [Act.put, p1, p2, p3]
  refine tk 7 ?_
  try simp only [Act.put, p1, p2, p3]
  refine tk 8 ?_
  try simp only [Act.put, p1, p2, p3]
  refine tk 9 ?_
  try simp only [Act.put, p1, p2, p3]
  refine rd 10 fun K hK => ?_
  go_simp
  have f0' : (Wd.alloc (.cells #[.int .i64 1, .int .i64 0, .int .i64 s.node, .int .i64 s.boot, .int .i64 0, .int .i64 0, .int .i64 0, .int .i64 0, .int .i64 0, .int .i64 0, .int .i64 0, .int .i64 0, .int .i64 0, .int .i64 0, .int .i64 0, .int .i64 0, .int .i64 0, .slice none 0 0, .int .i64 0, .int .i64 0, .int .i64 0] 35)).cell? ⟨A, 0, none⟩ = some (.int .i64 s.node) := keepA f0
  have f8' : (Wd.alloc (.cells #[.int .i64 1, .int .i64 0, .int .i64 s.node, .int .i64 s.boot, .int .i64 0, .int .i64 0, .int .i64 0, .int .i64 0, .int .i64 0, .int .i64 0, .int .i64 0, .int .i64 0, .int .i64 0, .int .i64 0, .int .i64 0, .int .i64 0, .int .i64 0, .slice none 0 0, .int .i64 0, .int .i64 0, .int .i64 0] 35)).cell? ⟨A, 8, none⟩ = some (.int .i64 s.boot) := keepA f8
  clear f0 f8
  refine hK.out _ _ ?_ (fun hHeld => ?_)
  · try dsimp only
    (refine ⟨?_, ?_⟩ <;> (first | with_reducible assumption))
  clear hK K
  try simp only [Act.put, p1, p2, p3]
  refine rd 11 fun K hK => ?_
  have HO0 : Hid ((Wd.alloc (.cells #[.int .i64 1, .int .i64 0, .int .i64 s.node, .int .i64 s.boot, .int .i64 0, .int .i64 0, .int .i64 0, .int .i64 0, .int .i64 0, .int .i64 0, .int .i64 0, .int .i64 0, .int .i64 0, .int .i64 0, .int .i64 0, .int .i64 0, .int .i64 0, .slice none 0 0, .int .i64 0, .int .i64 0, .int .i64 0] 35)).ownsRow w.heap.size 35 21 (.slice none 0 0) 0 []) := Lib.hid ⟨rfl, .inl ⟨rfl, rfl⟩⟩
  refine step_append_row _ rfl (.tmp 43) (.tmp 53) _ rfl w.heap.size 35 iM _ 21 184 Try.underlying38 hiM hz0 hz1 hz2 rfl (by omega) none 0 0 [] rfl HO0.out (Wd.heap.size + 1) (some ⟨Wd.heap.size, 0, none⟩) 1 1 [.int .i64 1, .int .i64 0, .int .i64 s.node, .int .i64 s.boot, .int .i64 0, .int .i64 0, .int .i64 0, .int .i64 0, .int .i64 0, .int .i64 0, .int .i64 0, .int .i64 0, .int .i64 0, .int .i64 0, .int .i64 0, .int .i64 0, .int .i64 0, .slice none 0 0, .int .i64 0, .int .i64 0, .int .i64 0] rfl (cellsIn_alloc Wd #[.int .i64 1, .int .i64 0, .int .i64 s.node, .int .i64 s.boot, .int .i64 0, .int .i64 0, .int .i64 0, .int .i64 0, .int .i64 0, .int .i64 0, .int .i64 0, .int .i64 0, .int .i64 0, .int .i64 0, .int .i64 0, .int .i64 0, .int .i64 0, .slice none 0 0, .int .i64 0, .int .i64 0, .int .i64 0] 35 (0, 0) 21 1 rfl) (by simp [Value.oneCell']) (by unfold maxLen; omega) (by omega) (by have := HC5.out.size; simp; omega) ?_
  intro A4 c4 W hown hg hor
  have c5 : Chg (fun _ => False) Wd W := ((Chg.refl _ Wd).alloc _).grown hg (fun k hk => by cases hk)
  have HAB : Hid (AgAt W A L (s.beaten now)) := Lib.hid (HAB4.out.chg c5 (fun k hk => hk.elim))
  have HI : Hid (StepI w A L (s.beaten now) now 1 (beatC s.node s.boot) 0 (.slice A4 (0 + 1) c4) W) := Lib.hid ⟨A4, c4, 0 + 1, rfl, by simp, by simpa [reps, beatC] using hown, by rw [mid_zero]; exact HAB.out, HC5.out.trans (c5.mono (fun k _ h => h.elim))⟩
  have n0 : W.cell? ⟨A, 0, none⟩ = some (.int .i64 s.node) := c5.cell HWF.out.1 (fun h => h)
  have n8 : W.cell? ⟨A, 8, none⟩ = some (.int .i64 s.boot) := c5.cell HWF.out.2 (fun h => h)
  clear hown hg hor c5 f0' f8'
  refine hK.out _ _ ?_ (fun hHeld => ?_)
  · try dsimp only
    (refine ⟨?_, ?_⟩ <;> (first | with_reducible assumption))
  clear hK K
  try simp only [Act.put, p1, p2, p3]
  refine tk 12 ?_
  try simp only [Act.put, p1, p2, p3]
  refine wpAnyH_done (by kernel_rfl) ?_ _
  refine NoPanic.normal ?_
  clear hHeld n0 n8 HWF HAB4 HC5
  have hnode : (s.beaten now).node = s.node := by rw [HBT.out]; rfl
  have HND := Lib.hid hnode
  have hbl : (s.beaten now).ps.length = s.ps.length := by rw [HBT.out]; simp [Ag.settle, Ag.ticks]
  have hln2 : L.n = (s.beaten now).ps.length := by rw [HAB.out.blen, HAB.out.plen]
  have HN2 := Lib.hid hln2
  have hnb : L.n ≤ 1000000 := by omega
  have hpat : ∀ p ∈ (s.beaten now).ps, 0 ≤ p.at_ ∧ p.at_ ≤ 2199023255552 := by
    intro p hp
    have e : (s.beaten now).ps = s.ps.map fun p => p.settle s.until_ now := by rw [HBT.out]; rfl
    rw [e] at hp
    obtain ⟨q, hq, rfl⟩ := List.mem_map.1 hp
    have := HATS.out.2 q hq
    unfold Pt.settle Pt.over
    split <;> exact this
  have HPAT := Lib.hid hpat
  obtain ⟨rb, hrb⟩ := HAB.out.rb
  obtain ⟨RA, hRA⟩ : ∃ x, x = L.RA := ⟨_, rfl⟩
  rw [← hRA] at hrb
  have HRA := Lib.hid hRA
  have HRB := Lib.hid hrb
  have c15 : W.cell? ⟨A, 15, none⟩ = some (.slice RA L.n L.c) := by rw [hRA]; exact cellb (i := 15) HAB.out.blk rfl
  obtain ⟨s2, hs2⟩ : ∃ x, x = s.beaten now := ⟨_, rfl⟩
  rw [← hs2] at HI HND HN2 HPAT HTD HOT
  have HS2 := Lib.hid hs2
  obtain ⟨n, hnq⟩ : ∃ x, x = L.n := ⟨_, rfl⟩
  rw [← hnq] at c15 hnb HN2
  have HNQ := Lib.hid hnq
  clear hnode hbl hln2 hpat hRA hrb hs2 hnq HAB hln
  go_wp2_with fail
  go_loopw [5, 60] (fun o v wr => ∃ i : Nat, i ≤ n ∧ v = .int .i64 i ∧ Hid (StepI w A L s2 now 1 (beatC s.node s.boot) i o wr)) (fun _ v _ => n - (intOf v).toNat)
  case atStart => exact ⟨0, Nat.zero_le _, rfl, HI⟩
  case round =>
    obtain ⟨i, hi, rfl, HJ⟩ := hrel
    obtain ⟨A2, c2, m, rfl, hm, hown, ha, hc⟩ := HJ.out
    by_cases hin : i < n
    · have hi0 : (0 : Int) ≤ (i : Int) := by omega
      have hi1 : (i : Int) < (n : Int) := by omega
      have hlt : i < s2.ps.length := by have := HN2.out; omega
      obtain ⟨p, hp⟩ : ∃ p, s2.ps[i]? = some p := ⟨_, List.getElem?_eq_getElem hlt⟩
      have hmi : (mid (fun p => p.step now) s2.ps i)[i]? = some p := mid_at _ _ hp
      obtain ⟨b, hb, hpt⟩ := bs_at ha hmi
      have hcr : RA = some ⟨rb, 0, none⟩ ∧ wr.cell? ⟨rb, i, none⟩ = some (.pointer (some ⟨b, 0, none⟩)) := by
        rcases ha.row.2 with ⟨hv, h3⟩ | ⟨g, cap, cur, hv, _, hg, _⟩
        · have := HNQ.out; omega
        · injection hv with e1
          have e2 : RA = some ⟨g, 0, none⟩ := by rw [HRA.out, e1]
          rcases HRB.out with e | e
          · rw [e2] at e; cases e
          · have e3 := e2.symm.trans e
            injection e3 with e3; injection e3 with e3
            subst e3
            refine ⟨e2, ?_⟩
            have hcell := ha.row.cells (g := g) (by rw [e1]; rfl) i (.pointer (some ⟨b, 0, none⟩)) (by simp [hb])
            rwa [Addr.add_lit, Nat.zero_add] at hcell
      obtain ⟨hra, hptr⟩ := hcr
      subst hra
      have hm3 : m ≤ 1000001 := by
        rw [hm]
        have := List.length_filter_le (fun p => Pt.tells p now) (s2.ps.take i)
        have h2 : (s2.ps.take i).length ≤ i := by rw [List.length_take]; omega
        omega
      have hab := HPAT.out p (List.mem_of_getElem? hp)
      have hw4 : IntKind.i64.wrap (p.at_ + 4) = p.at_ + 4 := IntWalk.i64_in _ (by omega)
      have HHA := Lib.hid ha
      have HHC := Lib.hid hc
      have HOWN := Lib.hid hown
      have HM := Lib.hid hm
      have HPT := Lib.hid hpt
      have k12 : wr.cell? ⟨b, 12, none⟩ = some (.int .i64 p.at_) := cellb (i := 12) hpt rfl
      have hle : w.heap.size ≤ wr.heap.size := hc.size
      clear ha hc hown hm hpt hmi HRB
      cases hrep : p.rep
      · have k10 : wr.cell? ⟨b, 10, none⟩ = some (.bool false) := by rw [← hrep]; exact cellb (i := 10) HPT.out rfl
        have HT : Hid (p.tells now = false) := Lib.hid (by simp [Pt.tells, hrep])
        clear hrep
        go_wp2_with fail
        go_roundw
        case rel => exact ⟨i + 1, by omega, by go_num, Lib.hid (HJ.out.stay hp HT.out)⟩
        case measure => simp [intOf]; omega
      · have k10 : wr.cell? ⟨b, 10, none⟩ = some (.bool true) := by rw [← hrep]; exact cellb (i := 10) HPT.out rfl
        by_cases hso : p.sent = true ∧ ¬ p.at_ + 4 ≤ now
        · obtain ⟨hsent, hat⟩ := hso
          have k11 : wr.cell? ⟨b, 11, none⟩ = some (.bool true) := by rw [← hsent]; exact cellb (i := 11) HPT.out rfl
          have HT : Hid (p.tells now = false) := Lib.hid (by simp [Pt.tells, hrep, hsent]; omega)
          clear hrep hsent
          go_wp2_with fail
          go_roundw
          case rel => exact ⟨i + 1, by omega, by go_num, Lib.hid (HJ.out.stay hp HT.out)⟩
          case measure => simp [intOf]; omega
        · cases hsent : p.sent
          · skip
            have k11 : wr.cell? ⟨b, 11, none⟩ = some (.bool false) := by rw [← hsent]; exact cellb (i := 11) HPT.out rfl
            have HT : Hid (p.tells now = true) := Lib.hid (by simp [Pt.tells, hrep, hsent])
            have k11' : wr.cell? ⟨b, 11, none⟩ = some (.bool p.sent) := cellb (i := 11) HPT.out rfl
            have z11 : wr.frozen? ⟨b, 11, none⟩ = false := fzb HPT.out 11
            have z12 : wr.frozen? ⟨b, 12, none⟩ = false := fzb HPT.out 12
            have b1 := set_blk (i := 11) (show wr.heap[b]? = _ from HPT.out) (.bool true)
            have b2 := set_blk (i := 12) b1 (.int .i64 now)
            have j12 : (wr.setCell ⟨b, 11, none⟩ (.bool true)).cell? ⟨b, 12, none⟩ = some (.int .i64 p.at_) := cellb (i := 12) b1 rfl
            have zj12 : (wr.setCell ⟨b, 11, none⟩ (.bool true)).frozen? ⟨b, 12, none⟩ = false := by rw [show ({ block := b, off := 12 } : Addr) = ⟨b, 12, none⟩ from rfl]; exact fzb b1 12
            have c1 : Chg (fun k => k = b) wr (wr.setCell ⟨b, 11, none⟩ (.bool true)) := (Chg.refl (fun k => k = b) wr).setCell (p := ⟨b, 11, none⟩) (.inr rfl) _
            have c2' := c1.setCell (p := ⟨b, 12, none⟩) (.inr rfl) (.int .i64 now)
            have HS := Lib.hid c2'
            have HQ : Hid (PtAt ((wr.setCell ⟨b, 11, none⟩ (.bool true)).setCell ⟨b, 12, none⟩ (.int .i64 now)) b { p with sent := true, at_ := now }) := Lib.hid (by unfold PtAt; rw [b2]; simp)
            clear b1 b2 c1 c2' hrep hsent k11'
            go_upto_region 13 with fail
            clear k10 k11 k12 hptr z11 z12 j12 zj12
            generalize (wr.setCell ⟨b, 11, none⟩ (.bool true)).setCell ⟨b, 12, none⟩ (.int .i64 now) = w4 at *
            have hbA : b ≠ A := ne_tag HPT.out HHA.out.blk (by simp [otag])
            have HA4 : Hid (w4.heap[A]? = some (.cells (({ s2 with ps := mid (fun p => p.step now) s2.ps i } : Ag).cells L) 60 (0, 0))) := Lib.hid ((HS.out.block A HHA.out.lt (fun e => hbA e.symm)).trans HHA.out.blk)
            have HOB : Hid (∀ k, (Value.slice A2 m c2).ownBlock = some k → w.heap.size ≤ k) := Lib.hid (fun k hk => (HOWN.out.lt k hk).1)
            have hown4 : Hid (w4.ownsRow w.heap.size 35 21 (.slice A2 m c2) m ((beatC s.node s.boot) ++ reps s2.node now (s2.ps.take i))) := Lib.hid (HS.out.own HOWN.out (fun k hk e => by
              obtain ⟨cur, f, e0⟩ := own_elem HOWN.out hk
              exact ne_tag e0 HPT.out (by simp [otag]) e))
            have hle4 : w.heap.size ≤ w4.heap.size := Nat.le_trans hle HS.out.size
            have hbo : L.own A b := .inr (.inr (.inr (.inr (List.mem_of_getElem? hb))))
            have f0 : w4.drew.cell? ⟨A, 0, none⟩ = some (.int .i64 s.node) := by rw [← HND.out]; exact cellb (i := 0) HA4.out rfl
            have g0 : w4.drew.cell? ⟨b, 0, none⟩ = some (.int .i64 p.job) := cellb (i := 0) HQ.out rfl
            have g1 : w4.drew.cell? ⟨b, 1, none⟩ = some (.int .i64 p.att) := cellb (i := 1) HQ.out rfl
            have g9 : w4.drew.cell? ⟨b, 9, none⟩ = some (.int .i64 p.how) := cellb (i := 9) HQ.out rfl
            have HOD : Hid (w4.drew.ownsRow w.heap.size 35 21 (.slice A2 m c2) m ((beatC s.node s.boot) ++ reps s2.node now (s2.ps.take i))) := hown4
            have HDZ : Hid (w4.drew.heap.size = w4.heap.size) := Lib.hid rfl
            have HD4 : Hid (Chg (fun k => k = b) w4 w4.drew) := Lib.hid (Chg.refl _ w4).drew
            have HNX : Hid (∀ A4 c4 w5, w5.ownsRow w.heap.size 35 21 (.slice A4 (m + 1) c4) (m + 1) (((beatC s.node s.boot) ++ reps s2.node now (s2.ps.take i)) ++ [.int .i64 5, .int .i64 0, .int .i64 s.node, .int .i64 0, .int .i64 0, .int .i64 0, .int .i64 p.job, .int .i64 p.att, .int .i64 0, .int .i64 0, .int .i64 p.how, .int .i64 0, .int .i64 0, .int .i64 0, .int .i64 0, .int .i64 0, .int .i64 0, .slice none 0 0, .int .i64 0, .int .i64 0, .int .i64 0]) → (w4.drew.alloc (.cells #[.int .i64 5, .int .i64 0, .int .i64 s.node, .int .i64 0, .int .i64 0, .int .i64 0, .int .i64 p.job, .int .i64 p.att, .int .i64 0, .int .i64 0, .int .i64 p.how, .int .i64 0, .int .i64 0, .int .i64 0, .int .i64 0, .int .i64 0, .int .i64 0, .slice none 0 0, .int .i64 0, .int .i64 0, .int .i64 0] 35)).grownBy w5 (Value.slice A2 m c2).ownBlock → StepI w A L s2 now 1 (beatC s.node s.boot) (i + 1) (.slice A4 (m + 1) c4) w5) := Lib.hid (fun A4 c4 w5 ho hg => by
              have e : repC s2.node p = [.int .i64 5, .int .i64 0, .int .i64 s.node, .int .i64 0, .int .i64 0, .int .i64 0, .int .i64 p.job, .int .i64 p.att, .int .i64 0, .int .i64 0, .int .i64 p.how, .int .i64 0, .int .i64 0, .int .i64 0, .int .i64 0, .int .i64 0, .int .i64 0, .slice none 0 0, .int .i64 0, .int .i64 0, .int .i64 0] := by rw [HND.out]; rfl
              exact StepI.next HLOW.out HHA.out HHC.out hb hp HT.out HM.out HS.out HQ.out hown4.out (by rw [e]; exact ho) (by rw [e]; exact hg))
            clear hown4 HOWN
            refine wp_region_noPanic ?_
            refine wp_region_held_drew (S := fun w' => w'.cell? ⟨A, 0, none⟩ = some (.int .i64 s.node) ∧ w'.cell? ⟨b, 0, none⟩ = some (.int .i64 p.job) ∧ w'.cell? ⟨b, 1, none⟩ = some (.int .i64 p.att) ∧ w'.cell? ⟨b, 9, none⟩ = some (.int .i64 p.how)) (by kernel_rfl) ?_ (fun hHeld => ?_)
            · try dsimp only
              (refine ⟨?_, ?_, ?_, ?_⟩ <;> (first | with_reducible assumption))
            have HEQ : Hid (w4.drew.heap[A]? = w4.heap[A]?) := Lib.hid rfl
            have HWF : Hid (w4.drew.cell? ⟨A, 0, none⟩ = some (.int .i64 s.node) ∧ w4.drew.cell? ⟨b, 0, none⟩ = some (.int .i64 p.job) ∧ w4.drew.cell? ⟨b, 1, none⟩ = some (.int .i64 p.att) ∧ w4.drew.cell? ⟨b, 9, none⟩ = some (.int .i64 p.how)) := Lib.hid hHeld
            generalize w4.drew = Wd at *
            refine tk 0 ?_
            try simp only [Act.put, p1, p2, p3]
            refine tk 1 ?_
            try simp only [Act.put, p1, p2, p3]
            refine tk 2 ?_
            try simp only [Act.put, p1, p2, p3]
            refine tk 3 ?_
            try simp only [Act.put, p1, p2, p3]
            refine tk 4 ?_
            try simp only [Act.put, p1, p2, p3]
            refine tk 5 ?_
            try simp only [Act.put, p1, p2, p3]
            refine tk 6 ?_
            try simp only [Act.put, p1, p2, p3]
            refine tk 7 ?_
            try simp only [Act.put, p1, p2, p3]
            refine tk 8 ?_
            try simp only [Act.put, p1, p2, p3]
            refine tk 9 ?_
            try simp only [Act.put, p1, p2, p3]
            refine tk 10 ?_
            try simp only [Act.put, p1, p2, p3]
            refine tk 11 ?_
            try simp only [Act.put, p1, p2, p3]
            refine tk 12 ?_
            try simp only [Act.put, p1, p2, p3]
            refine tk 13 ?_
            try simp only [Act.put, p1, p2, p3]
            refine tk 14 ?_
            try simp only [Act.put, p1, p2, p3]
            refine tk 15 ?_
            try simp only [Act.put, p1, p2, p3]
            refine tk 16 ?_
            try simp only [Act.put, p1, p2, p3]
            refine tk 17 ?_
            try simp only [Act.put, p1, p2, p3]
            refine tk 18 ?_
            try simp only [Act.put, p1, p2, p3]
            refine tk 19 ?_
            try simp only [Act.put, p1, p2, p3]
            refine rd 20 fun K hK => ?_
            go_simp
            have f0' : (Wd.alloc (.cells #[.int .i64 5, .int .i64 0, .int .i64 s.node, .int .i64 0, .int .i64 0, .int .i64 0, .int .i64 p.job, .int .i64 p.att, .int .i64 0, .int .i64 0, .int .i64 p.how, .int .i64 0, .int .i64 0, .int .i64 0, .int .i64 0, .int .i64 0, .int .i64 0, .slice none 0 0, .int .i64 0, .int .i64 0, .int .i64 0] 35)).cell? ⟨A, 0, none⟩ = some (.int .i64 s.node) := keepA f0
            have g0' : (Wd.alloc (.cells #[.int .i64 5, .int .i64 0, .int .i64 s.node, .int .i64 0, .int .i64 0, .int .i64 0, .int .i64 p.job, .int .i64 p.att, .int .i64 0, .int .i64 0, .int .i64 p.how, .int .i64 0, .int .i64 0, .int .i64 0, .int .i64 0, .int .i64 0, .int .i64 0, .slice none 0 0, .int .i64 0, .int .i64 0, .int .i64 0] 35)).cell? ⟨b, 0, none⟩ = some (.int .i64 p.job) := keepA g0
            have g1' : (Wd.alloc (.cells #[.int .i64 5, .int .i64 0, .int .i64 s.node, .int .i64 0, .int .i64 0, .int .i64 0, .int .i64 p.job, .int .i64 p.att, .int .i64 0, .int .i64 0, .int .i64 p.how, .int .i64 0, .int .i64 0, .int .i64 0, .int .i64 0, .int .i64 0, .int .i64 0, .slice none 0 0, .int .i64 0, .int .i64 0, .int .i64 0] 35)).cell? ⟨b, 1, none⟩ = some (.int .i64 p.att) := keepA g1
            have g9' : (Wd.alloc (.cells #[.int .i64 5, .int .i64 0, .int .i64 s.node, .int .i64 0, .int .i64 0, .int .i64 0, .int .i64 p.job, .int .i64 p.att, .int .i64 0, .int .i64 0, .int .i64 p.how, .int .i64 0, .int .i64 0, .int .i64 0, .int .i64 0, .int .i64 0, .int .i64 0, .slice none 0 0, .int .i64 0, .int .i64 0, .int .i64 0] 35)).cell? ⟨b, 9, none⟩ = some (.int .i64 p.how) := keepA g9
            clear f0 g0 g1 g9
            refine hK.out _ _ ?_ (fun hHeld => ?_)
            · try dsimp only
              (refine ⟨?_, ?_, ?_, ?_⟩ <;> (first | with_reducible assumption))
            clear hK K
            try simp only [Act.put, p1, p2, p3]
            refine rd 21 fun K hK => ?_
            refine step_append_row _ rfl (.tmp 91) (.tmp 111) _ rfl w.heap.size 35 iM _ 21 184 Try.underlying38 hiM hz0 hz1 hz2 rfl (by omega) A2 m c2 ((beatC s.node s.boot) ++ reps s2.node now (s2.ps.take i)) rfl (HOD.out.alloc _) (Wd.heap.size + 1) (some ⟨Wd.heap.size, 0, none⟩) 1 1 [.int .i64 5, .int .i64 0, .int .i64 s.node, .int .i64 0, .int .i64 0, .int .i64 0, .int .i64 p.job, .int .i64 p.att, .int .i64 0, .int .i64 0, .int .i64 p.how, .int .i64 0, .int .i64 0, .int .i64 0, .int .i64 0, .int .i64 0, .int .i64 0, .slice none 0 0, .int .i64 0, .int .i64 0, .int .i64 0] rfl (cellsIn_alloc Wd #[.int .i64 5, .int .i64 0, .int .i64 s.node, .int .i64 0, .int .i64 0, .int .i64 0, .int .i64 p.job, .int .i64 p.att, .int .i64 0, .int .i64 0, .int .i64 p.how, .int .i64 0, .int .i64 0, .int .i64 0, .int .i64 0, .int .i64 0, .int .i64 0, .slice none 0 0, .int .i64 0, .int .i64 0, .int .i64 0] 35 (0, 0) 21 1 rfl) (by simp [Value.oneCell']) (by unfold maxLen; omega) (by omega) (by have := HDZ.out; simp; omega) ?_
            intro A4 c4 w5 hown hg hor
            have HN := Lib.hid (HNX.out A4 c4 w5 hown hg)
            have c5 : Chg (fun k => (Value.slice A2 m c2).ownBlock = some k) Wd w5 := ((Chg.refl _ Wd).alloc _).grown hg (fun k hk => .inr hk)
            have hA5 : A < w.heap.size := HLOW.out A (.inl rfl)
            have hb5 : b < w.heap.size := HLOW.out b hbo
            have nb : ¬ (Value.slice A2 m c2).ownBlock = some b := fun e => by have := HOB.out b e; omega
            have nA : ¬ (Value.slice A2 m c2).ownBlock = some A := fun e => by have := HOB.out A e; omega
            skip
            have i0 : Wd.cell? ⟨A, 0, none⟩ = some (.int .i64 s.node) := HWF.out.1
            have i1 : Wd.cell? ⟨b, 0, none⟩ = some (.int .i64 p.job) := HWF.out.2.1
            have i2 : Wd.cell? ⟨b, 1, none⟩ = some (.int .i64 p.att) := HWF.out.2.2.1
            have i3 : Wd.cell? ⟨b, 9, none⟩ = some (.int .i64 p.how) := HWF.out.2.2.2
            have n0 : w5.cell? ⟨A, 0, none⟩ = some (.int .i64 s.node) := c5.cell i0 nA
            have n1 : w5.cell? ⟨b, 0, none⟩ = some (.int .i64 p.job) := c5.cell i1 nb
            have n2 : w5.cell? ⟨b, 1, none⟩ = some (.int .i64 p.att) := c5.cell i2 nb
            have n3 : w5.cell? ⟨b, 9, none⟩ = some (.int .i64 p.how) := c5.cell i3 nb
            clear hown hg hor c5 i0 i1 i2 i3 f0' g0' g1' g9'
            refine hK.out _ _ ?_ (fun hHeld => ?_)
            · try dsimp only
              (refine ⟨?_, ?_, ?_, ?_⟩ <;> (first | with_reducible assumption))
            clear hK K
            try simp only [Act.put, p1, p2, p3]
            refine tk 22 ?_
            try simp only [Act.put, p1, p2, p3]
            refine wpAnyH_done (by kernel_rfl) ?_ _
            refine NoPanic.normal ?_
            clear hHeld n0 n1 n2 n3
            go_wp2_with fail
            go_roundw
            case rel => exact ⟨i + 1, by omega, by go_num, HN⟩
            case measure => simp [intOf]; omega
          · skip
            have k11 : wr.cell? ⟨b, 11, none⟩ = some (.bool true) := by rw [← hsent]; exact cellb (i := 11) HPT.out rfl
            have hat : p.at_ + 4 ≤ now := Classical.byContradiction (fun e => hso ⟨hsent, e⟩)
            have HT : Hid (p.tells now = true) := Lib.hid (by simp [Pt.tells, hrep, hsent]; omega)
            have k11' : wr.cell? ⟨b, 11, none⟩ = some (.bool p.sent) := cellb (i := 11) HPT.out rfl
            have z11 : wr.frozen? ⟨b, 11, none⟩ = false := fzb HPT.out 11
            have z12 : wr.frozen? ⟨b, 12, none⟩ = false := fzb HPT.out 12
            have b1 := set_blk (i := 11) (show wr.heap[b]? = _ from HPT.out) (.bool true)
            have b2 := set_blk (i := 12) b1 (.int .i64 now)
            have j12 : (wr.setCell ⟨b, 11, none⟩ (.bool true)).cell? ⟨b, 12, none⟩ = some (.int .i64 p.at_) := cellb (i := 12) b1 rfl
            have zj12 : (wr.setCell ⟨b, 11, none⟩ (.bool true)).frozen? ⟨b, 12, none⟩ = false := by rw [show ({ block := b, off := 12 } : Addr) = ⟨b, 12, none⟩ from rfl]; exact fzb b1 12
            have c1 : Chg (fun k => k = b) wr (wr.setCell ⟨b, 11, none⟩ (.bool true)) := (Chg.refl (fun k => k = b) wr).setCell (p := ⟨b, 11, none⟩) (.inr rfl) _
            have c2' := c1.setCell (p := ⟨b, 12, none⟩) (.inr rfl) (.int .i64 now)
            have HS := Lib.hid c2'
            have HQ : Hid (PtAt ((wr.setCell ⟨b, 11, none⟩ (.bool true)).setCell ⟨b, 12, none⟩ (.int .i64 now)) b { p with sent := true, at_ := now }) := Lib.hid (by unfold PtAt; rw [b2]; simp)
            clear b1 b2 c1 c2' hrep hsent k11'
            go_upto_region 13 with fail
            clear k10 k11 k12 hptr z11 z12 j12 zj12
            generalize (wr.setCell ⟨b, 11, none⟩ (.bool true)).setCell ⟨b, 12, none⟩ (.int .i64 now) = w4 at *
            have hbA : b ≠ A := ne_tag HPT.out HHA.out.blk (by simp [otag])
            have HA4 : Hid (w4.heap[A]? = some (.cells (({ s2 with ps := mid (fun p => p.step now) s2.ps i } : Ag).cells L) 60 (0, 0))) := Lib.hid ((HS.out.block A HHA.out.lt (fun e => hbA e.symm)).trans HHA.out.blk)
            have HOB : Hid (∀ k, (Value.slice A2 m c2).ownBlock = some k → w.heap.size ≤ k) := Lib.hid (fun k hk => (HOWN.out.lt k hk).1)
            have hown4 : Hid (w4.ownsRow w.heap.size 35 21 (.slice A2 m c2) m ((beatC s.node s.boot) ++ reps s2.node now (s2.ps.take i))) := Lib.hid (HS.out.own HOWN.out (fun k hk e => by
              obtain ⟨cur, f, e0⟩ := own_elem HOWN.out hk
              exact ne_tag e0 HPT.out (by simp [otag]) e))
            have hle4 : w.heap.size ≤ w4.heap.size := Nat.le_trans hle HS.out.size
            have hbo : L.own A b := .inr (.inr (.inr (.inr (List.mem_of_getElem? hb))))
            have f0 : w4.drew.cell? ⟨A, 0, none⟩ = some (.int .i64 s.node) := by rw [← HND.out]; exact cellb (i := 0) HA4.out rfl
            have g0 : w4.drew.cell? ⟨b, 0, none⟩ = some (.int .i64 p.job) := cellb (i := 0) HQ.out rfl
            have g1 : w4.drew.cell? ⟨b, 1, none⟩ = some (.int .i64 p.att) := cellb (i := 1) HQ.out rfl
            have g9 : w4.drew.cell? ⟨b, 9, none⟩ = some (.int .i64 p.how) := cellb (i := 9) HQ.out rfl
            have HOD : Hid (w4.drew.ownsRow w.heap.size 35 21 (.slice A2 m c2) m ((beatC s.node s.boot) ++ reps s2.node now (s2.ps.take i))) := hown4
            have HDZ : Hid (w4.drew.heap.size = w4.heap.size) := Lib.hid rfl
            have HD4 : Hid (Chg (fun k => k = b) w4 w4.drew) := Lib.hid (Chg.refl _ w4).drew
            have HNX : Hid (∀ A4 c4 w5, w5.ownsRow w.heap.size 35 21 (.slice A4 (m + 1) c4) (m + 1) (((beatC s.node s.boot) ++ reps s2.node now (s2.ps.take i)) ++ [.int .i64 5, .int .i64 0, .int .i64 s.node, .int .i64 0, .int .i64 0, .int .i64 0, .int .i64 p.job, .int .i64 p.att, .int .i64 0, .int .i64 0, .int .i64 p.how, .int .i64 0, .int .i64 0, .int .i64 0, .int .i64 0, .int .i64 0, .int .i64 0, .slice none 0 0, .int .i64 0, .int .i64 0, .int .i64 0]) → (w4.drew.alloc (.cells #[.int .i64 5, .int .i64 0, .int .i64 s.node, .int .i64 0, .int .i64 0, .int .i64 0, .int .i64 p.job, .int .i64 p.att, .int .i64 0, .int .i64 0, .int .i64 p.how, .int .i64 0, .int .i64 0, .int .i64 0, .int .i64 0, .int .i64 0, .int .i64 0, .slice none 0 0, .int .i64 0, .int .i64 0, .int .i64 0] 35)).grownBy w5 (Value.slice A2 m c2).ownBlock → StepI w A L s2 now 1 (beatC s.node s.boot) (i + 1) (.slice A4 (m + 1) c4) w5) := Lib.hid (fun A4 c4 w5 ho hg => by
              have e : repC s2.node p = [.int .i64 5, .int .i64 0, .int .i64 s.node, .int .i64 0, .int .i64 0, .int .i64 0, .int .i64 p.job, .int .i64 p.att, .int .i64 0, .int .i64 0, .int .i64 p.how, .int .i64 0, .int .i64 0, .int .i64 0, .int .i64 0, .int .i64 0, .int .i64 0, .slice none 0 0, .int .i64 0, .int .i64 0, .int .i64 0] := by rw [HND.out]; rfl
              exact StepI.next HLOW.out HHA.out HHC.out hb hp HT.out HM.out HS.out HQ.out hown4.out (by rw [e]; exact ho) (by rw [e]; exact hg))
            clear hown4 HOWN
            refine wp_region_noPanic ?_
            refine wp_region_held_drew (S := fun w' => w'.cell? ⟨A, 0, none⟩ = some (.int .i64 s.node) ∧ w'.cell? ⟨b, 0, none⟩ = some (.int .i64 p.job) ∧ w'.cell? ⟨b, 1, none⟩ = some (.int .i64 p.att) ∧ w'.cell? ⟨b, 9, none⟩ = some (.int .i64 p.how)) (by kernel_rfl) ?_ (fun hHeld => ?_)
            · try dsimp only
              (refine ⟨?_, ?_, ?_, ?_⟩ <;> (first | with_reducible assumption))
            have HEQ : Hid (w4.drew.heap[A]? = w4.heap[A]?) := Lib.hid rfl
            have HWF : Hid (w4.drew.cell? ⟨A, 0, none⟩ = some (.int .i64 s.node) ∧ w4.drew.cell? ⟨b, 0, none⟩ = some (.int .i64 p.job) ∧ w4.drew.cell? ⟨b, 1, none⟩ = some (.int .i64 p.att) ∧ w4.drew.cell? ⟨b, 9, none⟩ = some (.int .i64 p.how)) := Lib.hid hHeld
            generalize w4.drew = Wd at *
            refine tk 0 ?_
            try simp only [Act.put, p1, p2, p3]
            refine tk 1 ?_
            try simp only [Act.put, p1, p2, p3]
            refine tk 2 ?_
            try simp only [Act.put, p1, p2, p3]
            refine tk 3 ?_
            try simp only [Act.put, p1, p2, p3]
            refine tk 4 ?_
            try simp only [Act.put, p1, p2, p3]
            refine tk 5 ?_
            try simp only [Act.put, p1, p2, p3]
            refine tk 6 ?_
            try simp only [Act.put, p1, p2, p3]
            refine tk 7 ?_
            try simp only [Act.put, p1, p2, p3]
            refine tk 8 ?_
            try simp only [Act.put, p1, p2, p3]
            refine tk 9 ?_
            try simp only [Act.put, p1, p2, p3]
            refine tk 10 ?_
            try simp only [Act.put, p1, p2, p3]
            refine tk 11 ?_
            try simp only [Act.put, p1, p2, p3]
            refine tk 12 ?_
            try simp only [Act.put, p1, p2, p3]
            refine tk 13 ?_
            try simp only [Act.put, p1, p2, p3]
            refine tk 14 ?_
            try simp only [Act.put, p1, p2, p3]
            refine tk 15 ?_
            try simp only [Act.put, p1, p2, p3]
            refine tk 16 ?_
            try simp only [Act.put, p1, p2, p3]
            refine tk 17 ?_
            try simp only [Act.put, p1, p2, p3]
            refine tk 18 ?_
            try simp only [Act.put, p1, p2, p3]
            refine tk 19 ?_
            try simp only [Act.put, p1, p2, p3]
            refine rd 20 fun K hK => ?_
            go_simp
            have f0' : (Wd.alloc (.cells #[.int .i64 5, .int .i64 0, .int .i64 s.node, .int .i64 0, .int .i64 0, .int .i64 0, .int .i64 p.job, .int .i64 p.att, .int .i64 0, .int .i64 0, .int .i64 p.how, .int .i64 0, .int .i64 0, .int .i64 0, .int .i64 0, .int .i64 0, .int .i64 0, .slice none 0 0, .int .i64 0, .int .i64 0, .int .i64 0] 35)).cell? ⟨A, 0, none⟩ = some (.int .i64 s.node) := keepA f0
            have g0' : (Wd.alloc (.cells #[.int .i64 5, .int .i64 0, .int .i64 s.node, .int .i64 0, .int .i64 0, .int .i64 0, .int .i64 p.job, .int .i64 p.att, .int .i64 0, .int .i64 0, .int .i64 p.how, .int .i64 0, .int .i64 0, .int .i64 0, .int .i64 0, .int .i64 0, .int .i64 0, .slice none 0 0, .int .i64 0, .int .i64 0, .int .i64 0] 35)).cell? ⟨b, 0, none⟩ = some (.int .i64 p.job) := keepA g0
            have g1' : (Wd.alloc (.cells #[.int .i64 5, .int .i64 0, .int .i64 s.node, .int .i64 0, .int .i64 0, .int .i64 0, .int .i64 p.job, .int .i64 p.att, .int .i64 0, .int .i64 0, .int .i64 p.how, .int .i64 0, .int .i64 0, .int .i64 0, .int .i64 0, .int .i64 0, .int .i64 0, .slice none 0 0, .int .i64 0, .int .i64 0, .int .i64 0] 35)).cell? ⟨b, 1, none⟩ = some (.int .i64 p.att) := keepA g1
            have g9' : (Wd.alloc (.cells #[.int .i64 5, .int .i64 0, .int .i64 s.node, .int .i64 0, .int .i64 0, .int .i64 0, .int .i64 p.job, .int .i64 p.att, .int .i64 0, .int .i64 0, .int .i64 p.how, .int .i64 0, .int .i64 0, .int .i64 0, .int .i64 0, .int .i64 0, .int .i64 0, .slice none 0 0, .int .i64 0, .int .i64 0, .int .i64 0] 35)).cell? ⟨b, 9, none⟩ = some (.int .i64 p.how) := keepA g9
            clear f0 g0 g1 g9
            refine hK.out _ _ ?_ (fun hHeld => ?_)
            · try dsimp only
              (refine ⟨?_, ?_, ?_, ?_⟩ <;> (first | with_reducible assumption))
            clear hK K
            try simp only [Act.put, p1, p2, p3]
            refine rd 21 fun K hK => ?_
            refine step_append_row _ rfl (.tmp 91) (.tmp 111) _ rfl w.heap.size 35 iM _ 21 184 Try.underlying38 hiM hz0 hz1 hz2 rfl (by omega) A2 m c2 ((beatC s.node s.boot) ++ reps s2.node now (s2.ps.take i)) rfl (HOD.out.alloc _) (Wd.heap.size + 1) (some ⟨Wd.heap.size, 0, none⟩) 1 1 [.int .i64 5, .int .i64 0, .int .i64 s.node, .int .i64 0, .int .i64 0, .int .i64 0, .int .i64 p.job, .int .i64 p.att, .int .i64 0, .int .i64 0, .int .i64 p.how, .int .i64 0, .int .i64 0, .int .i64 0, .int .i64 0, .int .i64 0, .int .i64 0, .slice none 0 0, .int .i64 0, .int .i64 0, .int .i64 0] rfl (cellsIn_alloc Wd #[.int .i64 5, .int .i64 0, .int .i64 s.node, .int .i64 0, .int .i64 0, .int .i64 0, .int .i64 p.job, .int .i64 p.att, .int .i64 0, .int .i64 0, .int .i64 p.how, .int .i64 0, .int .i64 0, .int .i64 0, .int .i64 0, .int .i64 0, .int .i64 0, .slice none 0 0, .int .i64 0, .int .i64 0, .int .i64 0] 35 (0, 0) 21 1 rfl) (by simp [Value.oneCell']) (by unfold maxLen; omega) (by omega) (by have := HDZ.out; simp; omega) ?_
            intro A4 c4 w5 hown hg hor
            have HN := Lib.hid (HNX.out A4 c4 w5 hown hg)
            have c5 : Chg (fun k => (Value.slice A2 m c2).ownBlock = some k) Wd w5 := ((Chg.refl _ Wd).alloc _).grown hg (fun k hk => .inr hk)
            have hA5 : A < w.heap.size := HLOW.out A (.inl rfl)
            have hb5 : b < w.heap.size := HLOW.out b hbo
            have nb : ¬ (Value.slice A2 m c2).ownBlock = some b := fun e => by have := HOB.out b e; omega
            have nA : ¬ (Value.slice A2 m c2).ownBlock = some A := fun e => by have := HOB.out A e; omega
            skip
            have i0 : Wd.cell? ⟨A, 0, none⟩ = some (.int .i64 s.node) := HWF.out.1
            have i1 : Wd.cell? ⟨b, 0, none⟩ = some (.int .i64 p.job) := HWF.out.2.1
            have i2 : Wd.cell? ⟨b, 1, none⟩ = some (.int .i64 p.att) := HWF.out.2.2.1
            have i3 : Wd.cell? ⟨b, 9, none⟩ = some (.int .i64 p.how) := HWF.out.2.2.2
            have n0 : w5.cell? ⟨A, 0, none⟩ = some (.int .i64 s.node) := c5.cell i0 nA
            have n1 : w5.cell? ⟨b, 0, none⟩ = some (.int .i64 p.job) := c5.cell i1 nb
            have n2 : w5.cell? ⟨b, 1, none⟩ = some (.int .i64 p.att) := c5.cell i2 nb
            have n3 : w5.cell? ⟨b, 9, none⟩ = some (.int .i64 p.how) := c5.cell i3 nb
            clear hown hg hor c5 i0 i1 i2 i3 f0' g0' g1' g9'
            refine hK.out _ _ ?_ (fun hHeld => ?_)
            · try dsimp only
              (refine ⟨?_, ?_, ?_, ?_⟩ <;> (first | with_reducible assumption))
            clear hK K
            try simp only [Act.put, p1, p2, p3]
            refine tk 22 ?_
            try simp only [Act.put, p1, p2, p3]
            refine wpAnyH_done (by kernel_rfl) ?_ _
            refine NoPanic.normal ?_
            clear hHeld n0 n1 n2 n3
            go_wp2_with fail
            go_roundw
            case rel => exact ⟨i + 1, by omega, by go_num, HN⟩
            case measure => simp [intOf]; omega
    · obtain rfl : i = n := by omega
      have e1 : s2.ps.take i = s2.ps := by rw [HN2.out, List.take_length]
      have e2 : mid (fun p => p.step now) s2.ps i = s2.ps.map fun p => p.step now := by rw [HN2.out]; exact mid_all _ _
      rw [e1] at hm hown
      rw [e2] at ha
      have hmt : m = s.told now := by rw [HTD.out, hm]
      have HF : Hid (StepPost w A L s now (.returned (.slice A2 m c2)) wr) := Lib.hid (by
        refine ⟨A2, c2, by rw [hmt], ?_, ?_, hc⟩
        · rw [HND.out] at hown; rw [← hmt, HOT.out]; exact hown
        · have e3 : s.steps now = { s2 with ps := s2.ps.map fun p => p.step now } := by rw [HS2.out]; rfl
          rw [e3]; exact ha)
      clear hm hown ha hc hmt e1 e2
      go_wp2_with fail
      go_ret
      exact HF.out
theorem step_up (w : World) {A : Nat} {L : Lay} {s : Ag} (h : AgAt w A L s) (now : Int) (h0 : ¬ now < s.tick) (hn : ¬ (1099511627776 : Int) ≤ now) (hup : s.up = true) (hln : s.ps.length ≤ 1000000) (hats : Ats s) :
    Calls Try.prog 13 #[.pointer (some ⟨A, 0, none⟩), .int .i64 now] w fun e w' => StepPost w A L s now e w' := by
  cases hb : s.beat
  · exact step_first w h now h0 hn hup hln hats hb
  · by_cases hb2 : s.at_ + 3 ≤ now
    · exact step_late w h now h0 hn hup hln hats hb hb2
    · exact step_mute w h now h0 hn hup hln hats hb hb2
end Go.Proofs.Ytoeamofemepgpaa
