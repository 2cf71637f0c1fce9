/- Chapter 20: an agent's methods, one contract each. -/
import Derived.Test.YtoeamofemepgpaaHear21
import Derived.Test.YtoeamofemepgpaaStep20
import Derived.Test.YtoeamofemepgpaaRunning
import Derived.Test.YtoeamofemepgpaaBoot
import Derived.Test.YtoeamofemepgpaaNew
import Derived.Test.YtoeamofemepgpaaAg2
namespace Go.Proofs.Ytoeamofemepgpaa
open Go.RowKit

/-- Is a message heard, by an agent that is up, at its tick? -/
def Ag.hark (s : Ag) (v : Nat → Int) (n : Nat) : Prop := (v 0 = 2 ∨ v 0 = 3 ∨ v 0 = 4 ∨ v 0 = 6) ∧ OkM v n ∧ v 2 = s.node ∧ s.epoch ≤ v 1
/-- What is done with a message that is heard. -/
def Ag.does (s : Ag) (v : Nat → Int) : Ag := if v 0 = 2 then s.grant v else if v 0 = 3 then s.launch v else if v 0 = 4 then s.kill v else s.ack v
/-- Is a tick one that the clock goes on to? -/
def Ag.goes (s : Ag) (now : Int) : Prop := s.tick ≤ now ∧ now < 1099511627776
open Classical in
/-- Hear. -/
noncomputable def Ag.hears (s : Ag) (v : Nat → Int) (n : Nat) (now : Int) : Ag :=
  if s.goes now then (if s.up = true then (if s.hark v n then (s.heard v now).does v else (s.ticks now).settle now) else s.ticks now) else s
/-- What is kept in mind of an agent: nothing overflows. -/
structure Fine (s : Ag) (n : Nat) : Prop where
  tick : 0 ≤ s.tick ∧ s.tick ≤ 1099511627776
  small : Small s.ps
  ats : Ats s
  work : s.work.length ≤ 1000000
  len : s.ps.length ≤ n
theorem Fine.mono {s : Ag} {n m : Nat} (h : Fine s n) (hm : n ≤ m) : Fine s m := ⟨h.tick, h.small, h.ats, h.work, Nat.le_trans h.len hm⟩
/-- What a method leaves behind. -/
def Left (w : World) (A : Nat) (L : Lay) (s' : Ag) (w' : World) : Prop := ∃ L', AgAt w' A L' s' ∧ Chg (L.own A) w w' ∧ Grows L L' A w
theorem left_self {w w' : World} {A : Nat} {L : Lay} {s' : Ag} (h : AgAt w' A L s') (hc : Chg (L.own A) w w') : Left w A L s' w' := ⟨L, h, hc, Grows.refl L A w⟩
theorem settle_fine {s : Ag} {n : Nat} {now : Int} (h : Fine s n) (hg : s.goes now) : Fine ((s.ticks now).settle now) n := by
  refine ⟨⟨Int.le_trans h.tick.1 hg.1, Int.le_of_lt hg.2⟩, settle_small h.small _ _, ⟨h.ats.1, fun p hp => ?_⟩, h.work, ?_⟩
  · obtain ⟨q, hq, rfl⟩ := List.mem_map.1 hp
    have := h.ats.2 q hq
    unfold Pt.settle Pt.over
    split <;> exact this
  · simp only [Ag.settle, Ag.ticks, List.length_map]; exact h.len
theorem hear_any (w : World) {A : Nat} {L : Lay} {s : Ag} (h : AgAt w A L s) {n : Nat} (hf : Fine s n) (hn : n ≤ 1000000) (now : Int) (v : Nat → Int) (X : Option Addr) (xn xc : Nat) (cs : Array Value) (hcs : cs = #[.int .i64 (v 0), .int .i64 (v 1), .int .i64 (v 2), .int .i64 (v 3), .int .i64 (v 4), .int .i64 (v 5), .int .i64 (v 6), .int .i64 (v 7), .int .i64 (v 8), .int .i64 (v 9), .int .i64 (v 10), .int .i64 (v 11), .int .i64 (v 12), .int .i64 (v 13), .int .i64 (v 14), .int .i64 (v 15), .int .i64 (v 16), .slice X xn xc, .int .i64 (v 18), .int .i64 (v 19), .int .i64 (v 20)]) :
    Calls Try.prog 11 #[.pointer (some ⟨A, 0, none⟩), .agg cs, .int .i64 now] w fun e w' => (∃ r, e = .returned r) ∧ Left w A L (s.hears v xn now) w' := by
  subst hcs
  by_cases hg : s.goes now
  · have h0 : ¬ now < s.tick := by have := hg.1; omega
    have hN : ¬ (1099511627776 : Int) ≤ now := by have := hg.2; omega
    have hln : s.ps.length ≤ 1000000 := Nat.le_trans hf.len hn
    cases hup : s.up
    · have e : s.hears v xn now = s.ticks now := by unfold Ag.hears; rw [if_pos hg, hup]; simp
      rw [e]
      exact (hear_down w h now h0 hN hup v X xn xc).mono (fun e w' q => ⟨q.1, left_self q.2.1 q.2.2⟩)
    · obtain ⟨M, hM⟩ : ∃ M, L.M = some M := by
        cases hm : L.M with
        | none => exact absurd hm (h.booted hup)
        | some M => exact ⟨M, rfl⟩
      by_cases hk : s.hark v xn
      · have e : s.hears v xn now = (s.heard v now).does v := by unfold Ag.hears; rw [if_pos hg, hup, if_pos rfl, if_pos hk]
        rw [e]
        obtain ⟨hkind, hok, hnode, hep⟩ := hk
        have hep' : ¬ v 1 < s.epoch := by omega
        have hpos : 0 ≤ now := Int.le_trans hf.tick.1 hg.1
        have fin : ∀ {s' : Ag} {e : Ending} {w' : World}, Puts w A M L s' e w' → (∃ r, e = .returned r) ∧ Left w A L s' w' := fun q => ⟨q.1, by obtain ⟨_, L', h1, _, h3, h4⟩ := q; exact ⟨L', h1, h3, h4⟩⟩
        unfold Ag.does
        rcases hkind with hk | hk | hk | hk
        · rw [if_pos hk]; exact (hear_grant_yes w h now h0 hN hup hln v X xn xc hk hok hnode hep' hM).mono (fun e w' q => fin q)
        · rw [if_neg (by omega), if_pos hk]; exact (hear_launch_yes w h now h0 hN hup hln v X xn xc hk hok hnode hep' hM hf.small hf.work hpos).mono (fun e w' q => fin q)
        · rw [if_neg (by omega), if_neg (by omega), if_pos hk]; exact (hear_kill_yes w h now h0 hN hup hln v X xn xc hk hok hnode hep' hM).mono (fun e w' q => fin q)
        · rw [if_neg (by omega), if_neg (by omega), if_neg (by omega)]; exact (hear_ack_yes w h now h0 hN hup hln v X xn xc hk hok hnode hep' hM).mono (fun e w' q => fin q)
      · have e : s.hears v xn now = (s.ticks now).settle now := by unfold Ag.hears; rw [if_pos hg, hup, if_pos rfl, if_neg hk]
        rw [e]
        have fin : ∀ {e : Ending} {w' : World}, ((∃ r, e = .returned r) ∧ AgAt w' A L ((s.ticks now).settle now) ∧ Chg (L.own A) w w') → (∃ r, e = .returned r) ∧ Left w A L ((s.ticks now).settle now) w' := fun q => ⟨q.1, left_self q.2.1 q.2.2⟩
        by_cases hkind : v 0 = 2 ∨ v 0 = 3 ∨ v 0 = 4 ∨ v 0 = 6
        · obtain ⟨F, fa, fb, hd⟩ : ∃ F fa fb, doV A (v 0) = .func F fa fb := by rcases hkind with k | k | k | k <;> exact ⟨_, _, _, by rw [k]; rfl⟩
          by_cases hok : OkM v xn
          · by_cases hnode : v 2 = s.node
            · have hep : v 1 < s.epoch := Classical.byContradiction fun he => hk ⟨hkind, hok, hnode, by omega⟩
              exact (hear_elder w h now h0 hN hup hln v X xn xc hd hok hnode hep).mono (fun e w' q => fin q)
            · exact (hear_node w h now h0 hN hup hln v X xn xc hd hok hnode).mono (fun e w' q => fin q)
          · exact (hear_bad w h now h0 hN hup hln v X xn xc hd hok).mono (fun e w' q => fin q)
        · exact (hear_kind w h now h0 hN hup hln v X xn xc (by omega) (by omega) (by omega) (by omega)).mono (fun e w' q => fin q)
  · have e : s.hears v xn now = s := by unfold Ag.hears; rw [if_neg hg]
    rw [e]
    have hc : now < s.tick ∨ (1099511627776 : Int) ≤ now := by unfold Ag.goes at hg; omega
    exact (hear_early w h now hc v X xn xc).mono (fun e w' q => ⟨q.1, left_self q.2.1 q.2.2⟩)
theorem hear_nil (w : World) (now : Int) (cs : Array Value) (v : Nat → Int) (X : Option Addr) (xn xc : Nat) (hcs : cs = #[.int .i64 (v 0), .int .i64 (v 1), .int .i64 (v 2), .int .i64 (v 3), .int .i64 (v 4), .int .i64 (v 5), .int .i64 (v 6), .int .i64 (v 7), .int .i64 (v 8), .int .i64 (v 9), .int .i64 (v 10), .int .i64 (v 11), .int .i64 (v 12), .int .i64 (v 13), .int .i64 (v 14), .int .i64 (v 15), .int .i64 (v 16), .slice X xn xc, .int .i64 (v 18), .int .i64 (v 19), .int .i64 (v 20)]) :
    Calls Try.prog 11 #[.pointer none, .agg cs, .int .i64 now] w fun e w' => (∃ r, e = .returned r) ∧ Below w.heap.size w w' := by
  subst hcs
  have HB := Lib.hid ((Below.refl w.heap.size w).alloc (Nat.le_refl _) (.cells #[.int .i64 (v 0), .int .i64 (v 1), .int .i64 (v 2), .int .i64 (v 3), .int .i64 (v 4), .int .i64 (v 5), .int .i64 (v 6), .int .i64 (v 7), .int .i64 (v 8), .int .i64 (v 9), .int .i64 (v 10), .int .i64 (v 11), .int .i64 (v 12), .int .i64 (v 13), .int .i64 (v 14), .int .i64 (v 15), .int .i64 (v 16), .slice X xn xc, .int .i64 (v 18), .int .i64 (v 19), .int .i64 (v 20)] 35))
  go_enter Try.func11, Try.ntmps11
  go_wp2_with fail
  refine (clock_nil _ _).mono ?_
  rintro e w' ⟨rfl, rfl⟩
  go_wp2_with fail
  refine bodyPost_ret (v := .tuple #[]) (results_none rfl _ _ _) rfl ?_
  exact ⟨⟨_, rfl⟩, HB.out⟩
/-! Step -/
open Classical in
noncomputable def Ag.stepA (s : Ag) (now : Int) : Ag := if s.goes now then (if s.up = true then s.steps now else s.ticks now) else s
open Classical in
noncomputable def Ag.stepN (s : Ag) (now : Int) : Nat := if s.goes now ∧ s.up = true then s.told now else 0
open Classical in
noncomputable def Ag.stepO (s : Ag) (now : Int) : List Value := if s.goes now ∧ s.up = true then s.outs now else []
/-- What Step answers. -/
def StepGot (w : World) (A : Nat) (L : Lay) (s : Ag) (now : Int) (e : Ending) (w' : World) : Prop :=
  ∃ A2 c2, e = .returned (.slice A2 (s.stepN now) c2) ∧ w'.ownsRow w.heap.size 35 21 (.slice A2 (s.stepN now) c2) (s.stepN now) (s.stepO now) ∧ AgAt w' A L (s.stepA now) ∧ Chg (L.own A) w w'
theorem step_any (w : World) {A : Nat} {L : Lay} {s : Ag} (h : AgAt w A L s) {n : Nat} (hf : Fine s n) (hn : n ≤ 1000000) (now : Int) :
    Calls Try.prog 13 #[.pointer (some ⟨A, 0, none⟩), .int .i64 now] w fun e w' => StepGot w A L s now e w' := by
  have hln : s.ps.length ≤ 1000000 := Nat.le_trans hf.len hn
  by_cases hg : s.goes now
  · have h0 : ¬ now < s.tick := by have := hg.1; omega
    have hN : ¬ (1099511627776 : Int) ≤ now := by have := hg.2; omega
    cases hup : s.up
    · have e1 : s.stepA now = s.ticks now := by unfold Ag.stepA; rw [if_pos hg, hup]; simp
      have e2 : s.stepN now = 0 := by unfold Ag.stepN; rw [hup]; simp
      have e3 : s.stepO now = [] := by unfold Ag.stepO; rw [hup]; simp
      refine (step_down w h now h0 hN hup).mono ?_
      rintro e w' ⟨rfl, ha, hc⟩
      exact ⟨none, 0, by rw [e2], by rw [e2, e3]; exact ⟨rfl, .inl ⟨rfl, rfl⟩⟩, by rw [e1]; exact ha, hc⟩
    · have e1 : s.stepA now = s.steps now := by unfold Ag.stepA; rw [if_pos hg, hup, if_pos rfl]
      have e2 : s.stepN now = s.told now := by unfold Ag.stepN; rw [if_pos ⟨hg, hup⟩]
      have e3 : s.stepO now = s.outs now := by unfold Ag.stepO; rw [if_pos ⟨hg, hup⟩]
      refine (step_up w h now h0 hN hup hln hf.ats).mono ?_
      rintro e w' ⟨A2, c2, rfl, ho, ha, hc⟩
      exact ⟨A2, c2, by rw [e2], by rw [e2, e3]; exact ho, by rw [e1]; exact ha, hc⟩
  · have e1 : s.stepA now = s := by unfold Ag.stepA; rw [if_neg hg]
    have e2 : s.stepN now = 0 := by unfold Ag.stepN; rw [if_neg (fun h => hg h.1)]
    have e3 : s.stepO now = [] := by unfold Ag.stepO; rw [if_neg (fun h => hg h.1)]
    have c7 : w.cell? ⟨A, 7, none⟩ = some (.int .i64 s.tick) := cellb (i := 7) h.blk rfl
    have fin : ∀ {e : Ending} {w' : World}, (e = .returned (.slice none 0 0) ∧ w = w') → StepGot w A L s now e w' := fun q => by
      obtain ⟨rfl, rfl⟩ := q
      exact ⟨none, 0, by rw [e2], by rw [e2, e3]; exact ⟨rfl, .inl ⟨rfl, rfl⟩⟩, by rw [e1]; exact h, Chg.refl _ w⟩
    by_cases h0 : now < s.tick
    · exact (Step_early w A now s.tick c7 h0).mono (fun e w' q => fin q)
    · exact (Step_late w A now s.tick c7 h0 (by unfold Ag.goes at hg; omega)).mono (fun e w' q => fin q)
/-! Running, Boot, Crash, Lease -/
/-- What runs at a tick. -/
def Ag.runsAt (s : Ag) (now : Int) : List Pt := if s.up = true then runsOf s.until_ now s.ps else []
/-- What Running answers. -/
def RunGot (w : World) (s : Ag) (now : Int) (e : Ending) (w' : World) : Prop :=
  ∃ A2 c2, e = .returned (.slice A2 (s.runsAt now).length c2) ∧ w'.ownsRow w.heap.size 50 8 (.slice A2 (s.runsAt now).length c2) (s.runsAt now).length ((s.runsAt now).flatMap (Pt.runC s.until_)) ∧ Below w.heap.size w w'
theorem running_ag (w : World) {A : Nat} {L : Lay} {s : Ag} (h : AgAt w A L s) (hn : s.ps.length ≤ 1000000) (now : Int) :
    Calls Try.prog 12 #[.pointer (some ⟨A, 0, none⟩), .int .i64 now] w fun e w' => RunGot w s now e w' := by
  cases hup : s.up
  · have e1 : s.runsAt now = [] := by unfold Ag.runsAt; rw [hup]; simp
    have c6 : w.cell? ⟨A, 6, none⟩ = some (.bool false) := by rw [← hup]; exact cellb (i := 6) h.blk rfl
    refine (Running_down w A now c6).mono ?_
    rintro e w' ⟨rfl, hb⟩
    refine ⟨none, 0, by rw [e1]; rfl, ?_, hb⟩
    rw [e1]
    exact ⟨rfl, .inl ⟨rfl, rfl⟩⟩
  · have e1 : s.runsAt now = runsOf s.until_ now s.ps := by unfold Ag.runsAt; rw [hup, if_pos rfl]
    refine (running_up w h hup hn now).mono ?_
    rintro e w' ⟨A2, c2, rfl, ho, hb⟩
    exact ⟨A2, c2, by rw [e1], by rw [e1]; exact ho, hb⟩
open Classical in
noncomputable def Ag.bootA (s : Ag) (now : Int) : Ag := if s.goes now ∧ s.up = false then s.boots now else s
open Classical in
noncomputable def Ag.bootE (s : Ag) (now : Int) : Int := if s.goes now then (if s.up = true then 100 else 0) else 1
theorem boot_any (w : World) {A : Nat} {L : Lay} {s : Ag} (h : AgAt w A L s) (now : Int) :
    Calls Try.prog 10 #[.pointer (some ⟨A, 0, none⟩), .int .i64 now] w fun e w' => e = .returned (.int .i64 (s.bootE now)) ∧ Left w A L (s.bootA now) w' := by
  have c7 : w.cell? ⟨A, 7, none⟩ = some (.int .i64 s.tick) := cellb (i := 7) h.blk rfl
  by_cases hg : s.goes now
  · have h0 : ¬ now < s.tick := by have := hg.1; omega
    have hN : ¬ (1099511627776 : Int) ≤ now := by have := hg.2; omega
    cases hup : s.up
    · have e1 : s.bootA now = s.boots now := by unfold Ag.bootA; rw [if_pos ⟨hg, hup⟩]
      have e2 : s.bootE now = 0 := by unfold Ag.bootE; rw [if_pos hg, hup]; simp
      refine (boot_ok w h now h0 hN hup).mono ?_
      rintro e w' ⟨rfl, M, ha, hc, ho⟩
      rw [e1, e2]
      exact ⟨rfl, _, ha, hc.mono (fun k _ e => .inl e), ho⟩
    · have e1 : s.bootA now = s := by unfold Ag.bootA; rw [if_neg (fun h => by rw [hup] at h; exact absurd h.2 (by simp))]
      have e2 : s.bootE now = 100 := by unfold Ag.bootE; rw [if_pos hg, hup, if_pos rfl]
      have c6 : w.cell? ⟨A, 6, none⟩ = some (.bool true) := by rw [← hup]; exact cellb (i := 6) h.blk rfl
      refine (Boot_up w A now s.tick c7 h0 hN c6).mono ?_
      rintro e w' ⟨rfl, rfl⟩
      rw [e1, e2]
      exact ⟨rfl, left_self h (Chg.refl _ w)⟩
  · have e1 : s.bootA now = s := by unfold Ag.bootA; rw [if_neg (fun h => hg h.1)]
    have e2 : s.bootE now = 1 := by unfold Ag.bootE; rw [if_neg hg]
    rw [e1, e2]
    have fin : ∀ {e : Ending} {w' : World}, (e = .returned (.int .i64 1) ∧ w = w') → e = .returned (.int .i64 1) ∧ Left w A L s w' := fun q => by
      obtain ⟨rfl, rfl⟩ := q
      exact ⟨rfl, left_self h (Chg.refl _ w)⟩
    by_cases h0 : now < s.tick
    · exact (Boot_early w A now s.tick c7 h0).mono (fun e w' q => fin q)
    · exact (Boot_late w A now s.tick c7 h0 (by unfold Ag.goes at hg; omega)).mono (fun e w' q => fin q)
def Ag.downs (s : Ag) : Ag := { s with up := false }
theorem crash_ag (w : World) {A : Nat} {L : Lay} {s : Ag} (h : AgAt w A L s) :
    Calls Try.prog 20 #[.pointer (some ⟨A, 0, none⟩)] w fun e w' => (∃ r, e = .returned r) ∧ AgAt w' A L s.downs ∧ Chg (L.own A) w w' := by
  have c6 : w.cell? ⟨A, 6, none⟩ = some (.bool s.up) := cellb (i := 6) h.blk rfl
  refine (crash_any w A s.up c6 (fzb h.blk 6)).mono ?_
  rintro e w' ⟨he, rfl⟩
  have q := h.set (i := 6) (v := .bool false) (s' := s.downs) (by simp [Ag.downs]) rfl rfl (by simp [Ag.downs])
  exact ⟨he, q.1, q.2.mono (fun k _ e => .inl e)⟩
/-- What Lease answers. -/
def Ag.leaseV (s : Ag) : Int × Int := if s.up = true then (s.since, s.until_) else (0, 0)
theorem lease_ag (w : World) {A : Nat} {L : Lay} {s : Ag} (h : AgAt w A L s) :
    Calls Try.prog 19 #[.pointer (some ⟨A, 0, none⟩)] w fun e w' => e = .returned (.tuple #[.int .i64 s.leaseV.1, .int .i64 s.leaseV.2]) ∧ Below w.heap.size w w' := by
  cases hup : s.up
  · have e1 : s.leaseV = (0, 0) := by unfold Ag.leaseV; rw [hup]; simp
    have c6 : w.cell? ⟨A, 6, none⟩ = some (.bool false) := by rw [← hup]; exact cellb (i := 6) h.blk rfl
    refine (lease_down w A c6).mono ?_
    rintro e w' ⟨rfl, rfl⟩
    rw [e1]
    exact ⟨rfl, Below.refl _ _⟩
  · have e1 : s.leaseV = (s.since, s.until_) := by unfold Ag.leaseV; rw [hup, if_pos rfl]
    have c6 : w.cell? ⟨A, 6, none⟩ = some (.bool true) := by rw [← hup]; exact cellb (i := 6) h.blk rfl
    refine (lease_up w A s.since s.until_ c6 (cellb (i := 9) h.blk rfl) (cellb (i := 10) h.blk rfl)).mono ?_
    rintro e w' ⟨rfl, rfl⟩
    rw [e1]
    exact ⟨rfl, (Below.refl _ _).drew⟩
theorem up_ag (w : World) {A : Nat} {L : Lay} {s : Ag} (h : AgAt w A L s) :
    Calls Try.prog 18 #[.pointer (some ⟨A, 0, none⟩)] w fun e w' => e = .returned (.bool s.up) ∧ w = w' := up_any w A s.up (cellb (i := 6) h.blk rfl)
end Go.Proofs.Ytoeamofemepgpaa
