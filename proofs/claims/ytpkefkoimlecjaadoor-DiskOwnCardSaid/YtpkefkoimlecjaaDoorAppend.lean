/- A disk: Append. -/
import Derived.Test.YtpkefkoimlecjaaDoorPart
namespace Go.Proofs.YtpkefkoimlecjaaDoor
open Go.RowKit

/-- What else than the disk's own block and its log's is as it was; where the new log lies. -/
structure Foot (g : Nat) (y y' : Lay) (w w' : World) : Prop where
  ch : Chg (fun k => k = g ∨ y.lb = some k) w w'
  lb : ∀ k, y'.lb = some k → y.lb = some k ∨ w.heap.size ≤ k
namespace Foot
variable {g : Nat} {y y' y'' : Lay} {w w' w'' : World}
theorem refl (g : Nat) (y : Lay) (w : World) : Foot g y y w w := ⟨Chg.refl _ _, fun _ hk => .inl hk⟩
theorem of_g (h : Chg (fun k => k = g) w w') (y : Lay) : Foot g y y w w' := ⟨h.mono (fun _ _ hk => .inl hk), fun _ hk => .inl hk⟩
theorem of_no (h : Chg NoBlk w w') (g : Nat) (y : Lay) : Foot g y y w w' := ⟨h.mono (fun _ _ hk => hk.elim), fun _ hk => .inl hk⟩
theorem trans (h : Foot g y y' w w') (h' : Foot g y' y'' w' w'') : Foot g y y'' w w'' := by
  refine ⟨⟨h'.ch.os.trans h.ch.os, h'.ch.tape.trans h.ch.tape, h'.ch.output.trans h.ch.output, Nat.le_trans h.ch.size h'.ch.size, fun k hk hn => ?_⟩, fun k hk => ?_⟩
  · refine (h'.ch.block k (Nat.lt_of_lt_of_le hk h.ch.size) ?_).trans (h.ch.block k hk hn)
    rintro (e | e)
    · exact hn (.inl e)
    · rcases h.lb k e with e | e
      · exact hn (.inr e)
      · omega
  · rcases h'.lb k hk with e | e
    · exact h.lb k e
    · have := h.ch.size
      right; omega
theorem below {B : Nat} (h : Foot g y y' w w') (hB : B ≤ g) {d : Dk} (hd : DiskAt w g d y) : Below B w w' :=
  h.ch.below (by have := hd.glt; omega) (fun k hk e => by
    rcases e with e | e
    · omega
    · have := (hd.lbl k e).1; omega)
/-- A block that is neither the disk's own nor its log's. -/
theorem keep (h : Foot g y y' w w') {k : Nat} (hk : k < w.heap.size) (hg : k ≠ g) (hl : y.lb ≠ some k) : w'.heap[k]? = w.heap[k]? ∧ y'.lb ≠ some k := by
  refine ⟨h.ch.block k hk (by rintro (e | e); exact hg e; exact hl e), fun e => ?_⟩
  rcases h.lb k e with e | e
  · exact hl e
  · omega
end Foot

theorem DiskAt.app {w w' : World} {g : Nat} {d : Dk} {y : Lay} (h : DiskAt w g d y) (A : Option Addr) (c k : Nat) (l : List UInt8) (hk : k = l.length)
    (hown : w'.ownsRow (g + 1) 5 1 (.slice A (d.log.length + k) c) (d.log.length + k) (cells8 d.log ++ cells8 l)) (hg : w.grownBy w' (Value.ownBlock (.slice y.la d.log.length y.lc)))
    (h4 : Value.ownBlock (.slice A (d.log.length + k) c) = Value.ownBlock (.slice y.la d.log.length y.lc) ∨ Value.ownBlock (.slice A (d.log.length + k) c) = some w.heap.size) (hr : d.log.length + k ≤ d.room) :
    DiskAt (w'.setCell ⟨g, 4, none⟩ (.slice A (d.log.length + k) c)) g { d with log := d.log ++ l } { y with la := A, lc := c } ∧ Foot g y { y with la := A, lc := c } w (w'.setCell ⟨g, 4, none⟩ (.slice A (d.log.length + k) c)) ∧
      w'.cell? ⟨g, 4, none⟩ = some (.slice y.la d.log.length y.lc) ∧ w'.frozen? ⟨g, 4, none⟩ = false ∧ Chg (fun k => y.lb = some k) w w' := by
  subst hk
  rw [ownBlock_map, ownBlock_map] at h4
  rw [ownBlock_map] at hg
  have hch : Chg (fun k => y.lb = some k) w w' := (Chg.refl _ w).grown hg (fun k hk => .inr hk)
  have hgl : ¬ y.lb = some g := fun e => by have := (h.lbl g e).1; omega
  have hb := (hch.block g h.glt hgl).trans h.blk
  have hcg := chg_g g 4 w' (.slice A (d.log.length + l.length) c)
  have hlen : (d.log ++ l).length = d.log.length + l.length := List.length_append
  have hnew : ∀ k, A.map (·.block) = some k → y.lb = some k ∨ w.heap.size ≤ k := by
    intro k hk
    rcases h4 with e | e
    · left; rw [← hk, e]; rfl
    · right; rw [hk] at e; injection e with e; omega
  refine ⟨⟨?_, ?_, ?_, ?_, ?_, ?_, h.r, ?_, h.sl, h.tl⟩, ⟨?_, hnew⟩, ?_, ?_, hch⟩
  · simp [World.setCell, Array.getElem?_modify, hb, Dk.cells]
  · show World.ownsRow _ (g + 1) 5 1 (.slice A (d.log ++ l).length c) (d.log ++ l).length (cells8 (d.log ++ l))
    rw [hlen, cells8_append]
    exact hcg.own hown (fun k hk e => by have := (hown.lt k hk).1; omega)
  · refine hcg.own (hch.own h.s fun k hk => h.ls k (by rw [← ownBlock_map]; exact hk)) (fun k hk e => by have := (h.s.lt k hk).1; omega)
  · refine hcg.own (hch.own h.t fun k hk => h.lt k (by rw [← ownBlock_map]; exact hk)) (fun k hk e => by have := (h.t.lt k hk).1; omega)
  · intro k hk e
    rcases hnew k e with e | e
    · exact h.ls k hk e
    · have := (h.s.lt k (by rw [ownBlock_map]; exact hk)).2; omega
  · intro k hk e
    rcases hnew k e with e | e
    · exact h.lt k hk e
    · have := (h.t.lt k (by rw [ownBlock_map]; exact hk)).2; omega
  · show (d.log ++ l).length ≤ d.room
    rw [hlen]; exact hr
  · exact (hch.mono fun k _ hk => .inr hk).trans (hcg.mono fun k _ hk => .inl hk)
  · simp [World.cell?, hb, Dk.cells]
  · simp [World.frozen?, hb]

theorem BytesIn.chg {w w' : World} {S : Nat → Prop} {c : Nat} {A : Option Addr} {l : List UInt8} (h : BytesIn w w.heap.size A c l) (hc : Chg S w w') (hs : l ≠ [] → ∀ ad, A = some ad → ¬ S ad.block) : BytesIn w' w'.heap.size A c l := by
  refine ⟨h.le, h.cap, ?_⟩
  by_cases hl : l = []
  · exact .inl hl
  rcases h.rd with e | ⟨b, off, e, hb, hh⟩
  · exact .inl e
  · exact .inr ⟨b, off, e, Nat.lt_of_lt_of_le hb hc.size, fun i hi => hc.cell (hh i hi) (show ¬ S b from hs hl _ e)⟩
theorem BytesIn.off {w : World} {B c g : Nat} {A : Option Addr} {l : List UInt8} (h : BytesIn w B A c l) (hg : B ≤ g) : l ≠ [] → ∀ ad, A = some ad → ad.block ≠ g := by
  intro hl ad e
  rcases h.rd with e' | ⟨b, off, e', hb, _⟩
  · exact absurd e' hl
  · rw [e'] at e
    injection e with e
    subst e
    simp only
    omega

/-- What Append answers, and what the disk is behind it. -/
def appE (d : Dk) (n : Int) (l : List UInt8) : Int := if n = d.log.length then (if d.room < d.log.length + l.length then 153 else tookE d) else 151
def appD (d : Dk) (n : Int) (l : List UInt8) : Dk := if n = d.log.length then (if d.room < d.log.length + l.length then d else { d with log := d.log ++ l.take (took d l.length), cut := false }) else d

set_option maxHeartbeats 4000000 in
theorem append1_any (g pa pd pb m : Nat) (d : Dk) (y : Lay) (n : Int) (A : Option Addr) (c : Nat) (l : List UInt8) (w : World) (h : DiskAt w g d y) (ha : w.cell? ⟨pa, 0, none⟩ = some (.int .i64 n))
    (hd : w.cell? ⟨pd, 0, none⟩ = some (.pointer (some ⟨g, 0, none⟩))) (hb : w.cell? ⟨pb, 0, none⟩ = some (.slice A m c)) (hm : m = l.length) (hB : BytesIn w w.heap.size A c l) (hA : l ≠ [] → ∀ ad, A = some ad → ad.block ≠ g)
    (hpd : pd ≠ g) (hpb : pb ≠ g) (hpd' : y.lb ≠ some pd) :
    Calls Tryd.prog 24 #[.pointer (some ⟨pa, 0, none⟩), .pointer (some ⟨pd, 0, none⟩), .pointer (some ⟨pb, 0, none⟩)] w fun e w' => e = .returned (.int .i64 (appE d n l)) ∧ ∃ y', DiskAt w' g (appD d n l) y' ∧ Foot g y y' w w' := by
  have c0 := h.c0
  have c4 := h.c4
  have hl := h.glt
  have hll := h.ll
  have hlr := h.r
  have hcap := hB.cap
  have hle := hB.le
  have HD := Lib.hid h
  have HM := Lib.hid hm
  have HB := Lib.hid hB
  have HA := Lib.hid hA
  have hmc : m ≤ c := by omega
  by_cases h1 : n = d.log.length
  · by_cases h2 : d.room < d.log.length + l.length
    · have e1 : appE d n l = 153 := by unfold appE; rw [if_pos h1, if_pos h2]
      have e2 : appD d n l = d := by unfold appD; rw [if_pos h1, if_pos h2]
      have E1 := Lib.hid e1
      have E2 := Lib.hid e2
      have hc2 : (d.room : Int) - (d.log.length : Int) < (m : Int) := by omega
      clear e1 e2 hm h hB h2 hA hle
      generalize d.log.length = N at *
      generalize d.room = R at *
      subst h1
      go_enter Tryd.func24, Tryd.ntmps24
      go_wp2_with fail
      go_quiet (fail)
      generalize nq = q1
      go_wp2_with fail
      go_quiet (fail)
      go_wp2_with fail
      go_ret
      exact ⟨by rw [E1.out]; rfl, y, by rw [E2.out]; exact (HD.out.drewN _).drewN _, Foot.of_no (((Chg.refl _ w).drewN _).drewN _) g y⟩
    · have e1 : appE d n l = tookE d := by unfold appE; rw [if_pos h1, if_neg h2]
      have e2 : appD d n l = { d with log := d.log ++ l.take (took d m), cut := false } := by unfold appD; rw [if_pos h1, if_neg h2, hm]
      have E1 := Lib.hid e1
      have E2 := Lib.hid e2
      obtain ⟨i0, hi, hz0, hz1, hz2⟩ := info_parts info5
      have hc2 : ¬ (d.room : Int) - (d.log.length : Int) < (m : Int) := by omega
      have hkm := took_le d m
      have hkl : took d m = (l.take (took d m)).length := by rw [List.length_take]; omega
      have htk : BytesIn w w.heap.size A c (l.take (took d m)) := hB.take
      have hroom : d.log.length + took d m ≤ d.room := by omega
      have HKL := Lib.hid hkl
      have HROOM := Lib.hid hroom
      have HTK := Lib.hid htk
      generalize htd : took d m = k at *
      have HTD := Lib.hid htd
      obtain ⟨N, hN⟩ : ∃ N, N = d.log.length := ⟨_, rfl⟩
      obtain ⟨R, hR⟩ : ∃ R, R = d.room := ⟨_, rfl⟩
      have HN := Lib.hid hN
      have HR := Lib.hid hR
      rw [← hN] at h1 c4 hll hc2 hroom
      rw [← hR] at c0 hlr hll hc2 hroom
      subst h1
      clear e1 e2 hm h hB h2 hA hkl htk htd hle hN hR
      go_enter Tryd.func24, Tryd.ntmps24
      go_wp2_with fail
      go_quiet (fail)
      generalize nq = q1
      go_wp2_with fail
      go_quiet (fail)
      have hn : Chg NoBlk w ((w.drewN q1).drewN nq) := ((Chg.refl _ w).drewN _).drewN _
      have HD2 := Lib.hid (HD.out.chg0 hn)
      have HN2 := Lib.hid hn
      generalize (w.drewN q1).drewN nq = W at HD2 HN2 ⊢
      have hd2 : W.cell? ⟨pd, 0, none⟩ = some (.pointer (some ⟨g, 0, none⟩)) := HN2.out.cell hd (fun h => h)
      have hb2 : W.cell? ⟨pb, 0, none⟩ = some (.slice A m c) := HN2.out.cell hb (fun h => h)
      clear c0 c4 ha hd hb hl hn
      go_wp2_with fail
      refine (part_any g d y m W HD2.out).mono ?_
      rintro e w1 ⟨rfl, hd1, hch1⟩
      rw [HTD.out]
      have hd3 : w1.cell? ⟨pd, 0, none⟩ = some (.pointer (some ⟨g, 0, none⟩)) := hch1.cell hd2 (by simp only; omega)
      have hb3 : w1.cell? ⟨pb, 0, none⟩ = some (.slice A m c) := hch1.cell hb2 (by simp only; omega)
      have c4 := hd1.c4
      have htk1 := (HTK.out.chg HN2.out (fun _ _ _ h => h)).chg hch1 (fun hne ad e h => HA.out (fun e0 => hne (by rw [e0]; simp)) ad e h)
      have htk2 := htk1.cellsN HKL.out
      have HTK1 := Lib.hid (show CellsIn w1.drew w1.heap.size 1 A k (cells8 (l.take k)) from ⟨htk2.1, htk2.2⟩)
      clear htk2
      have HD3 := Lib.hid (show DiskAt w1.drew g { d with cut := false } y from hd1.chg0 ((Chg.refl _ w1).drew))
      have HC1 := Lib.hid (HN2.out.mono (S' := fun k => k = g) (fun k _ h => h.elim) |>.trans hch1)
      have hl3 := hd1.glt
      generalize tookE d = F at E1 ⊢
      rw [show ({ d with cut := false } : Dk).log.length = N from HN.out.symm] at c4
      clear hd1 hch1 htk1 hd2 hb2
      have hk1 : (0 : Int) ≤ (k : Int) := by omega
      have hk2 : (k : Int) ≤ (c : Int) := by omega
      have hbb : (N + k) * 1 ≤ 140737488355328 := by omega
      have h63 : N + k ≤ maxLen := by unfold maxLen; omega
      have hown := HD3.out.l
      rw [show ({ d with cut := false } : Dk).log.length = N from HN.out.symm] at hown
      have HOW := Lib.hid hown
      clear hown
      go_wp2_with fail
      go_region_law
        (refine step_append_row _ rfl (.tmp 37) (.tmp 40) 22 rfl (g + 1) 5 i0 _ 1 1 Tryd.underlying22 hi hz0 hz1 hz2 rfl (by omega) y.la N y.lc (cells8 d.log) rfl HOW.out _ A k c (cells8 (l.take k)) rfl HTK1.out (cells8_one _) h63 hbb (Nat.succ_le_of_lt hl3) ?_; intro A3 c3 w3 hown3 hg3 h43; rw [HN.out] at hown3 hg3 h43; have HA4 := Lib.hid (HD3.out.app A3 c3 k (l.take k) HKL.out hown3 hg3 h43 HROOM.out); clear hown3 hg3 h43; have k4 := HA4.out.2.2.1; have f4 := HA4.out.2.2.2.1; have k5 : w3.cell? ⟨pd, 0, none⟩ = some (.pointer (some ⟨g, 0, none⟩)) := HA4.out.2.2.2.2.cell (w := w1.drew) hd3 hpd'; have g4 : g < w3.heap.size := World.block_lt_of_cell? _ _ k4)
      all_goals
        go_wp2_with fail
        go_ret
        rw [E1.out, E2.out, HN.out]
        exact ⟨rfl, _, HA4.out.1, (Foot.of_g HC1.out y).trans ((Foot.of_no ((Chg.refl NoBlk w1).drew) g y).trans HA4.out.2.1)⟩
  · have e1 : appE d n l = 151 := by unfold appE; rw [if_neg h1]
    have e2 : appD d n l = d := by unfold appD; rw [if_neg h1]
    have E1 := Lib.hid e1
    have E2 := Lib.hid e2
    have h1' : (n == (d.log.length : Int)) = false := by rw [beq_eq_false_iff_ne]; exact h1
    have h1'' : (n != (d.log.length : Int)) = true := by rw [bne_iff_ne]; exact h1
    clear e1 e2 hm h hB h1 hA hle
    generalize d.log.length = N at *
    go_enter Tryd.func24, Tryd.ntmps24
    go_wp2_with fail
    go_quiet (fail)
    go_wp2_with fail
    go_ret
    exact ⟨by rw [E1.out]; rfl, y, by rw [E2.out]; exact HD.out.drewN _, Foot.of_no ((Chg.refl _ w).drewN _) g y⟩
end Go.Proofs.YtpkefkoimlecjaaDoor
