/- A disk: Chop, Snap. -/
import Derived.Test.YtpkefkoimlecjaaDoorStage
namespace Go.Proofs.YtpkefkoimlecjaaDoor
open Go.RowKit

theorem own_take {w : World} {base n c k : Nat} {A : Option Addr} {l : List UInt8} (h : w.ownsRow base 5 1 (.slice A n c) n (cells8 l)) (hk : k ≤ n) : w.ownsRow base 5 1 (.slice A k c) k (cells8 (l.take k)) := by
  have hl := h.1
  rw [cells8_length] at hl
  refine ⟨by rw [cells8_length, List.length_take]; omega, ?_⟩
  rcases h.2 with ⟨hv, h0⟩ | ⟨b, cap, cur, hv, hb, hg, h1, h2, h3, h4⟩
  · cases hv
    exact .inl ⟨by rw [show k = 0 by omega], by omega⟩
  · cases hv
    refine .inr ⟨b, c, cur, rfl, hb, hg, by omega, h2, h3, ?_⟩
    have : cells8 (l.take k) = (cells8 l).take k := by unfold cells8; rw [List.map_take]
    rw [this, ← h4, List.take_take]
    congr 1
    omega

theorem DiskAt.setLog {w : World} {g : Nat} {d : Dk} {y : Lay} (h : DiskAt w g d y) (A : Option Addr) (c n : Nat) (l : List UInt8) (hn : n = l.length) (hl : n ≤ d.room)
    (hown : w.ownsRow (g + 1) 5 1 (.slice A n c) n (cells8 l)) (hs : ∀ k, y.sa.map (·.block) = some k → A.map (·.block) ≠ some k) (ht : ∀ k, y.ta.map (·.block) = some k → A.map (·.block) ≠ some k) :
    DiskAt (w.setCell ⟨g, 4, none⟩ (.slice A n c)) g { d with log := l } { y with la := A, lc := c } := by
  subst hn
  have hcg := chg_g g 4 w (.slice A l.length c)
  refine ⟨?_, ?_, ?_, ?_, hs, ht, h.r, hl, h.sl, h.tl⟩
  · simp [World.setCell, Array.getElem?_modify, h.blk, Dk.cells]
  · exact hcg.own hown (fun k hk e => by have := (hown.lt k hk).1; omega)
  · exact hcg.own h.s (fun k hk e => by have := (h.s.lt k hk).1; omega)
  · exact hcg.own h.t (fun k hk e => by have := (h.t.lt k hk).1; omega)

/-- What Chop answers, and what the disk is behind it. -/
def coE (d : Dk) (n : Int) : Int := if n < 0 ∨ (d.log.length : Int) < n then 151 else 0
def coD (d : Dk) (n : Int) : Dk := if n < 0 ∨ (d.log.length : Int) < n then d else { d with log := d.log.take n.toNat }

set_option maxHeartbeats 4000000 in
theorem chop1_any (g pd pa : Nat) (d : Dk) (y : Lay) (n : Int) (w : World) (h : DiskAt w g d y)
    (hd : w.cell? ⟨pd, 0, none⟩ = some (.pointer (some ⟨g, 0, none⟩))) (ha : w.cell? ⟨pa, 0, none⟩ = some (.int .i64 n)) :
    Calls Tryd.prog 36 #[.pointer (some ⟨pa, 0, none⟩), .pointer (some ⟨pd, 0, none⟩)] w fun e w' => e = .returned (.int .i64 (coE d n)) ∧ ∃ y', DiskAt w' g (coD d n) y' ∧ Foot g y y' w w' := by
  have c4 := h.c4
  have f4 := h.fz 4
  have hl := h.glt
  have hlr := h.r
  have hll := h.ll
  have HD := Lib.hid h
  clear h
  by_cases h2 : n < 0 ∨ (d.log.length : Int) < n
  · have e1 : coE d n = 151 := by unfold coE; rw [if_pos h2]
    have e2 : coD d n = d := by unfold coD; rw [if_pos h2]
    have E1 := Lib.hid e1
    have E2 := Lib.hid e2
    clear e1 e2
    generalize d.log.length = N at *
    rcases h2 with h2 | h2
    · go_enter Tryd.func36, Tryd.ntmps36
      go_wp2_with fail
      go_quiet (fail)
      go_wp2_with fail
      go_ret
      exact ⟨by rw [E1.out]; rfl, y, by rw [E2.out]; exact HD.out.drewN _, Foot.of_no ((Chg.refl _ w).drewN _) g y⟩
    · by_cases h3 : n < 0
      · omega
      have h3' : decide (n < 0) = false := by rw [decide_eq_false_iff_not]; exact h3
      have h2' : decide ((N : Int) < n) = true := by rw [decide_eq_true_eq]; exact h2
      go_enter Tryd.func36, Tryd.ntmps36
      go_wp2_with fail
      go_quiet (fail)
      go_wp2_with fail
      go_ret
      exact ⟨by rw [E1.out]; rfl, y, by rw [E2.out]; exact HD.out.drewN _, Foot.of_no ((Chg.refl _ w).drewN _) g y⟩
  · have e1 : coE d n = 0 := by unfold coE; rw [if_neg h2]
    have e2 : coD d n = { d with log := d.log.take n.toNat } := by unfold coD; rw [if_neg h2]
    obtain ⟨k, rfl⟩ := Int.eq_ofNat_of_zero_le (show 0 ≤ n by omega)
    have E1 := Lib.hid e1
    have E2 := Lib.hid (show coD d (k : Int) = { d with log := d.log.take k } from e2)
    have hkl : k ≤ d.log.length := by omega
    have hkt : k = (d.log.take k).length := by rw [List.length_take]; omega
    have HKT := Lib.hid hkt
    have HN := Lib.hid hkl
    obtain ⟨N, hN⟩ : ∃ N, N = d.log.length := ⟨_, rfl⟩
    have hlcN : N ≤ y.lc := by
      rw [hN]
      rcases HD.out.l.2 with ⟨hv, h0⟩ | ⟨b, cap, cur, hv, hb, hg, h1, _⟩
      · rw [h0]; exact Nat.zero_le _
      · injection hv with e1 e2 e3; rw [e3]; exact h1
    rw [← hN] at c4 hkl hll
    have hn3 : decide ((k : Int) < 0) = false := by rw [decide_eq_false_iff_not]; omega
    have hn4 : decide ((N : Int) < (k : Int)) = false := by rw [decide_eq_false_iff_not]; omega
    have hk1 : (0 : Int) ≤ (k : Int) := by omega
    have hk2 : (k : Int) ≤ (y.lc : Int) := by omega
    clear e1 e2 h2 hkt hN
    go_enter Tryd.func36, Tryd.ntmps36
    go_wp2_with fail
    go_quiet (fail)
    have hn : Chg NoBlk w (w.drewN nq) := (Chg.refl _ w).drewN _
    have HD2 := Lib.hid (HD.out.chg0 hn)
    have HF2 := Lib.hid (Foot.of_no hn g y)
    generalize hW : w.drewN nq = W at HD2 HF2 ⊢
    have hd2 : W.cell? ⟨pd, 0, none⟩ = some (.pointer (some ⟨g, 0, none⟩)) := by rw [← hW]; exact hd
    have ha2 : W.cell? ⟨pa, 0, none⟩ = some (.int .i64 (k : Int)) := by rw [← hW]; exact ha
    have c42 : W.cell? ⟨g, 4, none⟩ = some (.slice y.la N y.lc) := by rw [← hW]; exact c4
    have f42 : W.frozen? ⟨g, 4, none⟩ = false := by rw [← hW]; exact f4
    have hlW : g < W.heap.size := by rw [← hW]; exact hl
    clear hd ha c4 f4 hn hW hl
    go_wp2_with fail
    go_region_law
      (fail)
    all_goals
      go_wp2_with fail
      go_ret
      rw [E1.out, E2.out]
      exact ⟨rfl, _, (HD2.out.setLog y.la y.lc k (d.log.take k) HKT.out (by omega) (own_take HD2.out.l HN.out) HD2.out.ls HD2.out.lt).chg0 ((Chg.refl _ _).drew), HF2.out.trans ⟨((chg_g g 4 W _).drew).mono (fun _ _ hk => .inl hk), fun _ hk => .inl hk⟩⟩

set_option maxHeartbeats 1000000 in
theorem fenced_chop (g : Nat) (d : Dk) (y : Lay) (ep : Int) (caps : Array Value) (w : World) (h : DiskAt w g d y) (x : Int) (R : World → Prop)
    (hr : ep = d.c.e → Calls Tryd.prog 36 caps w fun e w' => e = .returned (.int .i64 x) ∧ R w') (hn : ep ≠ d.c.e → x = 150 ∧ R w) :
    Calls Tryd.prog 23 #[.pointer (some ⟨g, 0, none⟩), .int .i64 ep, .func (.func 36) #[] caps] w fun e w' => e = .returned (.int .i64 x) ∧ R w' := by
  have c1 := h.c1
  have hl := h.glt
  clear h
  by_cases he : ep = d.c.e
  · have H := Lib.hid (hr he)
    subst he
    clear hr hn
    generalize d.c.e = E at c1
    go_enter Tryd.func23, Tryd.ntmps23
    go_wp2_with fail
    refine H.out.mono ?_
    rintro e w' ⟨rfl, hR⟩
    have HR := Lib.hid hR
    clear hR
    go_wp2_with fail
    go_ret
    exact ⟨rfl, HR.out⟩
  · have H := Lib.hid (hn he)
    have he' : (ep != d.c.e) = true := by rw [bne_iff_ne]; exact he
    clear hr hn he
    go_enter Tryd.func23, Tryd.ntmps23
    go_wp2_with fail
    go_ret
    exact ⟨by rw [H.out.1]; rfl, H.out.2⟩

/-- What Chop answers, and what the disk is behind it. -/
def chE (d : Dk) (ep n : Int) : Int := if ep = d.c.e then coE d n else 150
def chD (d : Dk) (ep n : Int) : Dk := if ep = d.c.e then coD d n else d

set_option maxHeartbeats 1000000 in
theorem chop_any (g : Nat) (d : Dk) (y : Lay) (ep n : Int) (w : World) (h : DiskAt w g d y) :
    Calls Tryd.prog 22 #[.pointer (some ⟨g, 0, none⟩), .int .i64 ep, .int .i64 n] w fun e w' => e = .returned (.int .i64 (chE d ep n)) ∧ ∃ y', DiskAt w' g (chD d ep n) y' ∧ Foot g y y' w w' := by
  have hl := h.glt
  obtain ⟨S, hS⟩ : ∃ S, S = w.heap.size := ⟨_, rfl⟩
  obtain ⟨wb, hwb⟩ : ∃ wb, wb = (w.alloc (.cells #[.pointer (some ⟨g, 0, none⟩)] 26)).alloc (.cells #[.int .i64 n] 3) := ⟨_, rfl⟩
  have hn : Chg NoBlk w wb := by rw [hwb]; exact ((Chg.refl _ w).alloc _).alloc _
  have k0 : wb.cell? ⟨S, 0, none⟩ = some (.pointer (some ⟨g, 0, none⟩)) := by rw [hwb, hS]; exact keepA (box_new w _ _)
  have k2 : wb.cell? ⟨S + 1, 0, none⟩ = some (.int .i64 n) := by rw [hwb, hS]; simp
  have h1 := chop1_any g S (S + 1) d y n wb (h.chg0 hn) k0 k2
  have h2 := fenced_chop g d y ep #[.pointer (some ⟨S + 1, 0, none⟩), .pointer (some ⟨S, 0, none⟩)] wb (h.chg0 hn) (chE d ep n) (fun w' => ∃ y', DiskAt w' g (chD d ep n) y' ∧ Foot g y y' wb w')
    (fun he => by unfold chE chD; rw [if_pos he, if_pos he]; exact h1) (fun he => by unfold chE chD; rw [if_neg he, if_neg he]; exact ⟨rfl, y, h.chg0 hn, Foot.refl _ _ _⟩)
  have H2 := Lib.hid h2
  have HN := Lib.hid hn
  clear h h1 h2 hn k0 k2 hl
  go_enter Tryd.func22, Tryd.ntmps22
  go_wp2_with fail
  rw [← hwb, ← hS]
  refine H2.out.mono ?_
  rintro e w' ⟨rfl, y', hd', hf'⟩
  have HD' := Lib.hid hd'
  have HF' := Lib.hid ((Foot.of_no HN.out g y).trans hf')
  clear hd' hf' hwb hS H2
  go_wp2_with fail
  go_ret
  exact ⟨rfl, y', HD'.out, HF'.out⟩

theorem snap_any (g : Nat) (d : Dk) (y : Lay) (w : World) (h : DiskAt w g d y) :
    Calls Tryd.prog 16 #[.pointer (some ⟨g, 0, none⟩)] w fun e w' => ∃ A2 c2, e = .returned (.slice A2 d.snap.length c2) ∧ w'.ownsRow w.heap.size 5 1 (.slice A2 d.snap.length c2) d.snap.length (cells8 d.snap) ∧ Below w.heap.size w w' := by
  have c5 := h.c5
  have hl := h.glt
  have hb := (bytes_own h.s).2
  have hr : d.snap.length ≤ 1048576 := Nat.le_trans h.sl h.r
  have HB := Lib.hid hb
  clear h hb
  go_enter Tryd.func16, Tryd.ntmps16
  go_wp2_with fail
  refine (copied_any _ _ _ _ w HB.out hr rfl).mono ?_
  rintro e w' ⟨A2, c2, rfl, ho, hbel⟩
  have HO := Lib.hid ho
  have HBel := Lib.hid hbel
  clear ho hbel
  go_wp2_with fail
  go_ret
  exact ⟨_, _, rfl, HO.out, HBel.out⟩
end Go.Proofs.YtpkefkoimlecjaaDoor
