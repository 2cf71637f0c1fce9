/- A disk: Stage. -/
import Derived.Test.YtpkefkoimlecjaaDoorFenced
import Derived.Deep.RegionHeld3
namespace Go.Proofs.YtpkefkoimlecjaaDoor
open Go.RowKit

theorem keepS {w : World} {g p i j : Nat} {u v : Value} (h : w.cell? ⟨p, i, none⟩ = some v) (hne : p ≠ g) : (w.setCell ⟨g, j, none⟩ u).cell? ⟨p, i, none⟩ = some v := (chg_g g j w u).cell h hne

/-- Another row stands in the place of what was staged. -/
theorem DiskAt.setStaged {w : World} {g : Nat} {d : Dk} {y : Lay} (h : DiskAt w g d y) (A : Option Addr) (c n : Nat) (l : List UInt8) (hn : n = l.length) (hl : n ≤ d.room)
    (hown : w.ownsRow (g + 1) 5 1 (.slice A n c) n (cells8 l)) (hne : ∀ k, A.map (·.block) = some k → y.lb ≠ some k) :
    DiskAt (w.setCell ⟨g, 6, none⟩ (.slice A n c)) g { d with staged := l } { y with ta := A, tc := c } := by
  subst hn
  have hcg := chg_g g 6 w (.slice A l.length c)
  refine ⟨?_, ?_, ?_, ?_, h.ls, hne, h.r, h.ll, h.sl, hl⟩
  · simp [World.setCell, Array.getElem?_modify, h.blk, Dk.cells]
  · exact hcg.own h.l (fun k hk e => by have := (h.l.lt k hk).1; omega)
  · exact hcg.own h.s (fun k hk e => by have := (h.s.lt k hk).1; omega)
  · exact hcg.own hown (fun k hk e => by have := (hown.lt k hk).1; omega)

/-- What Stage answers, and what the disk is behind it. -/
def stE (d : Dk) (l : List UInt8) : Int := if d.room < l.length then 153 else tookE d
def stD (d : Dk) (l : List UInt8) : Dk := if d.room < l.length then d else { d with staged := l.take (took d l.length), cut := false }

set_option maxHeartbeats 4000000 in
theorem stage1_any (g pd pb m : Nat) (d : Dk) (y : Lay) (A : Option Addr) (c : Nat) (l : List UInt8) (w : World) (h : DiskAt w g d y)
    (hd : w.cell? ⟨pd, 0, none⟩ = some (.pointer (some ⟨g, 0, none⟩))) (hb : w.cell? ⟨pb, 0, none⟩ = some (.slice A m c)) (hm : m = l.length) (hB : BytesIn w w.heap.size A c l) (hA : l ≠ [] → ∀ ad, A = some ad → ad.block ≠ g)
    (hpd : pd ≠ g) (hpb : pb ≠ g) :
    Calls Tryd.prog 26 #[.pointer (some ⟨pb, 0, none⟩), .pointer (some ⟨pd, 0, none⟩)] w fun e w' => e = .returned (.int .i64 (stE d l)) ∧ ∃ y', DiskAt w' g (stD d l) y' ∧ Foot g y y' w w' := by
  have c0 := h.c0
  have hl := h.glt
  have hlr := h.r
  have hcap := hB.cap
  have hle := hB.le
  have hwd : pd < w.heap.size := World.block_lt_of_cell? _ _ hd
  have hwb : pb < w.heap.size := World.block_lt_of_cell? _ _ hb
  have HD := Lib.hid h
  have HM := Lib.hid hm
  have HB := Lib.hid hB
  have HA := Lib.hid hA
  have hmc : m ≤ c := by omega
  by_cases h2 : d.room < l.length
  · have e1 : stE d l = 153 := by unfold stE; rw [if_pos h2]
    have e2 : stD d l = d := by unfold stD; rw [if_pos h2]
    have E1 := Lib.hid e1
    have E2 := Lib.hid e2
    have hc2 : (d.room : Int) < (m : Int) := by omega
    clear e1 e2 hm h hB h2 hA hle
    generalize d.room = R at *
    go_enter Tryd.func26, Tryd.ntmps26
    go_wp2_with fail
    go_quiet (fail)
    go_wp2_with fail
    go_ret
    exact ⟨by rw [E1.out]; rfl, y, by rw [E2.out]; exact HD.out.drewN _, Foot.of_no ((Chg.refl _ w).drewN _) g y⟩
  · have e1 : stE d l = tookE d := by unfold stE; rw [if_neg h2]
    have e2 : stD d l = { d with staged := l.take (took d m), cut := false } := by unfold stD; rw [if_neg h2, hm]
    have E1 := Lib.hid e1
    have E2 := Lib.hid e2
    have hkm := took_le d m
    have hkl : took d m = (l.take (took d m)).length := by rw [List.length_take]; omega
    have htk : BytesIn w w.heap.size A c (l.take (took d m)) := hB.take
    have hc2 : ¬ (d.room : Int) < (m : Int) := by omega
    have HKL := Lib.hid hkl
    have HTK := Lib.hid htk
    generalize htd : took d m = k at *
    have HTD := Lib.hid htd
    obtain ⟨R, hR⟩ : ∃ R, R = d.room := ⟨_, rfl⟩
    have HR := Lib.hid hR
    rw [← hR] at c0 hlr hc2
    clear e1 e2 hm h hB h2 hA hkl htk htd hle hR
    go_enter Tryd.func26, Tryd.ntmps26
    go_wp2_with fail
    go_quiet (fail)
    have hn : Chg NoBlk w (w.drewN nq) := (Chg.refl _ w).drewN _
    have HD2 := Lib.hid (HD.out.chg0 hn)
    have HN2 := Lib.hid hn
    have hws : w.heap.size ≤ (w.drewN nq).heap.size := hn.size
    generalize w.drewN nq = W at HD2 HN2 hws ⊢
    have hd2 : W.cell? ⟨pd, 0, none⟩ = some (.pointer (some ⟨g, 0, none⟩)) := HN2.out.cell hd (fun h => h)
    have hb2 : W.cell? ⟨pb, 0, none⟩ = some (.slice A m c) := HN2.out.cell hb (fun h => h)
    clear c0 hd hb hl hn
    go_wp2_with fail
    refine (part_any g d y m W HD2.out).mono ?_
    rintro e w1 ⟨rfl, hd1, hch1⟩
    rw [HTD.out]
    have hd3 : w1.cell? ⟨pd, 0, none⟩ = some (.pointer (some ⟨g, 0, none⟩)) := hch1.cell hd2 (by simp only; omega)
    have hb3 : w1.cell? ⟨pb, 0, none⟩ = some (.slice A m c) := hch1.cell hb2 (by simp only; omega)
    have hw1 : w.heap.size ≤ w1.heap.size := Nat.le_trans hws hch1.size
    have htk1 := (HTK.out.chg HN2.out (fun _ _ _ h => h)).chg hch1 (fun hne ad e h => HA.out (fun e0 => hne (by rw [e0]; simp)) ad e h)
    have hn1 : Chg NoBlk w1 w1.drew := (Chg.refl _ w1).drew
    have HTK1 := Lib.hid (htk1.chg hn1 (fun _ _ _ h => h))
    have HD3 := Lib.hid (hd1.chg0 hn1)
    have HC1 := Lib.hid (HN2.out.mono (S' := fun k => k = g) (fun k _ h => h.elim) |>.trans hch1)
    have HF1 := Lib.hid ((Foot.of_g HC1.out y).trans (Foot.of_no hn1 g y))
    have hl3 := hd1.glt
    generalize tookE d = F at E1 ⊢
    clear hd1 hch1 htk1 hd2 hb2 hn1
    have hk1 : (0 : Int) ≤ (k : Int) := by omega
    have hk2 : (k : Int) ≤ (c : Int) := by omega
    have hkR : k ≤ R := by omega
    go_wp2_with fail
    go_region_held3 (fun w' => w'.cell? ⟨pd, 0, none⟩ = some (.pointer (some ⟨g, 0, none⟩)) ∧ w'.cell? ⟨pb, 0, none⟩ = some (.slice A m c))
      (refine ⟨?_, ?_⟩ <;> (first | with_reducible exact hd3 | with_reducible exact hb3 | with_reducible exact keepD hd3 | with_reducible exact keepD hb3 | with_reducible assumption | (refine keepS (by with_reducible assumption) (by omega))))
      ((go_at_call 27; refine (copied_any A c k (l.take k) w1.drew HTK1.out (by rw [← HKL.out]; omega) HKL.out).mono ?_; rintro e w5 ⟨A5, c5, rfl, ho5, hb5⟩; have HO5 := Lib.hid ho5; have hn5 : Chg NoBlk w1.drew w5 := Chg.of_below hb5; have HD5 := Lib.hid (HD3.out.chg0 hn5); have HF5 := Lib.hid (HF1.out.trans (Foot.of_no hn5 g y)); have e5 : w5.cell? ⟨pd, 0, none⟩ = some (.pointer (some ⟨g, 0, none⟩)) := hn5.cell (w := w1.drew) hd3 (fun h => h); have e6 : w5.cell? ⟨pb, 0, none⟩ = some (.slice A m c) := hn5.cell (w := w1.drew) hb3 (fun h => h); have k6 := HD5.out.c6; have f6 := HD5.out.fz 6; have g6 := HD5.out.glt; clear ho5 hb5 hn5))
    all_goals
      go_wp2_with fail
      go_ret
      rw [E1.out, E2.out]
      refine ⟨rfl, _, HD5.out.setStaged A5 c5 k (l.take k) HKL.out (by show k ≤ d.room; rw [← HR.out]; exact hkR) (own_low HO5.out (Nat.succ_le_of_lt hl3)) (fun q hq e => ?_), HF5.out.trans ⟨(chg_g g 6 w5 _).mono (fun _ _ hk => .inl hk), fun _ hk => .inl hk⟩⟩
      have h1 := (HO5.out.lt q (by rw [ownBlock_map]; exact hq)).1
      have h2 := (HD3.out.lbl q e).2
      omega

set_option maxHeartbeats 1000000 in
theorem fenced_stage (g : Nat) (d : Dk) (y : Lay) (ep : Int) (caps : Array Value) (w : World) (h : DiskAt w g d y) (x : Int) (R : World → Prop)
    (hr : ep = d.c.e → Calls Tryd.prog 26 caps w fun e w' => e = .returned (.int .i64 x) ∧ R w') (hn : ep ≠ d.c.e → x = 150 ∧ R w) :
    Calls Tryd.prog 23 #[.pointer (some ⟨g, 0, none⟩), .int .i64 ep, .func (.func 26) #[] caps] w fun e w' => e = .returned (.int .i64 x) ∧ R w' := by
  have c1 := h.c1
  have hl := h.glt
  clear h
  by_cases he : ep = d.c.e
  · have H := Lib.hid (hr he)
    subst he
    clear hr hn
    generalize d.c.e = E at c1
    go_enter Tryd.func23, Tryd.ntmps23
    go_wp2_with fail
    refine H.out.mono ?_
    rintro e w' ⟨rfl, hR⟩
    have HR := Lib.hid hR
    clear hR
    go_wp2_with fail
    go_ret
    exact ⟨rfl, HR.out⟩
  · have H := Lib.hid (hn he)
    have he' : (ep != d.c.e) = true := by rw [bne_iff_ne]; exact he
    clear hr hn he
    go_enter Tryd.func23, Tryd.ntmps23
    go_wp2_with fail
    go_ret
    exact ⟨by rw [H.out.1]; rfl, H.out.2⟩

/-- What Stage answers, and what the disk is behind it. -/
def sgE (d : Dk) (ep : Int) (l : List UInt8) : Int := if ep = d.c.e then stE d l else 150
def sgD (d : Dk) (ep : Int) (l : List UInt8) : Dk := if ep = d.c.e then stD d l else d

set_option maxHeartbeats 1000000 in
theorem stage_any (g m : Nat) (d : Dk) (y : Lay) (ep : Int) (A : Option Addr) (c : Nat) (l : List UInt8) (w : World) (h : DiskAt w g d y) (hm : m = l.length) (hB : BytesIn w w.heap.size A c l) (hA : l ≠ [] → ∀ ad, A = some ad → ad.block ≠ g) :
    Calls Tryd.prog 12 #[.pointer (some ⟨g, 0, none⟩), .int .i64 ep, .slice A m c] w fun e w' => e = .returned (.int .i64 (sgE d ep l)) ∧ ∃ y', DiskAt w' g (sgD d ep l) y' ∧ Foot g y y' w w' := by
  have hl := h.glt
  obtain ⟨S, hS⟩ : ∃ S, S = w.heap.size := ⟨_, rfl⟩
  obtain ⟨wb, hwb⟩ : ∃ wb, wb = (w.alloc (.cells #[.pointer (some ⟨g, 0, none⟩)] 26)).alloc (.cells #[.slice A m c] 22) := ⟨_, rfl⟩
  have hn : Chg NoBlk w wb := by rw [hwb]; exact ((Chg.refl _ w).alloc _).alloc _
  have k0 : wb.cell? ⟨S, 0, none⟩ = some (.pointer (some ⟨g, 0, none⟩)) := by rw [hwb, hS]; exact keepA (box_new w _ _)
  have k2 : wb.cell? ⟨S + 1, 0, none⟩ = some (.slice A m c) := by rw [hwb, hS]; simp
  have h1 := stage1_any g S (S + 1) m d y A c l wb (h.chg0 hn) k0 k2 hm (hB.chg hn (fun _ _ _ h => h)) hA (by omega) (by omega)
  have h2 := fenced_stage g d y ep #[.pointer (some ⟨S + 1, 0, none⟩), .pointer (some ⟨S, 0, none⟩)] wb (h.chg0 hn) (sgE d ep l) (fun w' => ∃ y', DiskAt w' g (sgD d ep l) y' ∧ Foot g y y' wb w')
    (fun he => by unfold sgE sgD; rw [if_pos he, if_pos he]; exact h1) (fun he => by unfold sgE sgD; rw [if_neg he, if_neg he]; exact ⟨rfl, y, h.chg0 hn, Foot.refl _ _ _⟩)
  have H2 := Lib.hid h2
  have HN := Lib.hid hn
  have HM := Lib.hid hm
  have hgS : g < S := by omega
  clear h hB h1 h2 hn hm k0 k2 hl hA
  go_enter Tryd.func12, Tryd.ntmps12
  go_wp2_with fail
  rw [← hwb, ← hS]
  refine H2.out.mono ?_
  rintro e w' ⟨rfl, y', hd', hf'⟩
  have HD' := Lib.hid hd'
  have HF' := Lib.hid ((Foot.of_no HN.out g y).trans hf')
  clear hd' hf' hwb hS H2
  go_wp2_with fail
  go_ret
  exact ⟨rfl, y', HD'.out, HF'.out⟩
end Go.Proofs.YtpkefkoimlecjaaDoor
