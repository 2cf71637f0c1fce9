/- Chapter 20: settle, the walk. -/
import Derived.Shelf.Abstract
import Derived.Test.YtoeamofemepgpaaSettle
namespace Go.Proofs.Ytoeamofemepgpaa
open Go.RowKit Go.Shelf
attribute [local go_sem] Oper.semAt_some

def mid {α : Type} (g : α → α) (ps : List α) (i : Nat) : List α := (ps.map g).take i ++ ps.drop i
theorem mid_zero {α : Type} (g : α → α) (ps : List α) : mid g ps 0 = ps := by simp [mid]
theorem mid_all {α : Type} (g : α → α) (ps : List α) : mid g ps ps.length = ps.map g := by
  unfold mid
  rw [List.take_of_length_le (by simp), List.drop_eq_nil_of_le (Nat.le_refl _), List.append_nil]
theorem mid_at {α : Type} (g : α → α) (ps : List α) {i : Nat} {x : α} (h : ps[i]? = some x) : (mid g ps i)[i]? = some x := by
  have hi : i < ps.length := (List.getElem?_eq_some_iff.1 h).1
  unfold mid
  rw [List.getElem?_append_right (by simp; omega), List.length_take, List.length_map, Nat.min_eq_left (Nat.le_of_lt hi), Nat.sub_self, List.getElem?_drop, Nat.add_zero]
  exact h
theorem mid_succ {α : Type} (g : α → α) (ps : List α) {i : Nat} {x : α} (h : ps[i]? = some x) : mid g ps (i + 1) = (mid g ps i).set i (g x) := by
  have hi : i < ps.length := (List.getElem?_eq_some_iff.1 h).1
  unfold mid
  have hl : ((ps.map g).take i).length = i := by simp; omega
  rw [List.set_append_right _ _ (by omega), hl, Nat.sub_self, List.drop_eq_getElem_cons hi, List.set_cons_zero, List.take_add_one, List.getElem?_map, h]
  simp

/-- Between two rounds. -/
def SetI (w : World) (B A rb n c : Nat) (RA : Option Addr) (u t : Int) (ps : List (Nat × Pt)) (i : Nat) (W : World) : Prop :=
  Parts W B A rb n c RA u (mid (fun x => (x.1, x.2.settle u t)) ps i) ∧ Chg (fun k => ∃ x ∈ ps, x.1 = k) w W ∧ W.cell? ⟨w.heap.size, 0, none⟩ = some (.int .i64 t) ∧ W.cell? ⟨w.heap.size + 1, 0, none⟩ = some (.pointer (some ⟨A, 0, none⟩))

set_option maxHeartbeats 2000000 in
theorem settle_any (w : World) {B A rb n c : Nat} {RA : Option Addr} {u : Int} {ps : List (Nat × Pt)} (h : Parts w B A rb n c RA u ps) (t : Int) :
    Calls Try.prog 24 #[.pointer (some ⟨A, 0, none⟩), .int .i64 t] w fun e w' =>
      (∃ r, e = .returned r) ∧ Parts w' B A rb n c RA u (ps.map fun x => (x.1, x.2.settle u t)) ∧ Chg (fun k => ∃ x ∈ ps, x.1 = k) w w' := by
  refine (callsIn_wide (n := 4)).1 ?_
  refine callsIn_of_wp_marks Try.func24 rfl trivial ?_ rfl
  simp only [Try.ntmps24, List.size_toArray, List.length_cons, List.length_nil, Nat.reduceAdd, Nat.reduceSub, Array.replicate_succ, Array.replicate_zero, List.push_toArray, List.append_toArray, List.nil_append, List.cons_append]
  have H := Lib.hid h
  clear h
  gi_wp2_with (refine ⟨trivial, ?_⟩; gi_at_call 27; refine (callsIn_wide.2 (running_any _ A)).mono ?_; rintro e w' ⟨rfl, rfl⟩)
  obtain ⟨W0, hW0⟩ : ∃ x, x = (w.alloc (.cells #[.int .i64 t] 3)).alloc (.cells #[.pointer (some ⟨A, 0, none⟩)] 23) := ⟨_, rfl⟩
  have hz0 : W0.heap.size = w.heap.size + 2 := by rw [hW0]; simp
  have hb0 : W0.cell? ⟨w.heap.size, 0, none⟩ = some (.int .i64 t) := by
    rw [hW0]
    exact cellb (i := 0) ((Below.heap_alloc _ _ _ (by simp)).trans (World.alloc_heap_new w _)) rfl
  have hb1 : W0.cell? ⟨w.heap.size + 1, 0, none⟩ = some (.pointer (some ⟨A, 0, none⟩)) := by
    rw [hW0]
    have := World.alloc_heap_new (w.alloc (.cells #[.int .i64 t] 3)) (.cells #[.pointer (some ⟨A, 0, none⟩)] 23)
    rw [World.size_alloc] at this
    exact cellb (i := 0) this rfl
  have hc0 : Chg (fun _ => False) w W0 := by rw [hW0]; exact ((Chg.refl _ w).alloc _).alloc _
  have hp0 := H.out.chg hc0 (fun _ h => h.elim)
  have hAB := H.out.lA
  have hBw := H.out.lB
  have hrb := H.out.at_
  rw [← hW0]
  clear hW0
  have HZ0 := Lib.hid hz0
  clear hz0
  refine wpIn_over (gf := 37) (lb := #[.pointer (some ⟨w.heap.size + 1, 0, none⟩)]) (n := 2) rfl (enters_of Try.func37 (by kernel_rfl) rfl)
    (run_iter A (w.heap.size + 1) rb n c RA (fun h => (hrb h).1) H.out.cap)
    (SetI w B A rb n c RA u t ps)
    ?stable ?start ?reads ?sizes ?round ?done
  case stable =>
    rintro i W W' ⟨h1, h2, h3, h4⟩ hc
    have hz0 := HZ0.out
    refine ⟨h1.chg hc (fun k hk => by omega), ⟨hc.os.trans h2.os, hc.tape.trans h2.tape, hc.output.trans h2.output, Nat.le_trans h2.size hc.size, fun k hk hs => (hc.block k (by have := h2.size; omega) (by omega)).trans (h2.block k hk hs)⟩, hc.cell h3 (by simp; omega), hc.cell h4 (by simp; omega)⟩
  case start => exact ⟨by rw [mid_zero]; exact hp0, hc0.mono (fun _ _ h => h.elim), hb0, hb1⟩
  case reads => rintro i W ⟨h1, _, _, h4⟩; exact ⟨h4, h1.row⟩
  case sizes => rintro i W vs ⟨b, p, u', _, _, _, _, rfl⟩; rfl
  case round =>
    rintro i W ⟨h1, h2, h3, h4⟩ hi hlW
    obtain ⟨x, hx⟩ : ∃ x, ps[i]? = some x := ⟨ps[i]'(by have := H.out.len; omega), List.getElem?_eq_getElem (by have := H.out.len; omega)⟩
    obtain ⟨b, p⟩ := x
    have hm := mid_at (fun x : Nat × Pt => (x.1, x.2.settle u t)) ps hx
    have hs := mid_succ (fun x : Nat × Pt => (x.1, x.2.settle u t)) ps hx
    have hpt := (h1.prt i b p hm).1
    by_cases hh : p.how = 0
    · refine .inr ⟨_, ⟨b, p, u, h1.ptr i b p hm, hpt, h1.unt, hh, rfl⟩, ?_⟩
      gi_wp2
      intro W2 hc2
      have hz0 := HZ0.out
      have k1 := h1.chg hc2 (fun k hk => by omega)
      have k2 : Chg (fun k => ∃ x ∈ ps, x.1 = k) w W2 := ⟨hc2.os.trans h2.os, hc2.tape.trans h2.tape, hc2.output.trans h2.output, Nat.le_trans h2.size hc2.size, fun k hk hs => (hc2.block k (by have := h2.size; omega) (by omega)).trans (h2.block k hk hs)⟩
      have k3 := hc2.cell h3 (by simp; omega)
      have k4 := hc2.cell h4 (by simp; omega)
      have kp := (k1.prt i b p hm).1
      have f7 : W2.cell? ⟨b, 7, none⟩ = some (.int .i64 p.end_) := cellb (i := 7) kp rfl
      have f8 : W2.cell? ⟨b, 8, none⟩ = some (.int .i64 p.wall) := cellb (i := 8) kp rfl
      have hbB := (h1.prt i b p hm).2.1
      obtain ⟨up, hup⟩ : ∃ x, x = p.upto u := ⟨_, rfl⟩
      rw [← hup]
      have HUP := Lib.hid hup
      have fin : ∀ W3 hw, p.upto u ≤ t → (if p.upto u = p.end_ then (1 : Int) else if p.upto u = p.wall then 2 else 3) = hw → PtAt W3 b (p.over hw) → Chg (fun k => k = b) W2 W3 →
          SetI w B A rb n c RA u t ps (i + 1) W3 ∧ Kept2 W0.heap.size W2 W3 := by
        intro W3 hw hle hhw ho hc3
        have e : p.settle u t = p.over hw := by unfold Pt.settle; rw [if_pos ⟨hh, hle⟩, hhw]
        simp only [e] at hs
        have hbx : (b, p) ∈ ps := List.mem_of_getElem? hx
        refine ⟨⟨by rw [hs]; exact k1.set hm hc3 ho, k2.trans (hc3.mono (fun k _ e => ⟨_, hbx, e.symm⟩)), hc3.cell k3 (by simp; omega), hc3.cell k4 (by simp; omega)⟩, fun k hk => hc3.block k ?_ (by omega)⟩
        have := hc2.size
        have := hlW
        omega
      have FIN := Lib.hid fin
      have stay : ¬ p.upto u ≤ t → SetI w B A rb n c RA u t ps (i + 1) W2 ∧ Kept2 W0.heap.size W2 W2 := by
        intro hle
        have e : p.settle u t = p := by unfold Pt.settle; rw [if_neg (fun h => hle h.2)]
        simp only [e] at hs
        exact ⟨⟨by rw [hs]; exact k1.set hm (Chg.refl _ W2) kp, k2, k3, k4⟩, fun _ _ => rfl⟩
      have STAY := Lib.hid stay
      have KP := Lib.hid kp
      clear h1 h2 h3 h4 k1 k2 k4 hpt hup fin stay hs hm kp hz0 hx hc2
      by_cases hle : up ≤ t
      · by_cases he : up = p.end_
        · gi_wp2_with (refine ⟨trivial, ?_⟩; gi_at_call 30; refine (CallsIn.inRound _ (callsIn_wide.2 (over_any _ b p _ KP.out))).mono ?_; rintro e w' ⟨⟨v, rfl⟩, ho, hc3⟩)
          exact FIN.out _ 1 (by rw [← HUP.out]; exact hle) (by rw [if_pos (by rw [← HUP.out]; exact he)]) ho hc3
        · by_cases he2 : up = p.wall
          · gi_wp2_with (refine ⟨trivial, ?_⟩; gi_at_call 30; refine (CallsIn.inRound _ (callsIn_wide.2 (over_any _ b p _ KP.out))).mono ?_; rintro e w' ⟨⟨v, rfl⟩, ho, hc3⟩)
            exact FIN.out _ 2 (by rw [← HUP.out]; exact hle) (by rw [← HUP.out, if_neg he, if_pos he2]) ho hc3
          · gi_wp2_with (refine ⟨trivial, ?_⟩; gi_at_call 30; refine (CallsIn.inRound _ (callsIn_wide.2 (over_any _ b p _ KP.out))).mono ?_; rintro e w' ⟨⟨v, rfl⟩, ho, hc3⟩)
            exact FIN.out _ 3 (by rw [← HUP.out]; exact hle) (by rw [← HUP.out, if_neg he, if_neg he2]) ho hc3
      · gi_wp2
        exact STAY.out (by rw [← HUP.out]; exact hle)
    · refine .inl ⟨⟨b, p, u, h1.ptr i b p hm, hpt, h1.unt, hh⟩, ?_, h2, h3, h4⟩
      have e : p.settle u t = p := by simp [Pt.settle, hh]
      simp only [e] at hs
      rw [hs]
      exact h1.set hm (Chg.refl _ W) hpt
  case done =>
    rintro W ⟨h1, h2, h3, h4⟩ hK
    gi_wp2
    refine ⟨by simp, .inl ⟨_, _, rfl, run_takeDeferred hK, ?_⟩⟩
    have hz0 := HZ0.out
    have hc := putObj_chg (W := W) (B := W0.heap.size) (l := W0.heap.size) (.deferred none) (.inl rfl)
    have q1 := h1.chg hc (fun k hk => by omega)
    rw [H.out.len, mid_all, ← H.out.len] at q1
    have q2 : Chg (fun k => ∃ x ∈ ps, x.1 = k) w (W.putObj W0.heap.size (.deferred none)) := ⟨hc.os.trans h2.os, hc.tape.trans h2.tape, hc.output.trans h2.output, Nat.le_trans h2.size hc.size, fun k hk hs => (hc.block k (by have := h2.size; omega) (by omega)).trans (h2.block k hk hs)⟩
    exact ⟨_, results_none rfl _ _ _, ⟨_, rfl⟩, q1, q2⟩
end Go.Proofs.Ytoeamofemepgpaa
