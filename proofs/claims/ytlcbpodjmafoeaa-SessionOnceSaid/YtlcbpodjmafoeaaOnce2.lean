/- A pair: a reply is heard. -/
import Derived.Test.YtlcbpodjmafoeaaOnce1
namespace Go.Proofs.Ytlcbpodjmafoeaa
open Go.RowKit

theorem ints_set (l : List Int) (q : Nat) (y : Int) : (ints l).toArray.setIfInBounds q (.int .i64 y) = (ints (l.set q y)).toArray := by simp [ints, List.map_set]
theorem hd_set {w : World} {H : Nat} {l : List Int} (h : w.heap[H]? = some (.cells (ints l).toArray 3 (0, 0))) (q : Nat) (y : Int) : (w.setCell ⟨H, q, none⟩ (.int .i64 y)).heap[H]? = some (.cells (ints (l.set q y)).toArray 3 (0, 0)) := by
  rw [← ints_set]; exact set_blk h _
theorem hd_cell {w : World} {H : Nat} {l : List Int} (h : w.heap[H]? = some (.cells (ints l).toArray 3 (0, 0))) {q : Nat} (hq : q < l.length) : w.cell? ⟨H, q, none⟩ = some (.int .i64 (l.getD q 0)) := by
  refine cellb h ?_
  simp [List.getD, hq]
set_option maxRecDepth 100000 in
set_option maxHeartbeats 8000000 in
theorem hears_any (lo : Nat) (id : Int) (w : World) (P : Nat) (x : Px) (f : Int → Kp) (p : Pst) (v : Nat → Int) (B : Option Addr) (nb cb : Nat) (h : PAt lo id w P x f p) :
    Calls Try.prog 30 #[.pointer (some ⟨P, 0, none⟩), .agg #[.int .i64 (v 0), .int .i64 (v 1), .int .i64 (v 2), .int .i64 (v 3), .int .i64 (v 4), .int .i64 (v 5), .int .i64 (v 6), .int .i64 (v 7), .int .i64 (v 8), .int .i64 (v 9), .int .i64 (v 10), .int .i64 (v 11), .int .i64 (v 12), .int .i64 (v 13), .int .i64 (v 14), .int .i64 (v 15), .int .i64 (v 16), .slice B nb cb, .int .i64 (v 18), .int .i64 (v 19), .int .i64 (v 20)]] w fun e w' => e = .returned (.tuple #[]) ∧ ∃ x' p', PAt lo id w' P x' f p' ∧ p'.way = p.way ∧ p'.heard.length = p.heard.length ∧ (x'.nn = x.nn ∧ p'.book = p.book ∧ p'.ep = p.ep ∧ p'.s.at_ = p.s.at_ ∧ p'.s.body = p.s.body) ∧ Chg (fun k => lo ≤ k) w w' ∧ (RepIn p ⟨v, B, nb, cb⟩ → Inv id p → Inv id p') := by
  have HPB_0 := Lib.hid h.blk
  have HC_0 := Lib.hid h.cl
  have HS_0 := Lib.hid h.sv
  have HWAY_0 := Lib.hid h.way
  have HBOOK_0 := Lib.hid h.book
  have HHD_0 := Lib.hid h.hrd
  have HB_0 : Hid (Chg (fun k => lo ≤ k) w w) := Lib.hid (Chg.refl _ w)
  have HKF := Lib.hid h.kf
  have l1 := h.lc
  have l2 := h.lP
  have l3 := h.lH
  have l4 := h.lM
  obtain ⟨w0, rfl⟩ : ∃ y, y = w := ⟨_, rfl⟩
  clear h
  go_enter Try.func30, Try.ntmps30
  obtain ⟨P3, hP3⟩ : ∃ x, x = w0.heap.size := ⟨_, rfl⟩
  have loP3 : lo ≤ P3 := (by have := ltb HPB_0.out; omega)
  obtain ⟨w1, hw1⟩ : ∃ y, y = w0.alloc (.cells #[.int .i64 (v 0), .int .i64 (v 1), .int .i64 (v 2), .int .i64 (v 3), .int .i64 (v 4), .int .i64 (v 5), .int .i64 (v 6), .int .i64 (v 7), .int .i64 (v 8), .int .i64 (v 9), .int .i64 (v 10), .int .i64 (v 11), .int .i64 (v 12), .int .i64 (v 13), .int .i64 (v 14), .int .i64 (v 15), .int .i64 (v 16), .slice B nb cb, .int .i64 (v 18), .int .i64 (v 19), .int .i64 (v 20)] 36) := ⟨_, rfl⟩
  have hal : Below w0.heap.size w0 w1 := by rw [hw1]; exact (Below.refl _ _).alloc (Nat.le_refl _) _
  have hnew : w1.heap[P3]? = some (.cells (mcv v (.slice B nb cb)) 36 (0, 0)) := by rw [hw1, hP3]; exact heap_alloc_new _ _
  have HNWAY_P3 : Hid ((.slice x.wA p.way.length x.wc : Value).ownBlock ≠ some P3) := Lib.hid (fun e => by have := (HWAY_0.out.lt _ e).2; omega)
  have HPB_1 : Hid (w1.heap[P]? = some (.cells #[.int .i64 id, .pointer (some ⟨x.gc, 0, none⟩), .pointer (some ⟨x.gs, 0, none⟩), .int .i64 p.ep, .slice x.wA p.way.length x.wc, .slice x.bA p.book.length x.bc, .int .i64 p.told, .int .i64 x.t1, .int .i64 x.t2, .slice ((some ⟨x.H, 0, none⟩)) p.heard.length p.heard.length] 54 (0, 0))) := Lib.hid ((hal.block P (ltb HPB_0.out)).trans HPB_0.out)
  have HC_1 : Hid (CAt w1 x.gc p.s x.cA x.cc) := Lib.hid (HC_0.out.below hal)
  have HS_1 : Hid (SAt w1 x.gs p.ep x.M x.nn f) := Lib.hid (HS_0.out.below hal)
  have HWAY_1 : Hid (w1.ownsRow (x.H + 1) 36 21 (.slice x.wA p.way.length x.wc) p.way.length (mgs p.way)) := Lib.hid ((Chg.of_below (S := fun _ => False) hal).own HWAY_0.out (fun _ _ h => h))
  have HBOOK_1 : Hid (w1.ownsRow (x.H + 1) 3 1 (.slice x.bA p.book.length x.bc) p.book.length (ints p.book)) := Lib.hid ((Chg.of_below (S := fun _ => False) hal).own HBOOK_0.out (fun _ _ h => h))
  have HHD_1 : Hid (w1.heap[x.H]? = some (.cells (ints p.heard).toArray 3 (0, 0))) := Lib.hid ((hal.block x.H (ltb HHD_0.out)).trans HHD_0.out)
  have HB_1 : Hid (Chg (fun k => lo ≤ k) w0 w1) := Lib.hid (HB_0.out.trans (Chg.of_below hal))
  clear hal HPB_0 HC_0 HS_0 HWAY_0 HBOOK_0 HHD_0 HB_0
  have HP3_1 := Lib.hid hnew
  clear hnew
  go_upto_region 1 with fail
  rw [← hw1]
  clear hw1
  rw [← hP3]
  clear hP3
  go_cut [4, 5] from 6 to 14 (fun s4 s5 wc => ∃ (k : Bool) (s' : Ct) (a : Int) (b : Int) (d : Int) (P4 : Nat), s4 = .pointer (some ⟨P4, 0, none⟩) ∧ s5 = .bool k ∧ lo ≤ P4 ∧ Hid (HearSum p.s v k s' a) ∧ Hid (wc.heap[P]? = some (.cells #[.int .i64 id, .pointer (some ⟨x.gc, 0, none⟩), .pointer (some ⟨x.gs, 0, none⟩), .int .i64 p.ep, .slice x.wA p.way.length x.wc, .slice x.bA p.book.length x.bc, .int .i64 p.told, .int .i64 x.t1, .int .i64 x.t2, .slice ((some ⟨x.H, 0, none⟩)) p.heard.length p.heard.length] 54 (0, 0))) ∧ Hid (SAt wc x.gs p.ep x.M x.nn f) ∧ Hid (wc.ownsRow (x.H + 1) 36 21 (.slice x.wA p.way.length x.wc) p.way.length (mgs p.way)) ∧ Hid (wc.ownsRow (x.H + 1) 3 1 (.slice x.bA p.book.length x.bc) p.book.length (ints p.book)) ∧ Hid (wc.heap[x.H]? = some (.cells (ints p.heard).toArray 3 (0, 0))) ∧ Hid (Chg (fun k => lo ≤ k) w0 wc) ∧ Hid (wc.heap[P3]? = some (.cells (mcv v (.slice B nb cb)) 36 (0, 0))) ∧ Hid (CAt wc x.gc s' x.cA x.cc) ∧ Hid (wc.heap[P4]? = some (.cells #[.int .i64 a, .int .i64 b, .int .i64 d] 34 (0, 0))))
  case first =>
    have HPB_2 : Hid (w1.drew.heap[P]? = some (.cells #[.int .i64 id, .pointer (some ⟨x.gc, 0, none⟩), .pointer (some ⟨x.gs, 0, none⟩), .int .i64 p.ep, .slice x.wA p.way.length x.wc, .slice x.bA p.book.length x.bc, .int .i64 p.told, .int .i64 x.t1, .int .i64 x.t2, .slice ((some ⟨x.H, 0, none⟩)) p.heard.length p.heard.length] 54 (0, 0))) := Lib.hid ((((Below.refl w1.heap.size w1).drew).block P (ltb HPB_1.out)).trans HPB_1.out)
    have HC_2 : Hid (CAt w1.drew x.gc p.s x.cA x.cc) := Lib.hid (HC_1.out.below ((Below.refl w1.heap.size w1).drew))
    have HS_2 : Hid (SAt w1.drew x.gs p.ep x.M x.nn f) := Lib.hid (HS_1.out.below ((Below.refl w1.heap.size w1).drew))
    have HWAY_2 : Hid (w1.drew.ownsRow (x.H + 1) 36 21 (.slice x.wA p.way.length x.wc) p.way.length (mgs p.way)) := Lib.hid ((Chg.of_below (S := fun _ => False) ((Below.refl w1.heap.size w1).drew)).own HWAY_1.out (fun _ _ h => h))
    have HBOOK_2 : Hid (w1.drew.ownsRow (x.H + 1) 3 1 (.slice x.bA p.book.length x.bc) p.book.length (ints p.book)) := Lib.hid ((Chg.of_below (S := fun _ => False) ((Below.refl w1.heap.size w1).drew)).own HBOOK_1.out (fun _ _ h => h))
    have HHD_2 : Hid (w1.drew.heap[x.H]? = some (.cells (ints p.heard).toArray 3 (0, 0))) := Lib.hid ((((Below.refl w1.heap.size w1).drew).block x.H (ltb HHD_1.out)).trans HHD_1.out)
    have HB_2 : Hid (Chg (fun k => lo ≤ k) w0 w1.drew) := Lib.hid (HB_1.out.trans (Chg.of_below ((Below.refl w1.heap.size w1).drew)))
    have HP3_2 : Hid (w1.drew.heap[P3]? = some (.cells (mcv v (.slice B nb cb)) 36 (0, 0))) := Lib.hid ((((Below.refl w1.heap.size w1).drew).block P3 (ltb HP3_1.out)).trans HP3_1.out)
    clear HPB_1 HC_1 HS_1 HWAY_1 HBOOK_1 HHD_1 HB_1 HP3_1
    have FP : w1.drew.heap[P]? = some (.cells #[.int .i64 id, .pointer (some ⟨x.gc, 0, none⟩), .pointer (some ⟨x.gs, 0, none⟩), .int .i64 p.ep, .slice x.wA p.way.length x.wc, .slice x.bA p.book.length x.bc, .int .i64 p.told, .int .i64 x.t1, .int .i64 x.t2, .slice ((some ⟨x.H, 0, none⟩)) p.heard.length p.heard.length] 54 (0, 0)) := HPB_2.out
    have FP3 : w1.drew.heap[P3]? = some (.cells (mcv v (.slice B nb cb)) 36 (0, 0)) := HP3_2.out
    refine wp_region_noPanic ?_
    refine wp_region_held_drew (S := fun w' => w'.heap[P]? = some (.cells #[.int .i64 id, .pointer (some ⟨x.gc, 0, none⟩), .pointer (some ⟨x.gs, 0, none⟩), .int .i64 p.ep, .slice x.wA p.way.length x.wc, .slice x.bA p.book.length x.bc, .int .i64 p.told, .int .i64 x.t1, .int .i64 x.t2, .slice ((some ⟨x.H, 0, none⟩)) p.heard.length p.heard.length] 54 (0, 0)) ∧ w'.heap[P3]? = some (.cells (mcv v (.slice B nb cb)) 36 (0, 0))) (by kernel_rfl) ?_ (fun hHeld => ?_)
    · try dsimp only
      (refine ⟨?_, ?_⟩ <;> (first | with_reducible assumption))
    generalize w1.drew = w2 at *
    refine wpAnyH_take (i := 0) (v := ?_) (by (simp only [List.getElem?_toArray, List.getElem?_cons_zero]; rfl)) (by kernel_rfl) (by kernel_rfl) (by kernel_rfl) (fun _ _ _ h => h) (Or.inl ⟨by rfl, ?_⟩) (by assumption) ?_
    rotate_left
    · (intro w hSw; (try dsimp only at hSw); go_simp; try with_reducible rfl)
    try simp only [Act.put, List.setIfInBounds_toArray, List.set_cons_zero, List.set_cons_succ]
    refine wpAnyH_take (i := 1) (v := ?_) (by (simp only [List.getElem?_toArray, List.getElem?_cons_succ, List.getElem?_cons_zero]; rfl)) (by kernel_rfl) (by kernel_rfl) (by kernel_rfl) (fun _ _ _ h => h) (Or.inl ⟨by rfl, ?_⟩) (by assumption) ?_
    rotate_left
    · (intro w hSw; (try dsimp only at hSw); go_simp; try with_reducible rfl)
    try simp only [Act.put, List.setIfInBounds_toArray, List.set_cons_zero, List.set_cons_succ]
    refine wpAnyH_take (i := 2) (v := ?_) (by (simp only [List.getElem?_toArray, List.getElem?_cons_succ, List.getElem?_cons_zero]; rfl)) (by kernel_rfl) (by kernel_rfl) (by kernel_rfl) (fun _ _ _ h => h) (Or.inl ⟨by rfl, ?_⟩) (by assumption) ?_
    rotate_left
    · (intro w hSw; (try dsimp only at hSw); go_simp; try with_reducible rfl)
    try simp only [Act.put, List.setIfInBounds_toArray, List.set_cons_zero, List.set_cons_succ]
    refine wpAnyH_take (i := 3) (v := ?_) (by (simp only [List.getElem?_toArray, List.getElem?_cons_succ, List.getElem?_cons_zero]; rfl)) (by kernel_rfl) (by kernel_rfl) (by kernel_rfl) (fun _ _ _ h => h) (Or.inl ⟨by rfl, ?_⟩) (by assumption) ?_
    rotate_left
    · intro w hSw
      try dsimp only at hSw
      have x0 : w.cell? ⟨P, 1, none⟩ = some (.pointer (some ⟨x.gc, 0, none⟩)) := (cellb (i := 1) hSw.1 rfl)
      go_simp; try with_reducible rfl
    try simp only [Act.put, List.setIfInBounds_toArray, List.set_cons_zero, List.set_cons_succ]
    refine wpAnyH_take (i := 4) (v := ?_) (by (simp only [List.getElem?_toArray, List.getElem?_cons_succ, List.getElem?_cons_zero]; rfl)) (by kernel_rfl) (by kernel_rfl) (by kernel_rfl) (fun _ _ _ h => h) (Or.inl ⟨by rfl, ?_⟩) (by assumption) ?_
    rotate_left
    · intro w hSw
      try dsimp only at hSw
      refine take_load (x := .tmp 3) (ty := 36) ?_ P3 ?_ 36 #[.int .i64 (v 0), .int .i64 (v 1), .int .i64 (v 2), .int .i64 (v 3), .int .i64 (v 4), .int .i64 (v 5), .int .i64 (v 6), .int .i64 (v 7), .int .i64 (v 8), .int .i64 (v 9), .int .i64 (v 10), .int .i64 (v 11), .int .i64 (v 12), .int .i64 (v 13), .int .i64 (v 14), .int .i64 (v 15), .int .i64 (v 16), .slice B nb cb, .int .i64 (v 18), .int .i64 (v 19), .int .i64 (v 20)] (0, 0) _ hSw.2 Try.underlying36 rfl (by kernel_rfl)
      all_goals rfl
    try simp only [Act.put, List.setIfInBounds_toArray, List.set_cons_zero, List.set_cons_succ]
    refine wpAnyH_ready (rs := [5, 9]) (by kernel_rfl) (by simp) ?_
    refine AllReadyH.cons (by (simp only [List.getElem?_toArray, List.getElem?_cons_succ, List.getElem?_cons_zero]; rfl)) (fun K hK => ?_) (AllReadyH.cons (by (simp only [List.getElem?_toArray, List.getElem?_cons_succ, List.getElem?_cons_zero]; rfl)) (fun K hK => ?_) AllReadyH.nil)
    · skip
      go_simp
      refine (hear_any x.gc p.s x.cA x.cc v B nb cb w2 HC_2.out).mono ?_
      rintro e w3 ⟨k, s', a, b, d, rfl, hsum, hc, hg⟩
      have hch := Ch.ofChg HC_2.out.blk hg
      have HSUM := Lib.hid hsum
      clear hsum hg
      clear HC_2
      have HPB_3 : Hid (w3.heap[P]? = some (.cells #[.int .i64 id, .pointer (some ⟨x.gc, 0, none⟩), .pointer (some ⟨x.gs, 0, none⟩), .int .i64 p.ep, .slice x.wA p.way.length x.wc, .slice x.bA p.book.length x.bc, .int .i64 p.told, .int .i64 x.t1, .int .i64 x.t2, .slice ((some ⟨x.H, 0, none⟩)) p.heard.length p.heard.length] 54 (0, 0))) := Lib.hid (hch.blk HPB_2.out (by show (54 + 1 : Nat) ≠ _; decide))
      have HS_3 : Hid (SAt w3 x.gs p.ep x.M x.nn f) := Lib.hid (hch.sat HS_2.out (by decide) (by decide))
      have HWAY_3 : Hid (w3.ownsRow (x.H + 1) 36 21 (.slice x.wA p.way.length x.wc) p.way.length (mgs p.way)) := Lib.hid (hch.own HWAY_2.out (by decide))
      have HBOOK_3 : Hid (w3.ownsRow (x.H + 1) 3 1 (.slice x.bA p.book.length x.bc) p.book.length (ints p.book)) := Lib.hid (hch.own HBOOK_2.out (by decide))
      have HHD_3 : Hid (w3.heap[x.H]? = some (.cells (ints p.heard).toArray 3 (0, 0))) := Lib.hid (hch.blk HHD_2.out (by show (3 + 1 : Nat) ≠ _; decide))
      have HB_3 : Hid (Chg (fun k => lo ≤ k) w0 w3) := Lib.hid (hch.low HB_2.out (fun k hk => by injection hk with hk; omega))
      have HP3_3 : Hid (w3.heap[P3]? = some (.cells (mcv v (.slice B nb cb)) 36 (0, 0))) := Lib.hid (hch.blk HP3_2.out (by show (36 + 1 : Nat) ≠ _; decide))
      clear hch HPB_2 HS_2 HWAY_2 HBOOK_2 HHD_2 HB_2 HP3_2
      have HC_3 : Hid (CAt w3 x.gc s' x.cA x.cc) := Lib.hid hc
      clear hc
      have FP' : w3.heap[P]? = some (.cells #[.int .i64 id, .pointer (some ⟨x.gc, 0, none⟩), .pointer (some ⟨x.gs, 0, none⟩), .int .i64 p.ep, .slice x.wA p.way.length x.wc, .slice x.bA p.book.length x.bc, .int .i64 p.told, .int .i64 x.t1, .int .i64 x.t2, .slice ((some ⟨x.H, 0, none⟩)) p.heard.length p.heard.length] 54 (0, 0)) := HPB_3.out
      have FP3' : w3.heap[P3]? = some (.cells (mcv v (.slice B nb cb)) 36 (0, 0)) := HP3_3.out
      clear FP FP3
      have FP := FP'
      clear FP'
      have FP3 := FP3'
      clear FP3'
      refine hK.out _ _ ?_ (fun hHeld => ?_)
      · try dsimp only
        (refine ⟨?_, ?_⟩ <;> (first | with_reducible assumption))
      clear hK K
      try simp only [Act.put, List.setIfInBounds_toArray, List.set_cons_zero, List.set_cons_succ]
      refine wpAnyH_take (i := 6) (v := ?_) (by (simp only [List.getElem?_toArray, List.getElem?_cons_succ, List.getElem?_cons_zero]; rfl)) (by kernel_rfl) (by kernel_rfl) (by kernel_rfl) (fun _ _ _ h => h) (Or.inl ⟨by rfl, ?_⟩) (by assumption) ?_
      rotate_left
      · (intro w hSw; (try dsimp only at hSw); go_simp; try with_reducible rfl)
      try simp only [Act.put, List.setIfInBounds_toArray, List.set_cons_zero, List.set_cons_succ]
      refine wpAnyH_take (i := 7) (v := ?_) (by (simp only [List.getElem?_toArray, List.getElem?_cons_succ, List.getElem?_cons_zero]; rfl)) (by kernel_rfl) (by kernel_rfl) (by kernel_rfl) (fun _ _ _ h => h) (Or.inl ⟨by rfl, ?_⟩) (by assumption) ?_
      rotate_left
      · (intro w hSw; (try dsimp only at hSw); go_simp; try with_reducible rfl)
      try simp only [Act.put, List.setIfInBounds_toArray, List.set_cons_zero, List.set_cons_succ]
      refine wpAnyH_take (i := 8) (v := ?_) (by (simp only [List.getElem?_toArray, List.getElem?_cons_succ, List.getElem?_cons_zero]; rfl)) (by kernel_rfl) (by kernel_rfl) (by kernel_rfl) (fun _ _ _ h => h) (Or.inl ⟨by rfl, ?_⟩) (by assumption) ?_
      rotate_left
      · (intro w hSw; (try dsimp only at hSw); go_simp; try with_reducible rfl)
      try simp only [Act.put, List.setIfInBounds_toArray, List.set_cons_zero, List.set_cons_succ]
      refine wpAnyH_ready (rs := [9]) (by kernel_rfl) (by simp) ?_
      refine AllReadyH.cons (by (simp only [List.getElem?_toArray, List.getElem?_cons_succ, List.getElem?_cons_zero]; rfl)) (fun K hK => ?_) AllReadyH.nil
      go_simp
      obtain ⟨P4, hP4⟩ : ∃ x, x = w3.heap.size := ⟨_, rfl⟩
      have loP4 : lo ≤ P4 := (by have := ltb HPB_3.out; omega)
      obtain ⟨w4, hw2⟩ : ∃ y, y = w3.alloc (.cells #[.int .i64 0, .int .i64 0, .int .i64 0] 34) := ⟨_, rfl⟩
      have hal : Below w3.heap.size w3 w4 := by rw [hw2]; exact (Below.refl _ _).alloc (Nat.le_refl _) _
      have hnew : w4.heap[P4]? = some (.cells #[.int .i64 0, .int .i64 0, .int .i64 0] 34 (0, 0)) := by rw [hw2, hP4]; exact heap_alloc_new _ _
      have HPB_4 : Hid (w4.heap[P]? = some (.cells #[.int .i64 id, .pointer (some ⟨x.gc, 0, none⟩), .pointer (some ⟨x.gs, 0, none⟩), .int .i64 p.ep, .slice x.wA p.way.length x.wc, .slice x.bA p.book.length x.bc, .int .i64 p.told, .int .i64 x.t1, .int .i64 x.t2, .slice ((some ⟨x.H, 0, none⟩)) p.heard.length p.heard.length] 54 (0, 0))) := Lib.hid ((hal.block P (ltb HPB_3.out)).trans HPB_3.out)
      have HS_4 : Hid (SAt w4 x.gs p.ep x.M x.nn f) := Lib.hid (HS_3.out.below hal)
      have HWAY_4 : Hid (w4.ownsRow (x.H + 1) 36 21 (.slice x.wA p.way.length x.wc) p.way.length (mgs p.way)) := Lib.hid ((Chg.of_below (S := fun _ => False) hal).own HWAY_3.out (fun _ _ h => h))
      have HBOOK_4 : Hid (w4.ownsRow (x.H + 1) 3 1 (.slice x.bA p.book.length x.bc) p.book.length (ints p.book)) := Lib.hid ((Chg.of_below (S := fun _ => False) hal).own HBOOK_3.out (fun _ _ h => h))
      have HHD_4 : Hid (w4.heap[x.H]? = some (.cells (ints p.heard).toArray 3 (0, 0))) := Lib.hid ((hal.block x.H (ltb HHD_3.out)).trans HHD_3.out)
      have HB_4 : Hid (Chg (fun k => lo ≤ k) w0 w4) := Lib.hid (HB_3.out.trans (Chg.of_below hal))
      have HP3_4 : Hid (w4.heap[P3]? = some (.cells (mcv v (.slice B nb cb)) 36 (0, 0))) := Lib.hid ((hal.block P3 (ltb HP3_3.out)).trans HP3_3.out)
      have HC_4 : Hid (CAt w4 x.gc s' x.cA x.cc) := Lib.hid (HC_3.out.below hal)
      clear hal HPB_3 HS_3 HWAY_3 HBOOK_3 HHD_3 HB_3 HP3_3 HC_3
      have HP4_4 := Lib.hid hnew
      clear hnew
      rw [← hw2]
      clear hw2
      rw [← hP4]
      clear hP4
      have FP' : w4.heap[P]? = some (.cells #[.int .i64 id, .pointer (some ⟨x.gc, 0, none⟩), .pointer (some ⟨x.gs, 0, none⟩), .int .i64 p.ep, .slice x.wA p.way.length x.wc, .slice x.bA p.book.length x.bc, .int .i64 p.told, .int .i64 x.t1, .int .i64 x.t2, .slice ((some ⟨x.H, 0, none⟩)) p.heard.length p.heard.length] 54 (0, 0)) := HPB_4.out
      have FP3' : w4.heap[P3]? = some (.cells (mcv v (.slice B nb cb)) 36 (0, 0)) := HP3_4.out
      clear FP FP3
      have FP := FP'
      clear FP'
      have FP3 := FP3'
      clear FP3'
      refine hK.out _ _ ?_ (fun hHeld => ?_)
      · try dsimp only
        (refine ⟨?_, ?_⟩ <;> (first | with_reducible assumption))
      clear hK K
      try simp only [Act.put, List.setIfInBounds_toArray, List.set_cons_zero, List.set_cons_succ]
      refine wpAnyH_ready (rs := [10]) (by kernel_rfl) (by simp) ?_
      refine AllReadyH.cons (by (simp only [List.getElem?_toArray, List.getElem?_cons_succ, List.getElem?_cons_zero]; rfl)) (fun K hK => ?_) AllReadyH.nil
      refine wp_store_row 34 (.tmp 4) (.tmp 13) rfl P4 _ rfl rfl 34 _ HP4_4.out (by kernel_rfl) rfl (by simp [Value.oneCell']) ?_
      obtain ⟨w5, hw3⟩ : ∃ y, y = w4.setRow P4 #[.int .i64 a, .int .i64 b, .int .i64 d] := ⟨_, rfl⟩
      have hch := Ch.ofRow HP4_4.out #[.int .i64 a, .int .i64 b, .int .i64 d]
      rw [← hw3] at hch
      have hnew : w5.heap[P4]? = some (.cells #[.int .i64 a, .int .i64 b, .int .i64 d] 34 (0, 0)) := by rw [hw3]; exact setRow_heap _ _ _ _ _ _ HP4_4.out
      have HPB_5 : Hid (w5.heap[P]? = some (.cells #[.int .i64 id, .pointer (some ⟨x.gc, 0, none⟩), .pointer (some ⟨x.gs, 0, none⟩), .int .i64 p.ep, .slice x.wA p.way.length x.wc, .slice x.bA p.book.length x.bc, .int .i64 p.told, .int .i64 x.t1, .int .i64 x.t2, .slice ((some ⟨x.H, 0, none⟩)) p.heard.length p.heard.length] 54 (0, 0))) := Lib.hid (hch.blk HPB_4.out (by show (54 + 1 : Nat) ≠ _; decide))
      have HS_5 : Hid (SAt w5 x.gs p.ep x.M x.nn f) := Lib.hid (hch.sat HS_4.out (by decide) (by decide))
      have HWAY_5 : Hid (w5.ownsRow (x.H + 1) 36 21 (.slice x.wA p.way.length x.wc) p.way.length (mgs p.way)) := Lib.hid (hch.own HWAY_4.out (by decide))
      have HBOOK_5 : Hid (w5.ownsRow (x.H + 1) 3 1 (.slice x.bA p.book.length x.bc) p.book.length (ints p.book)) := Lib.hid (hch.own HBOOK_4.out (by decide))
      have HHD_5 : Hid (w5.heap[x.H]? = some (.cells (ints p.heard).toArray 3 (0, 0))) := Lib.hid (hch.blk HHD_4.out (by show (3 + 1 : Nat) ≠ _; decide))
      have HB_5 : Hid (Chg (fun k => lo ≤ k) w0 w5) := Lib.hid (hch.low HB_4.out (fun k hk => by injection hk with hk; omega))
      have HP3_5 : Hid (w5.heap[P3]? = some (.cells (mcv v (.slice B nb cb)) 36 (0, 0))) := Lib.hid (hch.blk HP3_4.out (by show (36 + 1 : Nat) ≠ _; decide))
      have HC_5 : Hid (CAt w5 x.gc s' x.cA x.cc) := Lib.hid (hch.cat HC_4.out (by decide) (by decide))
      clear hch HPB_4 HS_4 HWAY_4 HBOOK_4 HHD_4 HB_4 HP3_4 HC_4
      have HP4_5 := Lib.hid hnew
      clear hnew HP4_4
      rw [← hw3]
      clear hw3
      have FP' : w5.heap[P]? = some (.cells #[.int .i64 id, .pointer (some ⟨x.gc, 0, none⟩), .pointer (some ⟨x.gs, 0, none⟩), .int .i64 p.ep, .slice x.wA p.way.length x.wc, .slice x.bA p.book.length x.bc, .int .i64 p.told, .int .i64 x.t1, .int .i64 x.t2, .slice ((some ⟨x.H, 0, none⟩)) p.heard.length p.heard.length] 54 (0, 0)) := HPB_5.out
      have FP3' : w5.heap[P3]? = some (.cells (mcv v (.slice B nb cb)) 36 (0, 0)) := HP3_5.out
      clear FP FP3
      have FP := FP'
      clear FP'
      have FP3 := FP3'
      clear FP3'
      refine hK.out _ _ ?_ (fun hHeld => ?_)
      · try dsimp only
        (refine ⟨?_, ?_⟩ <;> (first | with_reducible assumption))
      clear hK K
      try simp only [Act.put]
      refine wpAnyH_take (i := 11) (v := ?_) (by (simp only [List.getElem?_toArray, List.getElem?_cons_succ, List.getElem?_cons_zero]; rfl)) (by kernel_rfl) (by kernel_rfl) (by kernel_rfl) (fun _ _ _ h => h) (Or.inl ⟨by rfl, ?_⟩) (by assumption) ?_
      rotate_left
      · (intro w hSw; (try dsimp only at hSw); go_simp; try with_reducible rfl)
      try simp only [Act.put, List.setIfInBounds_toArray, List.set_cons_zero, List.set_cons_succ]
      refine wpAnyH_done (by kernel_rfl) ?_ _
      refine NoPanic.normal ?_
      clear hHeld FP FP3
      go_wp2_with fail
      go_meet
      case rel => exact ⟨k, s', a, b, d, P4, rfl, rfl, loP4, HSUM, HPB_5, HS_5, HWAY_5, HBOOK_5, HHD_5, HB_5, HP3_5, HC_5, HP4_5⟩
    · skip
      go_simp
      obtain ⟨P4, hP4⟩ : ∃ x, x = w2.heap.size := ⟨_, rfl⟩
      have loP4 : lo ≤ P4 := (by have := ltb HPB_2.out; omega)
      obtain ⟨w3, hw2⟩ : ∃ y, y = w2.alloc (.cells #[.int .i64 0, .int .i64 0, .int .i64 0] 34) := ⟨_, rfl⟩
      have hal : Below w2.heap.size w2 w3 := by rw [hw2]; exact (Below.refl _ _).alloc (Nat.le_refl _) _
      have hnew : w3.heap[P4]? = some (.cells #[.int .i64 0, .int .i64 0, .int .i64 0] 34 (0, 0)) := by rw [hw2, hP4]; exact heap_alloc_new _ _
      have HPB_3 : Hid (w3.heap[P]? = some (.cells #[.int .i64 id, .pointer (some ⟨x.gc, 0, none⟩), .pointer (some ⟨x.gs, 0, none⟩), .int .i64 p.ep, .slice x.wA p.way.length x.wc, .slice x.bA p.book.length x.bc, .int .i64 p.told, .int .i64 x.t1, .int .i64 x.t2, .slice ((some ⟨x.H, 0, none⟩)) p.heard.length p.heard.length] 54 (0, 0))) := Lib.hid ((hal.block P (ltb HPB_2.out)).trans HPB_2.out)
      have HC_3 : Hid (CAt w3 x.gc p.s x.cA x.cc) := Lib.hid (HC_2.out.below hal)
      have HS_3 : Hid (SAt w3 x.gs p.ep x.M x.nn f) := Lib.hid (HS_2.out.below hal)
      have HWAY_3 : Hid (w3.ownsRow (x.H + 1) 36 21 (.slice x.wA p.way.length x.wc) p.way.length (mgs p.way)) := Lib.hid ((Chg.of_below (S := fun _ => False) hal).own HWAY_2.out (fun _ _ h => h))
      have HBOOK_3 : Hid (w3.ownsRow (x.H + 1) 3 1 (.slice x.bA p.book.length x.bc) p.book.length (ints p.book)) := Lib.hid ((Chg.of_below (S := fun _ => False) hal).own HBOOK_2.out (fun _ _ h => h))
      have HHD_3 : Hid (w3.heap[x.H]? = some (.cells (ints p.heard).toArray 3 (0, 0))) := Lib.hid ((hal.block x.H (ltb HHD_2.out)).trans HHD_2.out)
      have HB_3 : Hid (Chg (fun k => lo ≤ k) w0 w3) := Lib.hid (HB_2.out.trans (Chg.of_below hal))
      have HP3_3 : Hid (w3.heap[P3]? = some (.cells (mcv v (.slice B nb cb)) 36 (0, 0))) := Lib.hid ((hal.block P3 (ltb HP3_2.out)).trans HP3_2.out)
      clear hal HPB_2 HC_2 HS_2 HWAY_2 HBOOK_2 HHD_2 HB_2 HP3_2
      have HP4_3 := Lib.hid hnew
      clear hnew
      rw [← hw2]
      clear hw2
      rw [← hP4]
      clear hP4
      have FP' : w3.heap[P]? = some (.cells #[.int .i64 id, .pointer (some ⟨x.gc, 0, none⟩), .pointer (some ⟨x.gs, 0, none⟩), .int .i64 p.ep, .slice x.wA p.way.length x.wc, .slice x.bA p.book.length x.bc, .int .i64 p.told, .int .i64 x.t1, .int .i64 x.t2, .slice ((some ⟨x.H, 0, none⟩)) p.heard.length p.heard.length] 54 (0, 0)) := HPB_3.out
      have FP3' : w3.heap[P3]? = some (.cells (mcv v (.slice B nb cb)) 36 (0, 0)) := HP3_3.out
      clear FP FP3
      have FP := FP'
      clear FP'
      have FP3 := FP3'
      clear FP3'
      refine hK.out _ _ ?_ (fun hHeld => ?_)
      · try dsimp only
        (refine ⟨?_, ?_⟩ <;> (first | with_reducible assumption))
      clear hK K
      try simp only [Act.put, List.setIfInBounds_toArray, List.set_cons_zero, List.set_cons_succ]
      refine wpAnyH_ready (rs := [5]) (by kernel_rfl) (by simp) ?_
      refine AllReadyH.cons (by (simp only [List.getElem?_toArray, List.getElem?_cons_succ, List.getElem?_cons_zero]; rfl)) (fun K hK => ?_) AllReadyH.nil
      go_simp
      refine (hear_any x.gc p.s x.cA x.cc v B nb cb w3 HC_3.out).mono ?_
      rintro e w4 ⟨k, s', a, b, d, rfl, hsum, hc, hg⟩
      have hch := Ch.ofChg HC_3.out.blk hg
      have HSUM := Lib.hid hsum
      clear hsum hg
      clear HC_3
      have HPB_4 : Hid (w4.heap[P]? = some (.cells #[.int .i64 id, .pointer (some ⟨x.gc, 0, none⟩), .pointer (some ⟨x.gs, 0, none⟩), .int .i64 p.ep, .slice x.wA p.way.length x.wc, .slice x.bA p.book.length x.bc, .int .i64 p.told, .int .i64 x.t1, .int .i64 x.t2, .slice ((some ⟨x.H, 0, none⟩)) p.heard.length p.heard.length] 54 (0, 0))) := Lib.hid (hch.blk HPB_3.out (by show (54 + 1 : Nat) ≠ _; decide))
      have HS_4 : Hid (SAt w4 x.gs p.ep x.M x.nn f) := Lib.hid (hch.sat HS_3.out (by decide) (by decide))
      have HWAY_4 : Hid (w4.ownsRow (x.H + 1) 36 21 (.slice x.wA p.way.length x.wc) p.way.length (mgs p.way)) := Lib.hid (hch.own HWAY_3.out (by decide))
      have HBOOK_4 : Hid (w4.ownsRow (x.H + 1) 3 1 (.slice x.bA p.book.length x.bc) p.book.length (ints p.book)) := Lib.hid (hch.own HBOOK_3.out (by decide))
      have HHD_4 : Hid (w4.heap[x.H]? = some (.cells (ints p.heard).toArray 3 (0, 0))) := Lib.hid (hch.blk HHD_3.out (by show (3 + 1 : Nat) ≠ _; decide))
      have HB_4 : Hid (Chg (fun k => lo ≤ k) w0 w4) := Lib.hid (hch.low HB_3.out (fun k hk => by injection hk with hk; omega))
      have HP3_4 : Hid (w4.heap[P3]? = some (.cells (mcv v (.slice B nb cb)) 36 (0, 0))) := Lib.hid (hch.blk HP3_3.out (by show (36 + 1 : Nat) ≠ _; decide))
      have HP4_4 : Hid (w4.heap[P4]? = some (.cells #[.int .i64 0, .int .i64 0, .int .i64 0] 34 (0, 0))) := Lib.hid (hch.blk HP4_3.out (by show (34 + 1 : Nat) ≠ _; decide))
      clear hch HPB_3 HS_3 HWAY_3 HBOOK_3 HHD_3 HB_3 HP3_3 HP4_3
      have HC_4 : Hid (CAt w4 x.gc s' x.cA x.cc) := Lib.hid hc
      clear hc
      have FP' : w4.heap[P]? = some (.cells #[.int .i64 id, .pointer (some ⟨x.gc, 0, none⟩), .pointer (some ⟨x.gs, 0, none⟩), .int .i64 p.ep, .slice x.wA p.way.length x.wc, .slice x.bA p.book.length x.bc, .int .i64 p.told, .int .i64 x.t1, .int .i64 x.t2, .slice ((some ⟨x.H, 0, none⟩)) p.heard.length p.heard.length] 54 (0, 0)) := HPB_4.out
      have FP3' : w4.heap[P3]? = some (.cells (mcv v (.slice B nb cb)) 36 (0, 0)) := HP3_4.out
      clear FP FP3
      have FP := FP'
      clear FP'
      have FP3 := FP3'
      clear FP3'
      refine hK.out _ _ ?_ (fun hHeld => ?_)
      · try dsimp only
        (refine ⟨?_, ?_⟩ <;> (first | with_reducible assumption))
      clear hK K
      try simp only [Act.put, List.setIfInBounds_toArray, List.set_cons_zero, List.set_cons_succ]
      refine wpAnyH_take (i := 6) (v := ?_) (by (simp only [List.getElem?_toArray, List.getElem?_cons_succ, List.getElem?_cons_zero]; rfl)) (by kernel_rfl) (by kernel_rfl) (by kernel_rfl) (fun _ _ _ h => h) (Or.inl ⟨by rfl, ?_⟩) (by assumption) ?_
      rotate_left
      · (intro w hSw; (try dsimp only at hSw); go_simp; try with_reducible rfl)
      try simp only [Act.put, List.setIfInBounds_toArray, List.set_cons_zero, List.set_cons_succ]
      refine wpAnyH_take (i := 7) (v := ?_) (by (simp only [List.getElem?_toArray, List.getElem?_cons_succ, List.getElem?_cons_zero]; rfl)) (by kernel_rfl) (by kernel_rfl) (by kernel_rfl) (fun _ _ _ h => h) (Or.inl ⟨by rfl, ?_⟩) (by assumption) ?_
      rotate_left
      · (intro w hSw; (try dsimp only at hSw); go_simp; try with_reducible rfl)
      try simp only [Act.put, List.setIfInBounds_toArray, List.set_cons_zero, List.set_cons_succ]
      refine wpAnyH_take (i := 8) (v := ?_) (by (simp only [List.getElem?_toArray, List.getElem?_cons_succ, List.getElem?_cons_zero]; rfl)) (by kernel_rfl) (by kernel_rfl) (by kernel_rfl) (fun _ _ _ h => h) (Or.inl ⟨by rfl, ?_⟩) (by assumption) ?_
      rotate_left
      · (intro w hSw; (try dsimp only at hSw); go_simp; try with_reducible rfl)
      try simp only [Act.put, List.setIfInBounds_toArray, List.set_cons_zero, List.set_cons_succ]
      refine wpAnyH_ready (rs := [10]) (by kernel_rfl) (by simp) ?_
      refine AllReadyH.cons (by (simp only [List.getElem?_toArray, List.getElem?_cons_succ, List.getElem?_cons_zero]; rfl)) (fun K hK => ?_) AllReadyH.nil
      refine wp_store_row 34 (.tmp 4) (.tmp 13) rfl P4 _ rfl rfl 34 _ HP4_4.out (by kernel_rfl) rfl (by simp [Value.oneCell']) ?_
      obtain ⟨w5, hw4⟩ : ∃ y, y = w4.setRow P4 #[.int .i64 a, .int .i64 b, .int .i64 d] := ⟨_, rfl⟩
      have hch := Ch.ofRow HP4_4.out #[.int .i64 a, .int .i64 b, .int .i64 d]
      rw [← hw4] at hch
      have hnew : w5.heap[P4]? = some (.cells #[.int .i64 a, .int .i64 b, .int .i64 d] 34 (0, 0)) := by rw [hw4]; exact setRow_heap _ _ _ _ _ _ HP4_4.out
      have HPB_5 : Hid (w5.heap[P]? = some (.cells #[.int .i64 id, .pointer (some ⟨x.gc, 0, none⟩), .pointer (some ⟨x.gs, 0, none⟩), .int .i64 p.ep, .slice x.wA p.way.length x.wc, .slice x.bA p.book.length x.bc, .int .i64 p.told, .int .i64 x.t1, .int .i64 x.t2, .slice ((some ⟨x.H, 0, none⟩)) p.heard.length p.heard.length] 54 (0, 0))) := Lib.hid (hch.blk HPB_4.out (by show (54 + 1 : Nat) ≠ _; decide))
      have HS_5 : Hid (SAt w5 x.gs p.ep x.M x.nn f) := Lib.hid (hch.sat HS_4.out (by decide) (by decide))
      have HWAY_5 : Hid (w5.ownsRow (x.H + 1) 36 21 (.slice x.wA p.way.length x.wc) p.way.length (mgs p.way)) := Lib.hid (hch.own HWAY_4.out (by decide))
      have HBOOK_5 : Hid (w5.ownsRow (x.H + 1) 3 1 (.slice x.bA p.book.length x.bc) p.book.length (ints p.book)) := Lib.hid (hch.own HBOOK_4.out (by decide))
      have HHD_5 : Hid (w5.heap[x.H]? = some (.cells (ints p.heard).toArray 3 (0, 0))) := Lib.hid (hch.blk HHD_4.out (by show (3 + 1 : Nat) ≠ _; decide))
      have HB_5 : Hid (Chg (fun k => lo ≤ k) w0 w5) := Lib.hid (hch.low HB_4.out (fun k hk => by injection hk with hk; omega))
      have HP3_5 : Hid (w5.heap[P3]? = some (.cells (mcv v (.slice B nb cb)) 36 (0, 0))) := Lib.hid (hch.blk HP3_4.out (by show (36 + 1 : Nat) ≠ _; decide))
      have HC_5 : Hid (CAt w5 x.gc s' x.cA x.cc) := Lib.hid (hch.cat HC_4.out (by decide) (by decide))
      clear hch HPB_4 HS_4 HWAY_4 HBOOK_4 HHD_4 HB_4 HP3_4 HC_4
      have HP4_5 := Lib.hid hnew
      clear hnew HP4_4
      rw [← hw4]
      clear hw4
      have FP' : w5.heap[P]? = some (.cells #[.int .i64 id, .pointer (some ⟨x.gc, 0, none⟩), .pointer (some ⟨x.gs, 0, none⟩), .int .i64 p.ep, .slice x.wA p.way.length x.wc, .slice x.bA p.book.length x.bc, .int .i64 p.told, .int .i64 x.t1, .int .i64 x.t2, .slice ((some ⟨x.H, 0, none⟩)) p.heard.length p.heard.length] 54 (0, 0)) := HPB_5.out
      have FP3' : w5.heap[P3]? = some (.cells (mcv v (.slice B nb cb)) 36 (0, 0)) := HP3_5.out
      clear FP FP3
      have FP := FP'
      clear FP'
      have FP3 := FP3'
      clear FP3'
      refine hK.out _ _ ?_ (fun hHeld => ?_)
      · try dsimp only
        (refine ⟨?_, ?_⟩ <;> (first | with_reducible assumption))
      clear hK K
      try simp only [Act.put]
      refine wpAnyH_take (i := 11) (v := ?_) (by (simp only [List.getElem?_toArray, List.getElem?_cons_succ, List.getElem?_cons_zero]; rfl)) (by kernel_rfl) (by kernel_rfl) (by kernel_rfl) (fun _ _ _ h => h) (Or.inl ⟨by rfl, ?_⟩) (by assumption) ?_
      rotate_left
      · (intro w hSw; (try dsimp only at hSw); go_simp; try with_reducible rfl)
      try simp only [Act.put, List.setIfInBounds_toArray, List.set_cons_zero, List.set_cons_succ]
      refine wpAnyH_done (by kernel_rfl) ?_ _
      refine NoPanic.normal ?_
      clear hHeld FP FP3
      go_wp2_with fail
      go_meet
      case rel => exact ⟨k, s', a, b, d, P4, rfl, rfl, loP4, HSUM, HPB_5, HS_5, HWAY_5, HBOOK_5, HHD_5, HB_5, HP3_5, HC_5, HP4_5⟩
  case rest =>
  obtain ⟨w5, rfl⟩ : ∃ y : World, y = wc := ⟨_, rfl⟩
  obtain ⟨k, s', a, b, d, P4, rfl, rfl, loP4, HSUM, HPB_5, HS_5, HWAY_5, HBOOK_5, HHD_5, HB_5, HP3_5, HC_5, HP4_5⟩ := hcut
  cases k
  · skip
    go_upto_region 2 with (fail)
    have HPB_6 : Hid (w5.drew.heap[P]? = some (.cells #[.int .i64 id, .pointer (some ⟨x.gc, 0, none⟩), .pointer (some ⟨x.gs, 0, none⟩), .int .i64 p.ep, .slice x.wA p.way.length x.wc, .slice x.bA p.book.length x.bc, .int .i64 p.told, .int .i64 x.t1, .int .i64 x.t2, .slice ((some ⟨x.H, 0, none⟩)) p.heard.length p.heard.length] 54 (0, 0))) := Lib.hid ((((Below.refl w5.heap.size w5).drew).block P (ltb HPB_5.out)).trans HPB_5.out)
    have HS_6 : Hid (SAt w5.drew x.gs p.ep x.M x.nn f) := Lib.hid (HS_5.out.below ((Below.refl w5.heap.size w5).drew))
    have HWAY_6 : Hid (w5.drew.ownsRow (x.H + 1) 36 21 (.slice x.wA p.way.length x.wc) p.way.length (mgs p.way)) := Lib.hid ((Chg.of_below (S := fun _ => False) ((Below.refl w5.heap.size w5).drew)).own HWAY_5.out (fun _ _ h => h))
    have HBOOK_6 : Hid (w5.drew.ownsRow (x.H + 1) 3 1 (.slice x.bA p.book.length x.bc) p.book.length (ints p.book)) := Lib.hid ((Chg.of_below (S := fun _ => False) ((Below.refl w5.heap.size w5).drew)).own HBOOK_5.out (fun _ _ h => h))
    have HHD_6 : Hid (w5.drew.heap[x.H]? = some (.cells (ints p.heard).toArray 3 (0, 0))) := Lib.hid ((((Below.refl w5.heap.size w5).drew).block x.H (ltb HHD_5.out)).trans HHD_5.out)
    have HB_6 : Hid (Chg (fun k => lo ≤ k) w0 w5.drew) := Lib.hid (HB_5.out.trans (Chg.of_below ((Below.refl w5.heap.size w5).drew)))
    have HP3_6 : Hid (w5.drew.heap[P3]? = some (.cells (mcv v (.slice B nb cb)) 36 (0, 0))) := Lib.hid ((((Below.refl w5.heap.size w5).drew).block P3 (ltb HP3_5.out)).trans HP3_5.out)
    have HC_6 : Hid (CAt w5.drew x.gc s' x.cA x.cc) := Lib.hid (HC_5.out.below ((Below.refl w5.heap.size w5).drew))
    have HP4_6 : Hid (w5.drew.heap[P4]? = some (.cells #[.int .i64 a, .int .i64 b, .int .i64 d] 34 (0, 0))) := Lib.hid ((((Below.refl w5.heap.size w5).drew).block P4 (ltb HP4_5.out)).trans HP4_5.out)
    clear HPB_5 HS_5 HWAY_5 HBOOK_5 HHD_5 HB_5 HP3_5 HC_5 HP4_5
    refine wp_region_noPanic ?_
    refine wp_region_held_drew (S := fun w' => True) (by kernel_rfl) ?_ (fun hHeld => ?_)
    · trivial
    generalize w5.drew = w6 at *
    refine wpAnyH_take (i := 0) (v := ?_) (by (simp only [List.getElem?_toArray, List.getElem?_cons_zero]; rfl)) (by kernel_rfl) (by kernel_rfl) (by kernel_rfl) (fun _ _ _ h => h) (Or.inl ⟨by rfl, ?_⟩) (by assumption) ?_
    rotate_left
    · (intro w hSw; (try dsimp only at hSw); go_simp; try with_reducible rfl)
    try simp only [Act.put, List.setIfInBounds_toArray, List.set_cons_zero, List.set_cons_succ]
    refine wpAnyH_take (i := 1) (v := ?_) (by (simp only [List.getElem?_toArray, List.getElem?_cons_succ, List.getElem?_cons_zero]; rfl)) (by kernel_rfl) (by kernel_rfl) (by kernel_rfl) (fun _ _ _ h => h) (Or.inl ⟨by rfl, ?_⟩) (by assumption) ?_
    rotate_left
    · (intro w hSw; (try dsimp only at hSw); go_simp; try with_reducible rfl)
    try simp only [Act.put, List.setIfInBounds_toArray, List.set_cons_zero, List.set_cons_succ]
    refine wpAnyH_take (i := 2) (v := ?_) (by (simp only [List.getElem?_toArray, List.getElem?_cons_succ, List.getElem?_cons_zero]; rfl)) (by kernel_rfl) (by kernel_rfl) (by kernel_rfl) (fun _ _ _ h => h) (Or.inl ⟨by rfl, ?_⟩) (by assumption) ?_
    rotate_left
    · (intro w hSw; (try dsimp only at hSw); go_simp; try with_reducible rfl)
    try simp only [Act.put, List.setIfInBounds_toArray, List.set_cons_zero, List.set_cons_succ]
    refine wpAnyH_take (i := 3) (v := undef) (by (simp only [List.getElem?_toArray, List.getElem?_cons_succ, List.getElem?_cons_zero]; rfl)) (by kernel_rfl) (by kernel_rfl) (by kernel_rfl) (fun _ _ _ h => h) (Or.inr ⟨by rfl, rfl⟩) (by assumption) ?_
    try simp only [Act.put, List.setIfInBounds_toArray, List.set_cons_zero, List.set_cons_succ]
    refine wpAnyH_take (i := 4) (v := undef) (by (simp only [List.getElem?_toArray, List.getElem?_cons_succ, List.getElem?_cons_zero]; rfl)) (by kernel_rfl) (by kernel_rfl) (by kernel_rfl) (fun _ _ _ h => h) (Or.inr ⟨by rfl, rfl⟩) (by assumption) ?_
    try simp only [Act.put, List.setIfInBounds_toArray, List.set_cons_zero, List.set_cons_succ]
    refine wpAnyH_take (i := 5) (v := undef) (by (simp only [List.getElem?_toArray, List.getElem?_cons_succ, List.getElem?_cons_zero]; rfl)) (by kernel_rfl) (by kernel_rfl) (by kernel_rfl) (fun _ _ _ h => h) (Or.inr ⟨by rfl, rfl⟩) (by assumption) ?_
    try simp only [Act.put, List.setIfInBounds_toArray, List.set_cons_zero, List.set_cons_succ]
    refine wpAnyH_take (i := 6) (v := undef) (by (simp only [List.getElem?_toArray, List.getElem?_cons_succ, List.getElem?_cons_zero]; rfl)) (by kernel_rfl) (by kernel_rfl) (by kernel_rfl) (fun _ _ _ h => h) (Or.inr ⟨by rfl, rfl⟩) (by assumption) ?_
    try simp only [Act.put, List.setIfInBounds_toArray, List.set_cons_zero, List.set_cons_succ]
    refine wpAnyH_take (i := 7) (v := undef) (by (simp only [List.getElem?_toArray, List.getElem?_cons_succ, List.getElem?_cons_zero]; rfl)) (by kernel_rfl) (by kernel_rfl) (by kernel_rfl) (fun _ _ _ h => h) (Or.inr ⟨by rfl, rfl⟩) (by assumption) ?_
    try simp only [Act.put, List.setIfInBounds_toArray, List.set_cons_zero, List.set_cons_succ]
    refine wpAnyH_take (i := 8) (v := undef) (by (simp only [List.getElem?_toArray, List.getElem?_cons_succ, List.getElem?_cons_zero]; rfl)) (by kernel_rfl) (by kernel_rfl) (by kernel_rfl) (fun _ _ _ h => h) (Or.inr ⟨by rfl, rfl⟩) (by assumption) ?_
    try simp only [Act.put, List.setIfInBounds_toArray, List.set_cons_zero, List.set_cons_succ]
    refine wpAnyH_take (i := 9) (v := undef) (by (simp only [List.getElem?_toArray, List.getElem?_cons_succ, List.getElem?_cons_zero]; rfl)) (by kernel_rfl) (by kernel_rfl) (by kernel_rfl) (fun _ _ _ h => h) (Or.inr ⟨by rfl, rfl⟩) (by assumption) ?_
    try simp only [Act.put, List.setIfInBounds_toArray, List.set_cons_zero, List.set_cons_succ]
    refine wpAnyH_take (i := 10) (v := undef) (by (simp only [List.getElem?_toArray, List.getElem?_cons_succ, List.getElem?_cons_zero]; rfl)) (by kernel_rfl) (by kernel_rfl) (by kernel_rfl) (fun _ _ _ h => h) (Or.inr ⟨by rfl, rfl⟩) (by assumption) ?_
    try simp only [Act.put, List.setIfInBounds_toArray, List.set_cons_zero, List.set_cons_succ]
    refine wpAnyH_take (i := 11) (v := ?_) (by (simp only [List.getElem?_toArray, List.getElem?_cons_succ, List.getElem?_cons_zero]; rfl)) (by kernel_rfl) (by kernel_rfl) (by kernel_rfl) (fun _ _ _ h => h) (Or.inl ⟨by rfl, ?_⟩) (by assumption) ?_
    rotate_left
    · (intro w hSw; (try dsimp only at hSw); go_simp; try with_reducible rfl)
    try simp only [Act.put, List.setIfInBounds_toArray, List.set_cons_zero, List.set_cons_succ]
    refine wpAnyH_done (by kernel_rfl) ?_ _
    refine NoPanic.normal ?_
    clear hHeld 
    go_wp2_with fail
    first | go_end0 | ((try simp only [Exit.inBlock, Exit.then]); refine bodyPost_ret (results_none rfl _ _ _) rfl ?_)
    have hsb : s'.at_ = p.s.at_ ∧ s'.body = p.s.body := by rcases HSUM.out.2 rfl with e | ⟨e, _⟩ <;> rw [e] <;> exact ⟨rfl, rfl⟩
    refine ⟨rfl, x, { p with s := s', heard := p.heard }, ⟨HPB_6.out, HC_6.out, HS_6.out, HWAY_6.out, HBOOK_6.out, HHD_6.out, HKF.out, l1, l2, l3, l4⟩, rfl, rfl, ⟨rfl, rfl, rfl, hsb.1, hsb.2⟩, HB_6.out, fun hr hi => ?_⟩
    rcases HSUM.out.2 rfl with e | ⟨e, e1, e2⟩
    · rw [e]; exact hi
    · rw [e]; exact hi.rise (v 1) e1 (hr e2).2.2.2
  · skip
    by_cases hfar : (p.heard.length : Int) ≤ v 16
    · skip
      have q1 := Lib.hid hfar
      go_upto_region 2 with (fail)
      have HPB_6 : Hid (w5.drew.heap[P]? = some (.cells #[.int .i64 id, .pointer (some ⟨x.gc, 0, none⟩), .pointer (some ⟨x.gs, 0, none⟩), .int .i64 p.ep, .slice x.wA p.way.length x.wc, .slice x.bA p.book.length x.bc, .int .i64 p.told, .int .i64 x.t1, .int .i64 x.t2, .slice ((some ⟨x.H, 0, none⟩)) p.heard.length p.heard.length] 54 (0, 0))) := Lib.hid ((((Below.refl w5.heap.size w5).drew).block P (ltb HPB_5.out)).trans HPB_5.out)
      have HS_6 : Hid (SAt w5.drew x.gs p.ep x.M x.nn f) := Lib.hid (HS_5.out.below ((Below.refl w5.heap.size w5).drew))
      have HWAY_6 : Hid (w5.drew.ownsRow (x.H + 1) 36 21 (.slice x.wA p.way.length x.wc) p.way.length (mgs p.way)) := Lib.hid ((Chg.of_below (S := fun _ => False) ((Below.refl w5.heap.size w5).drew)).own HWAY_5.out (fun _ _ h => h))
      have HBOOK_6 : Hid (w5.drew.ownsRow (x.H + 1) 3 1 (.slice x.bA p.book.length x.bc) p.book.length (ints p.book)) := Lib.hid ((Chg.of_below (S := fun _ => False) ((Below.refl w5.heap.size w5).drew)).own HBOOK_5.out (fun _ _ h => h))
      have HHD_6 : Hid (w5.drew.heap[x.H]? = some (.cells (ints p.heard).toArray 3 (0, 0))) := Lib.hid ((((Below.refl w5.heap.size w5).drew).block x.H (ltb HHD_5.out)).trans HHD_5.out)
      have HB_6 : Hid (Chg (fun k => lo ≤ k) w0 w5.drew) := Lib.hid (HB_5.out.trans (Chg.of_below ((Below.refl w5.heap.size w5).drew)))
      have HP3_6 : Hid (w5.drew.heap[P3]? = some (.cells (mcv v (.slice B nb cb)) 36 (0, 0))) := Lib.hid ((((Below.refl w5.heap.size w5).drew).block P3 (ltb HP3_5.out)).trans HP3_5.out)
      have HC_6 : Hid (CAt w5.drew x.gc s' x.cA x.cc) := Lib.hid (HC_5.out.below ((Below.refl w5.heap.size w5).drew))
      have HP4_6 : Hid (w5.drew.heap[P4]? = some (.cells #[.int .i64 a, .int .i64 b, .int .i64 d] 34 (0, 0))) := Lib.hid ((((Below.refl w5.heap.size w5).drew).block P4 (ltb HP4_5.out)).trans HP4_5.out)
      clear HPB_5 HS_5 HWAY_5 HBOOK_5 HHD_5 HB_5 HP3_5 HC_5 HP4_5
      have FP3 : w5.drew.heap[P3]? = some (.cells (mcv v (.slice B nb cb)) 36 (0, 0)) := HP3_6.out
      have FP : w5.drew.heap[P]? = some (.cells #[.int .i64 id, .pointer (some ⟨x.gc, 0, none⟩), .pointer (some ⟨x.gs, 0, none⟩), .int .i64 p.ep, .slice x.wA p.way.length x.wc, .slice x.bA p.book.length x.bc, .int .i64 p.told, .int .i64 x.t1, .int .i64 x.t2, .slice ((some ⟨x.H, 0, none⟩)) p.heard.length p.heard.length] 54 (0, 0)) := HPB_6.out
      refine wp_region_noPanic ?_
      refine wp_region_held_drew (S := fun w' => w'.heap[P3]? = some (.cells (mcv v (.slice B nb cb)) 36 (0, 0)) ∧ w'.heap[P]? = some (.cells #[.int .i64 id, .pointer (some ⟨x.gc, 0, none⟩), .pointer (some ⟨x.gs, 0, none⟩), .int .i64 p.ep, .slice x.wA p.way.length x.wc, .slice x.bA p.book.length x.bc, .int .i64 p.told, .int .i64 x.t1, .int .i64 x.t2, .slice ((some ⟨x.H, 0, none⟩)) p.heard.length p.heard.length] 54 (0, 0))) (by kernel_rfl) ?_ (fun hHeld => ?_)
      · try dsimp only
        (refine ⟨?_, ?_⟩ <;> (first | with_reducible assumption))
      generalize w5.drew = w6 at *
      refine wpAnyH_take (i := 0) (v := ?_) (by (simp only [List.getElem?_toArray, List.getElem?_cons_zero]; rfl)) (by kernel_rfl) (by kernel_rfl) (by kernel_rfl) (fun _ _ _ h => h) (Or.inl ⟨by rfl, ?_⟩) (by assumption) ?_
      rotate_left
      · (intro w hSw; (try dsimp only at hSw); go_simp; try with_reducible rfl)
      try simp only [Act.put, List.setIfInBounds_toArray, List.set_cons_zero, List.set_cons_succ]
      refine wpAnyH_take (i := 1) (v := ?_) (by (simp only [List.getElem?_toArray, List.getElem?_cons_succ, List.getElem?_cons_zero]; rfl)) (by kernel_rfl) (by kernel_rfl) (by kernel_rfl) (fun _ _ _ h => h) (Or.inl ⟨by rfl, ?_⟩) (by assumption) ?_
      rotate_left
      · (intro w hSw; (try dsimp only at hSw); go_simp; try with_reducible rfl)
      try simp only [Act.put, List.setIfInBounds_toArray, List.set_cons_zero, List.set_cons_succ]
      refine wpAnyH_take (i := 2) (v := ?_) (by (simp only [List.getElem?_toArray, List.getElem?_cons_succ, List.getElem?_cons_zero]; rfl)) (by kernel_rfl) (by kernel_rfl) (by kernel_rfl) (fun _ _ _ h => h) (Or.inl ⟨by rfl, ?_⟩) (by assumption) ?_
      rotate_left
      · (intro w hSw; (try dsimp only at hSw); go_simp; try with_reducible rfl)
      try simp only [Act.put, List.setIfInBounds_toArray, List.set_cons_zero, List.set_cons_succ]
      refine wpAnyH_take (i := 3) (v := ?_) (by (simp only [List.getElem?_toArray, List.getElem?_cons_succ, List.getElem?_cons_zero]; rfl)) (by kernel_rfl) (by kernel_rfl) (by kernel_rfl) (fun _ _ _ h => h) (Or.inl ⟨by rfl, ?_⟩) (by assumption) ?_
      rotate_left
      · (intro w hSw; (try dsimp only at hSw); go_simp; try with_reducible rfl)
      try simp only [Act.put, List.setIfInBounds_toArray, List.set_cons_zero, List.set_cons_succ]
      refine wpAnyH_take (i := 4) (v := ?_) (by (simp only [List.getElem?_toArray, List.getElem?_cons_succ, List.getElem?_cons_zero]; rfl)) (by kernel_rfl) (by kernel_rfl) (by kernel_rfl) (fun _ _ _ h => h) (Or.inl ⟨by rfl, ?_⟩) (by assumption) ?_
      rotate_left
      · intro w hSw
        try dsimp only at hSw
        have x0 : w.cell? ⟨P3, 16, none⟩ = some (.int .i64 (v 16)) := (cellb (i := 16) hSw.1 rfl)
        go_simp; try with_reducible rfl
      try simp only [Act.put, List.setIfInBounds_toArray, List.set_cons_zero, List.set_cons_succ]
      refine wpAnyH_take (i := 5) (v := ?_) (by (simp only [List.getElem?_toArray, List.getElem?_cons_succ, List.getElem?_cons_zero]; rfl)) (by kernel_rfl) (by kernel_rfl) (by kernel_rfl) (fun _ _ _ h => h) (Or.inl ⟨by rfl, ?_⟩) (by assumption) ?_
      rotate_left
      · (intro w hSw; (try dsimp only at hSw); go_simp; try with_reducible rfl)
      try simp only [Act.put, List.setIfInBounds_toArray, List.set_cons_zero, List.set_cons_succ]
      refine wpAnyH_take (i := 6) (v := ?_) (by (simp only [List.getElem?_toArray, List.getElem?_cons_succ, List.getElem?_cons_zero]; rfl)) (by kernel_rfl) (by kernel_rfl) (by kernel_rfl) (fun _ _ _ h => h) (Or.inl ⟨by rfl, ?_⟩) (by assumption) ?_
      rotate_left
      · (intro w hSw; (try dsimp only at hSw); go_simp; try with_reducible rfl)
      try simp only [Act.put, List.setIfInBounds_toArray, List.set_cons_zero, List.set_cons_succ]
      refine wpAnyH_take (i := 7) (v := ?_) (by (simp only [List.getElem?_toArray, List.getElem?_cons_succ, List.getElem?_cons_zero]; rfl)) (by kernel_rfl) (by kernel_rfl) (by kernel_rfl) (fun _ _ _ h => h) (Or.inl ⟨by rfl, ?_⟩) (by assumption) ?_
      rotate_left
      · (intro w hSw; (try dsimp only at hSw); go_simp; try with_reducible rfl)
      try simp only [Act.put, List.setIfInBounds_toArray, List.set_cons_zero, List.set_cons_succ]
      refine wpAnyH_take (i := 8) (v := ?_) (by (simp only [List.getElem?_toArray, List.getElem?_cons_succ, List.getElem?_cons_zero]; rfl)) (by kernel_rfl) (by kernel_rfl) (by kernel_rfl) (fun _ _ _ h => h) (Or.inl ⟨by rfl, ?_⟩) (by assumption) ?_
      rotate_left
      · intro w hSw
        try dsimp only at hSw
        have x0 : w.cell? ⟨P, 9, none⟩ = some (.slice ((some ⟨x.H, 0, none⟩)) p.heard.length p.heard.length) := (cellb (i := 9) hSw.2 rfl)
        go_simp; try with_reducible rfl
      try simp only [Act.put, List.setIfInBounds_toArray, List.set_cons_zero, List.set_cons_succ]
      refine wpAnyH_take (i := 9) (v := ?_) (by (simp only [List.getElem?_toArray, List.getElem?_cons_succ, List.getElem?_cons_zero]; rfl)) (by kernel_rfl) (by kernel_rfl) (by kernel_rfl) (fun _ _ _ h => h) (Or.inl ⟨by rfl, ?_⟩) (by assumption) ?_
      rotate_left
      · (intro w hSw; (try dsimp only at hSw); go_simp; try with_reducible rfl)
      try simp only [Act.put, List.setIfInBounds_toArray, List.set_cons_zero, List.set_cons_succ]
      refine wpAnyH_take (i := 10) (v := ?_) (by (simp only [List.getElem?_toArray, List.getElem?_cons_succ, List.getElem?_cons_zero]; rfl)) (by kernel_rfl) (by kernel_rfl) (by kernel_rfl) (fun _ _ _ h => h) (Or.inl ⟨by rfl, ?_⟩) (by assumption) ?_
      rotate_left
      · (intro w hSw; (try dsimp only at hSw); go_simp; try with_reducible rfl)
      try simp only [Act.put, List.setIfInBounds_toArray, List.set_cons_zero, List.set_cons_succ]
      refine wpAnyH_take (i := 11) (v := ?_) (by (simp only [List.getElem?_toArray, List.getElem?_cons_succ, List.getElem?_cons_zero]; rfl)) (by kernel_rfl) (by kernel_rfl) (by kernel_rfl) (fun _ _ _ h => h) (Or.inl ⟨by rfl, ?_⟩) (by assumption) ?_
      rotate_left
      · (intro w hSw; (try dsimp only at hSw); go_simp; try with_reducible rfl)
      try simp only [Act.put, List.setIfInBounds_toArray, List.set_cons_zero, List.set_cons_succ]
      refine wpAnyH_done (by kernel_rfl) ?_ _
      refine NoPanic.normal ?_
      clear hHeld FP3 FP
      go_wp2_with fail
      first | go_end0 | ((try simp only [Exit.inBlock, Exit.then]); refine bodyPost_ret (results_none rfl _ _ _) rfl ?_)
      have hsb : s'.at_ = p.s.at_ ∧ s'.body = p.s.body := by rw [(HSUM.out.1 rfl).2.2.2.2.2.2.1]; exact ⟨rfl, rfl⟩
      refine ⟨rfl, x, { p with s := s', heard := p.heard }, ⟨HPB_6.out, HC_6.out, HS_6.out, HWAY_6.out, HBOOK_6.out, HHD_6.out, HKF.out, l1, l2, l3, l4⟩, rfl, rfl, ⟨rfl, rfl, rfl, hsb.1, hsb.2⟩, HB_6.out, fun hr hi => ?_⟩
      obtain ⟨e1, e2, e3, e4, e5, e6, e7, e8⟩ := HSUM.out.1 rfl
      rw [e7]
      exact hi.over ⟨v, B, nb, cb⟩ hr e2 e3 e4 e5 p.heard (fun q => .inl rfl)
    · skip
      have q0 : (0 : Int) ≤ v 16 := by have := (HSUM.out.1 rfl).2.2.2.2.2.2.2; omega
      have q2 : v 16 < (p.heard.length : Int) := by omega
      go_upto_region 2 with (fail)
      have HPB_6 : Hid (w5.drew.heap[P]? = some (.cells #[.int .i64 id, .pointer (some ⟨x.gc, 0, none⟩), .pointer (some ⟨x.gs, 0, none⟩), .int .i64 p.ep, .slice x.wA p.way.length x.wc, .slice x.bA p.book.length x.bc, .int .i64 p.told, .int .i64 x.t1, .int .i64 x.t2, .slice ((some ⟨x.H, 0, none⟩)) p.heard.length p.heard.length] 54 (0, 0))) := Lib.hid ((((Below.refl w5.heap.size w5).drew).block P (ltb HPB_5.out)).trans HPB_5.out)
      have HS_6 : Hid (SAt w5.drew x.gs p.ep x.M x.nn f) := Lib.hid (HS_5.out.below ((Below.refl w5.heap.size w5).drew))
      have HWAY_6 : Hid (w5.drew.ownsRow (x.H + 1) 36 21 (.slice x.wA p.way.length x.wc) p.way.length (mgs p.way)) := Lib.hid ((Chg.of_below (S := fun _ => False) ((Below.refl w5.heap.size w5).drew)).own HWAY_5.out (fun _ _ h => h))
      have HBOOK_6 : Hid (w5.drew.ownsRow (x.H + 1) 3 1 (.slice x.bA p.book.length x.bc) p.book.length (ints p.book)) := Lib.hid ((Chg.of_below (S := fun _ => False) ((Below.refl w5.heap.size w5).drew)).own HBOOK_5.out (fun _ _ h => h))
      have HHD_6 : Hid (w5.drew.heap[x.H]? = some (.cells (ints p.heard).toArray 3 (0, 0))) := Lib.hid ((((Below.refl w5.heap.size w5).drew).block x.H (ltb HHD_5.out)).trans HHD_5.out)
      have HB_6 : Hid (Chg (fun k => lo ≤ k) w0 w5.drew) := Lib.hid (HB_5.out.trans (Chg.of_below ((Below.refl w5.heap.size w5).drew)))
      have HP3_6 : Hid (w5.drew.heap[P3]? = some (.cells (mcv v (.slice B nb cb)) 36 (0, 0))) := Lib.hid ((((Below.refl w5.heap.size w5).drew).block P3 (ltb HP3_5.out)).trans HP3_5.out)
      have HC_6 : Hid (CAt w5.drew x.gc s' x.cA x.cc) := Lib.hid (HC_5.out.below ((Below.refl w5.heap.size w5).drew))
      have HP4_6 : Hid (w5.drew.heap[P4]? = some (.cells #[.int .i64 a, .int .i64 b, .int .i64 d] 34 (0, 0))) := Lib.hid ((((Below.refl w5.heap.size w5).drew).block P4 (ltb HP4_5.out)).trans HP4_5.out)
      clear HPB_5 HS_5 HWAY_5 HBOOK_5 HHD_5 HB_5 HP3_5 HC_5 HP4_5
      have FP3 : w5.drew.heap[P3]? = some (.cells (mcv v (.slice B nb cb)) 36 (0, 0)) := HP3_6.out
      have FP : w5.drew.heap[P]? = some (.cells #[.int .i64 id, .pointer (some ⟨x.gc, 0, none⟩), .pointer (some ⟨x.gs, 0, none⟩), .int .i64 p.ep, .slice x.wA p.way.length x.wc, .slice x.bA p.book.length x.bc, .int .i64 p.told, .int .i64 x.t1, .int .i64 x.t2, .slice ((some ⟨x.H, 0, none⟩)) p.heard.length p.heard.length] 54 (0, 0)) := HPB_6.out
      refine wp_region_noPanic ?_
      refine wp_region_held_drew (S := fun w' => w'.heap[P3]? = some (.cells (mcv v (.slice B nb cb)) 36 (0, 0)) ∧ w'.heap[P]? = some (.cells #[.int .i64 id, .pointer (some ⟨x.gc, 0, none⟩), .pointer (some ⟨x.gs, 0, none⟩), .int .i64 p.ep, .slice x.wA p.way.length x.wc, .slice x.bA p.book.length x.bc, .int .i64 p.told, .int .i64 x.t1, .int .i64 x.t2, .slice ((some ⟨x.H, 0, none⟩)) p.heard.length p.heard.length] 54 (0, 0))) (by kernel_rfl) ?_ (fun hHeld => ?_)
      · try dsimp only
        (refine ⟨?_, ?_⟩ <;> (first | with_reducible assumption))
      generalize w5.drew = w6 at *
      refine wpAnyH_take (i := 0) (v := ?_) (by (simp only [List.getElem?_toArray, List.getElem?_cons_zero]; rfl)) (by kernel_rfl) (by kernel_rfl) (by kernel_rfl) (fun _ _ _ h => h) (Or.inl ⟨by rfl, ?_⟩) (by assumption) ?_
      rotate_left
      · (intro w hSw; (try dsimp only at hSw); go_simp; try with_reducible rfl)
      try simp only [Act.put, List.setIfInBounds_toArray, List.set_cons_zero, List.set_cons_succ]
      refine wpAnyH_take (i := 1) (v := ?_) (by (simp only [List.getElem?_toArray, List.getElem?_cons_succ, List.getElem?_cons_zero]; rfl)) (by kernel_rfl) (by kernel_rfl) (by kernel_rfl) (fun _ _ _ h => h) (Or.inl ⟨by rfl, ?_⟩) (by assumption) ?_
      rotate_left
      · (intro w hSw; (try dsimp only at hSw); go_simp; try with_reducible rfl)
      try simp only [Act.put, List.setIfInBounds_toArray, List.set_cons_zero, List.set_cons_succ]
      refine wpAnyH_take (i := 2) (v := ?_) (by (simp only [List.getElem?_toArray, List.getElem?_cons_succ, List.getElem?_cons_zero]; rfl)) (by kernel_rfl) (by kernel_rfl) (by kernel_rfl) (fun _ _ _ h => h) (Or.inl ⟨by rfl, ?_⟩) (by assumption) ?_
      rotate_left
      · (intro w hSw; (try dsimp only at hSw); go_simp; try with_reducible rfl)
      try simp only [Act.put, List.setIfInBounds_toArray, List.set_cons_zero, List.set_cons_succ]
      refine wpAnyH_take (i := 3) (v := ?_) (by (simp only [List.getElem?_toArray, List.getElem?_cons_succ, List.getElem?_cons_zero]; rfl)) (by kernel_rfl) (by kernel_rfl) (by kernel_rfl) (fun _ _ _ h => h) (Or.inl ⟨by rfl, ?_⟩) (by assumption) ?_
      rotate_left
      · (intro w hSw; (try dsimp only at hSw); go_simp; try with_reducible rfl)
      try simp only [Act.put, List.setIfInBounds_toArray, List.set_cons_zero, List.set_cons_succ]
      refine wpAnyH_take (i := 4) (v := ?_) (by (simp only [List.getElem?_toArray, List.getElem?_cons_succ, List.getElem?_cons_zero]; rfl)) (by kernel_rfl) (by kernel_rfl) (by kernel_rfl) (fun _ _ _ h => h) (Or.inl ⟨by rfl, ?_⟩) (by assumption) ?_
      rotate_left
      · intro w hSw
        try dsimp only at hSw
        have x0 : w.cell? ⟨P3, 16, none⟩ = some (.int .i64 (v 16)) := (cellb (i := 16) hSw.1 rfl)
        go_simp; try with_reducible rfl
      try simp only [Act.put, List.setIfInBounds_toArray, List.set_cons_zero, List.set_cons_succ]
      refine wpAnyH_take (i := 5) (v := ?_) (by (simp only [List.getElem?_toArray, List.getElem?_cons_succ, List.getElem?_cons_zero]; rfl)) (by kernel_rfl) (by kernel_rfl) (by kernel_rfl) (fun _ _ _ h => h) (Or.inl ⟨by rfl, ?_⟩) (by assumption) ?_
      rotate_left
      · (intro w hSw; (try dsimp only at hSw); go_simp; try with_reducible rfl)
      try simp only [Act.put, List.setIfInBounds_toArray, List.set_cons_zero, List.set_cons_succ]
      refine wpAnyH_take (i := 6) (v := ?_) (by (simp only [List.getElem?_toArray, List.getElem?_cons_succ, List.getElem?_cons_zero]; rfl)) (by kernel_rfl) (by kernel_rfl) (by kernel_rfl) (fun _ _ _ h => h) (Or.inl ⟨by rfl, ?_⟩) (by assumption) ?_
      rotate_left
      · (intro w hSw; (try dsimp only at hSw); go_simp; try with_reducible rfl)
      try simp only [Act.put, List.setIfInBounds_toArray, List.set_cons_zero, List.set_cons_succ]
      refine wpAnyH_take (i := 7) (v := ?_) (by (simp only [List.getElem?_toArray, List.getElem?_cons_succ, List.getElem?_cons_zero]; rfl)) (by kernel_rfl) (by kernel_rfl) (by kernel_rfl) (fun _ _ _ h => h) (Or.inl ⟨by rfl, ?_⟩) (by assumption) ?_
      rotate_left
      · (intro w hSw; (try dsimp only at hSw); go_simp; try with_reducible rfl)
      try simp only [Act.put, List.setIfInBounds_toArray, List.set_cons_zero, List.set_cons_succ]
      refine wpAnyH_take (i := 8) (v := ?_) (by (simp only [List.getElem?_toArray, List.getElem?_cons_succ, List.getElem?_cons_zero]; rfl)) (by kernel_rfl) (by kernel_rfl) (by kernel_rfl) (fun _ _ _ h => h) (Or.inl ⟨by rfl, ?_⟩) (by assumption) ?_
      rotate_left
      · intro w hSw
        try dsimp only at hSw
        have x0 : w.cell? ⟨P, 9, none⟩ = some (.slice ((some ⟨x.H, 0, none⟩)) p.heard.length p.heard.length) := (cellb (i := 9) hSw.2 rfl)
        go_simp; try with_reducible rfl
      try simp only [Act.put, List.setIfInBounds_toArray, List.set_cons_zero, List.set_cons_succ]
      refine wpAnyH_take (i := 9) (v := ?_) (by (simp only [List.getElem?_toArray, List.getElem?_cons_succ, List.getElem?_cons_zero]; rfl)) (by kernel_rfl) (by kernel_rfl) (by kernel_rfl) (fun _ _ _ h => h) (Or.inl ⟨by rfl, ?_⟩) (by assumption) ?_
      rotate_left
      · (intro w hSw; (try dsimp only at hSw); go_simp; try with_reducible rfl)
      try simp only [Act.put, List.setIfInBounds_toArray, List.set_cons_zero, List.set_cons_succ]
      refine wpAnyH_take (i := 10) (v := ?_) (by (simp only [List.getElem?_toArray, List.getElem?_cons_succ, List.getElem?_cons_zero]; rfl)) (by kernel_rfl) (by kernel_rfl) (by kernel_rfl) (fun _ _ _ h => h) (Or.inl ⟨by rfl, ?_⟩) (by assumption) ?_
      rotate_left
      · (intro w hSw; (try dsimp only at hSw); go_simp; try with_reducible rfl)
      try simp only [Act.put, List.setIfInBounds_toArray, List.set_cons_zero, List.set_cons_succ]
      refine wpAnyH_take (i := 11) (v := ?_) (by (simp only [List.getElem?_toArray, List.getElem?_cons_succ, List.getElem?_cons_zero]; rfl)) (by kernel_rfl) (by kernel_rfl) (by kernel_rfl) (fun _ _ _ h => h) (Or.inl ⟨by rfl, ?_⟩) (by assumption) ?_
      rotate_left
      · (intro w hSw; (try dsimp only at hSw); go_simp; try with_reducible rfl)
      try simp only [Act.put, List.setIfInBounds_toArray, List.set_cons_zero, List.set_cons_succ]
      refine wpAnyH_done (by kernel_rfl) ?_ _
      refine NoPanic.normal ?_
      clear hHeld FP3 FP
      go_upto_region 3 with (fail)
      have HPB_7 : Hid (w6.drew.heap[P]? = some (.cells #[.int .i64 id, .pointer (some ⟨x.gc, 0, none⟩), .pointer (some ⟨x.gs, 0, none⟩), .int .i64 p.ep, .slice x.wA p.way.length x.wc, .slice x.bA p.book.length x.bc, .int .i64 p.told, .int .i64 x.t1, .int .i64 x.t2, .slice ((some ⟨x.H, 0, none⟩)) p.heard.length p.heard.length] 54 (0, 0))) := Lib.hid ((((Below.refl w6.heap.size w6).drew).block P (ltb HPB_6.out)).trans HPB_6.out)
      have HS_7 : Hid (SAt w6.drew x.gs p.ep x.M x.nn f) := Lib.hid (HS_6.out.below ((Below.refl w6.heap.size w6).drew))
      have HWAY_7 : Hid (w6.drew.ownsRow (x.H + 1) 36 21 (.slice x.wA p.way.length x.wc) p.way.length (mgs p.way)) := Lib.hid ((Chg.of_below (S := fun _ => False) ((Below.refl w6.heap.size w6).drew)).own HWAY_6.out (fun _ _ h => h))
      have HBOOK_7 : Hid (w6.drew.ownsRow (x.H + 1) 3 1 (.slice x.bA p.book.length x.bc) p.book.length (ints p.book)) := Lib.hid ((Chg.of_below (S := fun _ => False) ((Below.refl w6.heap.size w6).drew)).own HBOOK_6.out (fun _ _ h => h))
      have HHD_7 : Hid (w6.drew.heap[x.H]? = some (.cells (ints p.heard).toArray 3 (0, 0))) := Lib.hid ((((Below.refl w6.heap.size w6).drew).block x.H (ltb HHD_6.out)).trans HHD_6.out)
      have HB_7 : Hid (Chg (fun k => lo ≤ k) w0 w6.drew) := Lib.hid (HB_6.out.trans (Chg.of_below ((Below.refl w6.heap.size w6).drew)))
      have HP3_7 : Hid (w6.drew.heap[P3]? = some (.cells (mcv v (.slice B nb cb)) 36 (0, 0))) := Lib.hid ((((Below.refl w6.heap.size w6).drew).block P3 (ltb HP3_6.out)).trans HP3_6.out)
      have HC_7 : Hid (CAt w6.drew x.gc s' x.cA x.cc) := Lib.hid (HC_6.out.below ((Below.refl w6.heap.size w6).drew))
      have HP4_7 : Hid (w6.drew.heap[P4]? = some (.cells #[.int .i64 a, .int .i64 b, .int .i64 d] 34 (0, 0))) := Lib.hid ((((Below.refl w6.heap.size w6).drew).block P4 (ltb HP4_6.out)).trans HP4_6.out)
      clear HPB_6 HS_6 HWAY_6 HBOOK_6 HHD_6 HB_6 HP3_6 HC_6 HP4_6
      have FP : w6.drew.heap[P]? = some (.cells #[.int .i64 id, .pointer (some ⟨x.gc, 0, none⟩), .pointer (some ⟨x.gs, 0, none⟩), .int .i64 p.ep, .slice x.wA p.way.length x.wc, .slice x.bA p.book.length x.bc, .int .i64 p.told, .int .i64 x.t1, .int .i64 x.t2, .slice ((some ⟨x.H, 0, none⟩)) p.heard.length p.heard.length] 54 (0, 0)) := HPB_7.out
      have FP3 : w6.drew.heap[P3]? = some (.cells (mcv v (.slice B nb cb)) 36 (0, 0)) := HP3_7.out
      refine wp_region_noPanic ?_
      refine wp_region_held_drew (S := fun w' => w'.heap[P]? = some (.cells #[.int .i64 id, .pointer (some ⟨x.gc, 0, none⟩), .pointer (some ⟨x.gs, 0, none⟩), .int .i64 p.ep, .slice x.wA p.way.length x.wc, .slice x.bA p.book.length x.bc, .int .i64 p.told, .int .i64 x.t1, .int .i64 x.t2, .slice ((some ⟨x.H, 0, none⟩)) p.heard.length p.heard.length] 54 (0, 0)) ∧ w'.heap[P3]? = some (.cells (mcv v (.slice B nb cb)) 36 (0, 0))) (by kernel_rfl) ?_ (fun hHeld => ?_)
      · try dsimp only
        (refine ⟨?_, ?_⟩ <;> (first | with_reducible assumption))
      generalize w6.drew = w7 at *
      refine wpAnyH_take (i := 0) (v := ?_) (by (simp only [List.getElem?_toArray, List.getElem?_cons_zero]; rfl)) (by kernel_rfl) (by kernel_rfl) (by kernel_rfl) (fun _ _ _ h => h) (Or.inl ⟨by rfl, ?_⟩) (by assumption) ?_
      rotate_left
      · (intro w hSw; (try dsimp only at hSw); go_simp; try with_reducible rfl)
      try simp only [Act.put, List.setIfInBounds_toArray, List.set_cons_zero, List.set_cons_succ]
      refine wpAnyH_take (i := 1) (v := ?_) (by (simp only [List.getElem?_toArray, List.getElem?_cons_succ, List.getElem?_cons_zero]; rfl)) (by kernel_rfl) (by kernel_rfl) (by kernel_rfl) (fun _ _ _ h => h) (Or.inl ⟨by rfl, ?_⟩) (by assumption) ?_
      rotate_left
      · (intro w hSw; (try dsimp only at hSw); go_simp; try with_reducible rfl)
      try simp only [Act.put, List.setIfInBounds_toArray, List.set_cons_zero, List.set_cons_succ]
      refine wpAnyH_take (i := 2) (v := ?_) (by (simp only [List.getElem?_toArray, List.getElem?_cons_succ, List.getElem?_cons_zero]; rfl)) (by kernel_rfl) (by kernel_rfl) (by kernel_rfl) (fun _ _ _ h => h) (Or.inl ⟨by rfl, ?_⟩) (by assumption) ?_
      rotate_left
      · (intro w hSw; (try dsimp only at hSw); go_simp; try with_reducible rfl)
      try simp only [Act.put, List.setIfInBounds_toArray, List.set_cons_zero, List.set_cons_succ]
      refine wpAnyH_take (i := 3) (v := ?_) (by (simp only [List.getElem?_toArray, List.getElem?_cons_succ, List.getElem?_cons_zero]; rfl)) (by kernel_rfl) (by kernel_rfl) (by kernel_rfl) (fun _ _ _ h => h) (Or.inl ⟨by rfl, ?_⟩) (by assumption) ?_
      rotate_left
      · intro w hSw
        try dsimp only at hSw
        have x0 : w.cell? ⟨P, 9, none⟩ = some (.slice ((some ⟨x.H, 0, none⟩)) p.heard.length p.heard.length) := (cellb (i := 9) hSw.1 rfl)
        go_simp; try with_reducible rfl
      try simp only [Act.put, List.setIfInBounds_toArray, List.set_cons_zero, List.set_cons_succ]
      refine wpAnyH_take (i := 4) (v := ?_) (by (simp only [List.getElem?_toArray, List.getElem?_cons_succ, List.getElem?_cons_zero]; rfl)) (by kernel_rfl) (by kernel_rfl) (by kernel_rfl) (fun _ _ _ h => h) (Or.inl ⟨by rfl, ?_⟩) (by assumption) ?_
      rotate_left
      · (intro w hSw; (try dsimp only at hSw); go_simp; try with_reducible rfl)
      try simp only [Act.put, List.setIfInBounds_toArray, List.set_cons_zero, List.set_cons_succ]
      refine wpAnyH_take (i := 5) (v := ?_) (by (simp only [List.getElem?_toArray, List.getElem?_cons_succ, List.getElem?_cons_zero]; rfl)) (by kernel_rfl) (by kernel_rfl) (by kernel_rfl) (fun _ _ _ h => h) (Or.inl ⟨by rfl, ?_⟩) (by assumption) ?_
      rotate_left
      · intro w hSw
        try dsimp only at hSw
        have x0 : w.cell? ⟨P3, 16, none⟩ = some (.int .i64 (v 16)) := (cellb (i := 16) hSw.2 rfl)
        go_simp; try with_reducible rfl
      try simp only [Act.put, List.setIfInBounds_toArray, List.set_cons_zero, List.set_cons_succ]
      refine wpAnyH_take (i := 6) (v := ?_) (by (simp only [List.getElem?_toArray, List.getElem?_cons_succ, List.getElem?_cons_zero]; rfl)) (by kernel_rfl) (by kernel_rfl) (by kernel_rfl) (fun _ _ _ h => h) (Or.inl ⟨by rfl, ?_⟩) (by assumption) ?_
      rotate_left
      · (intro w hSw; (try dsimp only at hSw); go_simp; try with_reducible rfl)
      try simp only [Act.put, List.setIfInBounds_toArray, List.set_cons_zero, List.set_cons_succ]
      refine wpAnyH_ready (rs := [7]) (by kernel_rfl) (by simp) ?_
      refine AllReadyH.cons (by (simp only [List.getElem?_toArray, List.getElem?_cons_succ, List.getElem?_cons_zero]; rfl)) (fun K hK => ?_) AllReadyH.nil
      have c0 : w7.cell? ⟨x.H, (v 16).toNat, none⟩ = some (.int .i64 (p.heard.getD (v 16).toNat 0)) := hd_cell HHD_7.out (by first | omega | (simp; omega))
      have f0 : w7.frozen? ⟨x.H, (v 16).toNat, none⟩ = false := fzb HHD_7.out _
      go_simp
      clear c0 f0
      have hch := Ch.ofCell (i := (v 16).toNat) HHD_7.out (.int .i64 1)
      have hnew := hd_set HHD_7.out (v 16).toNat 1
      clear HHD_7
      have HPB_8 : Hid ((w7.setCell ⟨x.H, (v 16).toNat, none⟩ (.int .i64 1)).heap[P]? = some (.cells #[.int .i64 id, .pointer (some ⟨x.gc, 0, none⟩), .pointer (some ⟨x.gs, 0, none⟩), .int .i64 p.ep, .slice x.wA p.way.length x.wc, .slice x.bA p.book.length x.bc, .int .i64 p.told, .int .i64 x.t1, .int .i64 x.t2, .slice ((some ⟨x.H, 0, none⟩)) p.heard.length p.heard.length] 54 (0, 0))) := Lib.hid (hch.blk HPB_7.out (by show (54 + 1 : Nat) ≠ _; decide))
      have HS_8 : Hid (SAt (w7.setCell ⟨x.H, (v 16).toNat, none⟩ (.int .i64 1)) x.gs p.ep x.M x.nn f) := Lib.hid (hch.sat HS_7.out (by decide) (by decide))
      have HWAY_8 : Hid ((w7.setCell ⟨x.H, (v 16).toNat, none⟩ (.int .i64 1)).ownsRow (x.H + 1) 36 21 (.slice x.wA p.way.length x.wc) p.way.length (mgs p.way)) := Lib.hid (hch.own HWAY_7.out (by decide))
      have HBOOK_8 : Hid ((w7.setCell ⟨x.H, (v 16).toNat, none⟩ (.int .i64 1)).ownsRow (x.H + 1) 3 1 (.slice x.bA p.book.length x.bc) p.book.length (ints p.book)) := Lib.hid (hch.ownN HBOOK_7.out (fun k hk => by injection hk with hk; omega))
      have HB_8 : Hid (Chg (fun k => lo ≤ k) w0 (w7.setCell ⟨x.H, (v 16).toNat, none⟩ (.int .i64 1))) := Lib.hid (hch.low HB_7.out (fun k hk => by injection hk with hk; omega))
      have HP3_8 : Hid ((w7.setCell ⟨x.H, (v 16).toNat, none⟩ (.int .i64 1)).heap[P3]? = some (.cells (mcv v (.slice B nb cb)) 36 (0, 0))) := Lib.hid (hch.blk HP3_7.out (by show (36 + 1 : Nat) ≠ _; decide))
      have HC_8 : Hid (CAt (w7.setCell ⟨x.H, (v 16).toNat, none⟩ (.int .i64 1)) x.gc s' x.cA x.cc) := Lib.hid (hch.cat HC_7.out (by decide) (by decide))
      have HP4_8 : Hid ((w7.setCell ⟨x.H, (v 16).toNat, none⟩ (.int .i64 1)).heap[P4]? = some (.cells #[.int .i64 a, .int .i64 b, .int .i64 d] 34 (0, 0))) := Lib.hid (hch.blk HP4_7.out (by show (34 + 1 : Nat) ≠ _; decide))
      clear hch HPB_7 HS_7 HWAY_7 HBOOK_7 HB_7 HP3_7 HC_7 HP4_7
      have HHD_8 : Hid ((w7.setCell ⟨x.H, (v 16).toNat, none⟩ (.int .i64 1)).heap[x.H]? = some (.cells (ints (p.heard.set (v 16).toNat 1)).toArray 3 (0, 0))) := Lib.hid hnew
      clear hnew
      generalize w7.setCell ⟨x.H, (v 16).toNat, none⟩ (.int .i64 1) = w8 at HPB_8 HS_8 HWAY_8 HBOOK_8 HB_8 HP3_8 HC_8 HP4_8 HHD_8 ⊢
      have FP' : w8.heap[P]? = some (.cells #[.int .i64 id, .pointer (some ⟨x.gc, 0, none⟩), .pointer (some ⟨x.gs, 0, none⟩), .int .i64 p.ep, .slice x.wA p.way.length x.wc, .slice x.bA p.book.length x.bc, .int .i64 p.told, .int .i64 x.t1, .int .i64 x.t2, .slice ((some ⟨x.H, 0, none⟩)) p.heard.length p.heard.length] 54 (0, 0)) := HPB_8.out
      have FP3' : w8.heap[P3]? = some (.cells (mcv v (.slice B nb cb)) 36 (0, 0)) := HP3_8.out
      clear FP FP3
      have FP := FP'
      clear FP'
      have FP3 := FP3'
      clear FP3'
      refine hK.out _ _ ?_ (fun hHeld => ?_)
      · try dsimp only
        (refine ⟨?_, ?_⟩ <;> (first | with_reducible assumption))
      clear hK K
      try simp only [Act.put]
      refine wpAnyH_done (by kernel_rfl) ?_ _
      refine NoPanic.normal ?_
      clear hHeld FP FP3
      by_cases ha : a = 0
      · skip
        have HA := Lib.hid ha
        have q4 : (a != 0) = false := by rw [bne_eq_false_iff_eq]; exact ha
        clear ha
        have cc5 : w8.cell? ⟨P4, 0, none⟩ = some (.int .i64 a) := cellb (i := 0) HP4_8.out rfl
        go_wp2_with fail
        clear cc5
        first | go_end0 | ((try simp only [Exit.inBlock, Exit.then]); refine bodyPost_ret (results_none rfl _ _ _) rfl ?_)
        have hsb : s'.at_ = p.s.at_ ∧ s'.body = p.s.body := by rw [(HSUM.out.1 rfl).2.2.2.2.2.2.1]; exact ⟨rfl, rfl⟩
        refine ⟨rfl, x, { p with s := s', heard := (p.heard.set (v 16).toNat 1) }, ⟨HPB_8.out |> (by simpa using ·), HC_8.out, HS_8.out, HWAY_8.out, HBOOK_8.out, HHD_8.out, HKF.out, l1, l2, l3, l4⟩, rfl, by simp, ⟨rfl, rfl, rfl, hsb.1, hsb.2⟩, HB_8.out, fun hr hi => ?_⟩
        obtain ⟨e1, e2, e3, e4, e5, e6, e7, e8⟩ := HSUM.out.1 rfl
        rw [e7]
        refine hi.over ⟨v, B, nb, cb⟩ hr e2 e3 e4 e5 _ (fun q => ?_)
        have hq8 : ((v 16).toNat : Int) = v 16 := by omega
        by_cases hq : q = (v 16).toNat
        · right; left
          refine ⟨by rw [hq]; exact hq8, ?_⟩
          have : (v 16).toNat < p.heard.length := by omega
          show _ = some (if v 18 = 0 then 1 else 2)
          rw [hq, ← e6]
          simp [this, HA.out]
        · left
          have hq' : ¬ (v 16).toNat = q := fun e => hq e.symm
          simp [hq']
      · skip
        have HA := Lib.hid ha
        have q4 : (a != 0) = true := by rw [bne_iff_ne]; exact ha
        clear ha
        have cc6 : w8.cell? ⟨P4, 0, none⟩ = some (.int .i64 a) := cellb (i := 0) HP4_8.out rfl
        go_upto_region 5 with (fail)
        clear cc6
        have HPB_9 : Hid (w8.drew.heap[P]? = some (.cells #[.int .i64 id, .pointer (some ⟨x.gc, 0, none⟩), .pointer (some ⟨x.gs, 0, none⟩), .int .i64 p.ep, .slice x.wA p.way.length x.wc, .slice x.bA p.book.length x.bc, .int .i64 p.told, .int .i64 x.t1, .int .i64 x.t2, .slice ((some ⟨x.H, 0, none⟩)) p.heard.length p.heard.length] 54 (0, 0))) := Lib.hid ((((Below.refl w8.heap.size w8).drew).block P (ltb HPB_8.out)).trans HPB_8.out)
        have HS_9 : Hid (SAt w8.drew x.gs p.ep x.M x.nn f) := Lib.hid (HS_8.out.below ((Below.refl w8.heap.size w8).drew))
        have HWAY_9 : Hid (w8.drew.ownsRow (x.H + 1) 36 21 (.slice x.wA p.way.length x.wc) p.way.length (mgs p.way)) := Lib.hid ((Chg.of_below (S := fun _ => False) ((Below.refl w8.heap.size w8).drew)).own HWAY_8.out (fun _ _ h => h))
        have HBOOK_9 : Hid (w8.drew.ownsRow (x.H + 1) 3 1 (.slice x.bA p.book.length x.bc) p.book.length (ints p.book)) := Lib.hid ((Chg.of_below (S := fun _ => False) ((Below.refl w8.heap.size w8).drew)).own HBOOK_8.out (fun _ _ h => h))
        have HB_9 : Hid (Chg (fun k => lo ≤ k) w0 w8.drew) := Lib.hid (HB_8.out.trans (Chg.of_below ((Below.refl w8.heap.size w8).drew)))
        have HP3_9 : Hid (w8.drew.heap[P3]? = some (.cells (mcv v (.slice B nb cb)) 36 (0, 0))) := Lib.hid ((((Below.refl w8.heap.size w8).drew).block P3 (ltb HP3_8.out)).trans HP3_8.out)
        have HC_9 : Hid (CAt w8.drew x.gc s' x.cA x.cc) := Lib.hid (HC_8.out.below ((Below.refl w8.heap.size w8).drew))
        have HP4_9 : Hid (w8.drew.heap[P4]? = some (.cells #[.int .i64 a, .int .i64 b, .int .i64 d] 34 (0, 0))) := Lib.hid ((((Below.refl w8.heap.size w8).drew).block P4 (ltb HP4_8.out)).trans HP4_8.out)
        have HHD_9 : Hid (w8.drew.heap[x.H]? = some (.cells (ints (p.heard.set (v 16).toNat 1)).toArray 3 (0, 0))) := Lib.hid ((((Below.refl w8.heap.size w8).drew).block x.H (ltb HHD_8.out)).trans HHD_8.out)
        clear HPB_8 HS_8 HWAY_8 HBOOK_8 HB_8 HP3_8 HC_8 HP4_8 HHD_8
        have FP : w8.drew.heap[P]? = some (.cells #[.int .i64 id, .pointer (some ⟨x.gc, 0, none⟩), .pointer (some ⟨x.gs, 0, none⟩), .int .i64 p.ep, .slice x.wA p.way.length x.wc, .slice x.bA p.book.length x.bc, .int .i64 p.told, .int .i64 x.t1, .int .i64 x.t2, .slice ((some ⟨x.H, 0, none⟩)) p.heard.length p.heard.length] 54 (0, 0)) := HPB_9.out
        have FP3 : w8.drew.heap[P3]? = some (.cells (mcv v (.slice B nb cb)) 36 (0, 0)) := HP3_9.out
        refine wp_region_noPanic ?_
        refine wp_region_held_drew (S := fun w' => w'.heap[P]? = some (.cells #[.int .i64 id, .pointer (some ⟨x.gc, 0, none⟩), .pointer (some ⟨x.gs, 0, none⟩), .int .i64 p.ep, .slice x.wA p.way.length x.wc, .slice x.bA p.book.length x.bc, .int .i64 p.told, .int .i64 x.t1, .int .i64 x.t2, .slice ((some ⟨x.H, 0, none⟩)) p.heard.length p.heard.length] 54 (0, 0)) ∧ w'.heap[P3]? = some (.cells (mcv v (.slice B nb cb)) 36 (0, 0))) (by kernel_rfl) ?_ (fun hHeld => ?_)
        · try dsimp only
          (refine ⟨?_, ?_⟩ <;> (first | with_reducible assumption))
        generalize w8.drew = w9 at *
        refine wpAnyH_take (i := 0) (v := ?_) (by (simp only [List.getElem?_toArray, List.getElem?_cons_zero]; rfl)) (by kernel_rfl) (by kernel_rfl) (by kernel_rfl) (fun _ _ _ h => h) (Or.inl ⟨by rfl, ?_⟩) (by assumption) ?_
        rotate_left
        · (intro w hSw; (try dsimp only at hSw); go_simp; try with_reducible rfl)
        try simp only [Act.put, List.setIfInBounds_toArray, List.set_cons_zero, List.set_cons_succ]
        refine wpAnyH_take (i := 1) (v := ?_) (by (simp only [List.getElem?_toArray, List.getElem?_cons_succ, List.getElem?_cons_zero]; rfl)) (by kernel_rfl) (by kernel_rfl) (by kernel_rfl) (fun _ _ _ h => h) (Or.inl ⟨by rfl, ?_⟩) (by assumption) ?_
        rotate_left
        · (intro w hSw; (try dsimp only at hSw); go_simp; try with_reducible rfl)
        try simp only [Act.put, List.setIfInBounds_toArray, List.set_cons_zero, List.set_cons_succ]
        refine wpAnyH_take (i := 2) (v := ?_) (by (simp only [List.getElem?_toArray, List.getElem?_cons_succ, List.getElem?_cons_zero]; rfl)) (by kernel_rfl) (by kernel_rfl) (by kernel_rfl) (fun _ _ _ h => h) (Or.inl ⟨by rfl, ?_⟩) (by assumption) ?_
        rotate_left
        · (intro w hSw; (try dsimp only at hSw); go_simp; try with_reducible rfl)
        try simp only [Act.put, List.setIfInBounds_toArray, List.set_cons_zero, List.set_cons_succ]
        refine wpAnyH_take (i := 3) (v := ?_) (by (simp only [List.getElem?_toArray, List.getElem?_cons_succ, List.getElem?_cons_zero]; rfl)) (by kernel_rfl) (by kernel_rfl) (by kernel_rfl) (fun _ _ _ h => h) (Or.inl ⟨by rfl, ?_⟩) (by assumption) ?_
        rotate_left
        · intro w hSw
          try dsimp only at hSw
          have x0 : w.cell? ⟨P, 9, none⟩ = some (.slice ((some ⟨x.H, 0, none⟩)) p.heard.length p.heard.length) := (cellb (i := 9) hSw.1 rfl)
          go_simp; try with_reducible rfl
        try simp only [Act.put, List.setIfInBounds_toArray, List.set_cons_zero, List.set_cons_succ]
        refine wpAnyH_take (i := 4) (v := ?_) (by (simp only [List.getElem?_toArray, List.getElem?_cons_succ, List.getElem?_cons_zero]; rfl)) (by kernel_rfl) (by kernel_rfl) (by kernel_rfl) (fun _ _ _ h => h) (Or.inl ⟨by rfl, ?_⟩) (by assumption) ?_
        rotate_left
        · (intro w hSw; (try dsimp only at hSw); go_simp; try with_reducible rfl)
        try simp only [Act.put, List.setIfInBounds_toArray, List.set_cons_zero, List.set_cons_succ]
        refine wpAnyH_take (i := 5) (v := ?_) (by (simp only [List.getElem?_toArray, List.getElem?_cons_succ, List.getElem?_cons_zero]; rfl)) (by kernel_rfl) (by kernel_rfl) (by kernel_rfl) (fun _ _ _ h => h) (Or.inl ⟨by rfl, ?_⟩) (by assumption) ?_
        rotate_left
        · intro w hSw
          try dsimp only at hSw
          have x0 : w.cell? ⟨P3, 16, none⟩ = some (.int .i64 (v 16)) := (cellb (i := 16) hSw.2 rfl)
          go_simp; try with_reducible rfl
        try simp only [Act.put, List.setIfInBounds_toArray, List.set_cons_zero, List.set_cons_succ]
        refine wpAnyH_take (i := 6) (v := ?_) (by (simp only [List.getElem?_toArray, List.getElem?_cons_succ, List.getElem?_cons_zero]; rfl)) (by kernel_rfl) (by kernel_rfl) (by kernel_rfl) (fun _ _ _ h => h) (Or.inl ⟨by rfl, ?_⟩) (by assumption) ?_
        rotate_left
        · (intro w hSw; (try dsimp only at hSw); go_simp; try with_reducible rfl)
        try simp only [Act.put, List.setIfInBounds_toArray, List.set_cons_zero, List.set_cons_succ]
        refine wpAnyH_ready (rs := [7]) (by kernel_rfl) (by simp) ?_
        refine AllReadyH.cons (by (simp only [List.getElem?_toArray, List.getElem?_cons_succ, List.getElem?_cons_zero]; rfl)) (fun K hK => ?_) AllReadyH.nil
        have c0 : w9.cell? ⟨x.H, (v 16).toNat, none⟩ = some (.int .i64 ((p.heard.set (v 16).toNat 1).getD (v 16).toNat 0)) := hd_cell HHD_9.out (by first | omega | (simp; omega))
        have f0 : w9.frozen? ⟨x.H, (v 16).toNat, none⟩ = false := fzb HHD_9.out _
        go_simp
        clear c0 f0
        have hch := Ch.ofCell (i := (v 16).toNat) HHD_9.out (.int .i64 2)
        have hnew := hd_set HHD_9.out (v 16).toNat 2
        clear HHD_9
        have HPB_10 : Hid ((w9.setCell ⟨x.H, (v 16).toNat, none⟩ (.int .i64 2)).heap[P]? = some (.cells #[.int .i64 id, .pointer (some ⟨x.gc, 0, none⟩), .pointer (some ⟨x.gs, 0, none⟩), .int .i64 p.ep, .slice x.wA p.way.length x.wc, .slice x.bA p.book.length x.bc, .int .i64 p.told, .int .i64 x.t1, .int .i64 x.t2, .slice ((some ⟨x.H, 0, none⟩)) p.heard.length p.heard.length] 54 (0, 0))) := Lib.hid (hch.blk HPB_9.out (by show (54 + 1 : Nat) ≠ _; decide))
        have HS_10 : Hid (SAt (w9.setCell ⟨x.H, (v 16).toNat, none⟩ (.int .i64 2)) x.gs p.ep x.M x.nn f) := Lib.hid (hch.sat HS_9.out (by decide) (by decide))
        have HWAY_10 : Hid ((w9.setCell ⟨x.H, (v 16).toNat, none⟩ (.int .i64 2)).ownsRow (x.H + 1) 36 21 (.slice x.wA p.way.length x.wc) p.way.length (mgs p.way)) := Lib.hid (hch.own HWAY_9.out (by decide))
        have HBOOK_10 : Hid ((w9.setCell ⟨x.H, (v 16).toNat, none⟩ (.int .i64 2)).ownsRow (x.H + 1) 3 1 (.slice x.bA p.book.length x.bc) p.book.length (ints p.book)) := Lib.hid (hch.ownN HBOOK_9.out (fun k hk => by injection hk with hk; omega))
        have HB_10 : Hid (Chg (fun k => lo ≤ k) w0 (w9.setCell ⟨x.H, (v 16).toNat, none⟩ (.int .i64 2))) := Lib.hid (hch.low HB_9.out (fun k hk => by injection hk with hk; omega))
        have HP3_10 : Hid ((w9.setCell ⟨x.H, (v 16).toNat, none⟩ (.int .i64 2)).heap[P3]? = some (.cells (mcv v (.slice B nb cb)) 36 (0, 0))) := Lib.hid (hch.blk HP3_9.out (by show (36 + 1 : Nat) ≠ _; decide))
        have HC_10 : Hid (CAt (w9.setCell ⟨x.H, (v 16).toNat, none⟩ (.int .i64 2)) x.gc s' x.cA x.cc) := Lib.hid (hch.cat HC_9.out (by decide) (by decide))
        have HP4_10 : Hid ((w9.setCell ⟨x.H, (v 16).toNat, none⟩ (.int .i64 2)).heap[P4]? = some (.cells #[.int .i64 a, .int .i64 b, .int .i64 d] 34 (0, 0))) := Lib.hid (hch.blk HP4_9.out (by show (34 + 1 : Nat) ≠ _; decide))
        clear hch HPB_9 HS_9 HWAY_9 HBOOK_9 HB_9 HP3_9 HC_9 HP4_9
        have HHD_10 : Hid ((w9.setCell ⟨x.H, (v 16).toNat, none⟩ (.int .i64 2)).heap[x.H]? = some (.cells (ints ((p.heard.set (v 16).toNat 1).set (v 16).toNat 2)).toArray 3 (0, 0))) := Lib.hid hnew
        clear hnew
        generalize w9.setCell ⟨x.H, (v 16).toNat, none⟩ (.int .i64 2) = w10 at HPB_10 HS_10 HWAY_10 HBOOK_10 HB_10 HP3_10 HC_10 HP4_10 HHD_10 ⊢
        have FP' : w10.heap[P]? = some (.cells #[.int .i64 id, .pointer (some ⟨x.gc, 0, none⟩), .pointer (some ⟨x.gs, 0, none⟩), .int .i64 p.ep, .slice x.wA p.way.length x.wc, .slice x.bA p.book.length x.bc, .int .i64 p.told, .int .i64 x.t1, .int .i64 x.t2, .slice ((some ⟨x.H, 0, none⟩)) p.heard.length p.heard.length] 54 (0, 0)) := HPB_10.out
        have FP3' : w10.heap[P3]? = some (.cells (mcv v (.slice B nb cb)) 36 (0, 0)) := HP3_10.out
        clear FP FP3
        have FP := FP'
        clear FP'
        have FP3 := FP3'
        clear FP3'
        refine hK.out _ _ ?_ (fun hHeld => ?_)
        · try dsimp only
          (refine ⟨?_, ?_⟩ <;> (first | with_reducible assumption))
        clear hK K
        try simp only [Act.put]
        refine wpAnyH_done (by kernel_rfl) ?_ _
        refine NoPanic.normal ?_
        clear hHeld FP FP3
        go_wp2_with fail
        first | go_end0 | ((try simp only [Exit.inBlock, Exit.then]); refine bodyPost_ret (results_none rfl _ _ _) rfl ?_)
        have hsb : s'.at_ = p.s.at_ ∧ s'.body = p.s.body := by rw [(HSUM.out.1 rfl).2.2.2.2.2.2.1]; exact ⟨rfl, rfl⟩
        refine ⟨rfl, x, { p with s := s', heard := ((p.heard.set (v 16).toNat 1).set (v 16).toNat 2) }, ⟨HPB_10.out |> (by simpa using ·), HC_10.out, HS_10.out, HWAY_10.out, HBOOK_10.out, HHD_10.out, HKF.out, l1, l2, l3, l4⟩, rfl, by simp, ⟨rfl, rfl, rfl, hsb.1, hsb.2⟩, HB_10.out, fun hr hi => ?_⟩
        obtain ⟨e1, e2, e3, e4, e5, e6, e7, e8⟩ := HSUM.out.1 rfl
        rw [e7]
        refine hi.over ⟨v, B, nb, cb⟩ hr e2 e3 e4 e5 _ (fun q => ?_)
        have hq8 : ((v 16).toNat : Int) = v 16 := by omega
        by_cases hq : q = (v 16).toNat
        · right; left
          refine ⟨by rw [hq]; exact hq8, ?_⟩
          have : (v 16).toNat < p.heard.length := by omega
          show _ = some (if v 18 = 0 then 1 else 2)
          rw [hq, ← e6]
          simp [this, HA.out]
        · left
          have hq' : ¬ (v 16).toNat = q := fun e => hq e.symm
          simp [hq']
end Go.Proofs.Ytlcbpodjmafoeaa
