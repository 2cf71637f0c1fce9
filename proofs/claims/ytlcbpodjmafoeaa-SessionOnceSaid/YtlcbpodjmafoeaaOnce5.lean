/- A pair: the server is asked: the walk. -/
import Derived.Test.YtlcbpodjmafoeaaOnce4
namespace Go.Proofs.Ytlcbpodjmafoeaa
open Go.RowKit

theorem i3p : ∃ i, Try.prog.info? 3 = some i ∧ i.zero = some (.int .i64 0) ∧ i.size = 1 ∧ i.bytes = 8 := by
  have h : (Try.prog.info? 3).map (fun i => (i.zero, i.size, i.bytes)) = some (some (.int .i64 0), 1, 8) := by kernel_rfl
  cases hi : Try.prog.info? 3 with
  | none => rw [hi] at h; cases h
  | some i => rw [hi] at h; simp at h; exact ⟨i, rfl, h.1, h.2.1, h.2.2⟩
theorem mgs_snoc (l : List Mg) (u : Nat → Int) : mgs (l ++ [⟨u, none, 0, 0⟩]) = mgs l ++ [.int .i64 (u 0), .int .i64 (u 1), .int .i64 (u 2), .int .i64 (u 3), .int .i64 (u 4), .int .i64 (u 5), .int .i64 (u 6), .int .i64 (u 7), .int .i64 (u 8), .int .i64 (u 9), .int .i64 (u 10), .int .i64 (u 11), .int .i64 (u 12), .int .i64 (u 13), .int .i64 (u 14), .int .i64 (u 15), .int .i64 (u 16), .slice none 0 0, .int .i64 (u 18), .int .i64 (u 19), .int .i64 (u 20)] := by rw [mgs_append]; rfl
theorem ints_snoc (l : List Int) (x : Int) : ints (l ++ [x]) = ints l ++ [.int .i64 x] := by simp [ints]
theorem uu_wf {kk : Bool} {id ep sq a b c : Int} {uu : Nat → Int} (h : (if kk = true then (#[.int .i64 8, .int .i64 ep, .int .i64 0, .int .i64 0, .int .i64 0, .int .i64 0, .int .i64 0, .int .i64 0, .int .i64 0, .int .i64 0, .int .i64 0, .int .i64 0, .int .i64 0, .int .i64 0, .int .i64 0, .int .i64 id, .int .i64 sq, .slice none 0 0, .int .i64 a, .int .i64 b, .int .i64 c] : Array Value) else #[.int .i64 0, .int .i64 0, .int .i64 0, .int .i64 0, .int .i64 0, .int .i64 0, .int .i64 0, .int .i64 0, .int .i64 0, .int .i64 0, .int .i64 0, .int .i64 0, .int .i64 0, .int .i64 0, .int .i64 0, .int .i64 0, .int .i64 0, .slice none 0 0, .int .i64 0, .int .i64 0, .int .i64 0]) = #[.int .i64 (uu 0), .int .i64 (uu 1), .int .i64 (uu 2), .int .i64 (uu 3), .int .i64 (uu 4), .int .i64 (uu 5), .int .i64 (uu 6), .int .i64 (uu 7), .int .i64 (uu 8), .int .i64 (uu 9), .int .i64 (uu 10), .int .i64 (uu 11), .int .i64 (uu 12), .int .i64 (uu 13), .int .i64 (uu 14), .int .i64 (uu 15), .int .i64 (uu 16), .slice none 0 0, .int .i64 (uu 18), .int .i64 (uu 19), .int .i64 (uu 20)]) (hw : (Lit.int .i64 id).wf = true) : (Lit.int .i64 (uu 15)).wf = true := by
  have h15 := congrArg (fun c : Array Value => c[15]?) h
  cases kk
  · simp at h15; rw [← h15]; rfl
  · simp at h15; rw [← h15]; exact hw
/-- What a move leaves. -/
def AskedPost (lo : Nat) (id : Int) (w : World) (P : Nat) (x : Px) (p : Pst) (w' : World) : Prop :=
  ∃ x' f' p', PAt lo id w' P x' f' p' ∧ Inv id p' ∧ (WfM p.way → WfM p'.way) ∧ p'.way.length ≤ p.way.length + 1 ∧ p'.book.length ≤ p.book.length + 1 ∧ x'.nn ≤ x.nn + 1 ∧ p'.heard.length = p.heard.length ∧ (p'.ep ≤ p.ep + 1 ∧ p'.s.at_ < 1099511627776 ∧ p'.s.body.length ≤ 5000) ∧ Chg (fun k => lo ≤ k) w w'
set_option maxRecDepth 100000 in
set_option maxHeartbeats 16000000 in
theorem asked_any (lo : Nat) (id : Int) (w : World) (P : Nat) (x : Px) (f : Int → Kp) (p : Pst) (v : Nat → Int) (B : Option Addr) (nb cb : Nat) (well : Bool) (way0 : List Mg) (h : PAt lo id w P x f p) (hwi : (Lit.int .i64 id).wf = true) (hwf : (Lit.int .i64 (v 15)).wf = true)
    (hn1 : p.way.length ≤ 1000) (hn2 : p.book.length ≤ 1000) (hn3 : x.nn ≤ 1000) (hat : p.s.at_ < 1099511627776) (hbd : p.s.body.length ≤ 5000) (hi : Inv id { p with way := way0 }) (hm : (⟨v, B, nb, cb⟩ : Mg) ∈ way0) (hsub : ∀ y ∈ p.way, y ∈ way0) :
    Calls Try.prog 31 #[.pointer (some ⟨P, 0, none⟩), .agg #[.int .i64 (v 0), .int .i64 (v 1), .int .i64 (v 2), .int .i64 (v 3), .int .i64 (v 4), .int .i64 (v 5), .int .i64 (v 6), .int .i64 (v 7), .int .i64 (v 8), .int .i64 (v 9), .int .i64 (v 10), .int .i64 (v 11), .int .i64 (v 12), .int .i64 (v 13), .int .i64 (v 14), .int .i64 (v 15), .int .i64 (v 16), .slice B nb cb, .int .i64 (v 18), .int .i64 (v 19), .int .i64 (v 20)], .bool well] w fun e w' => e = .returned (.bool true) ∧ AskedPost lo id w P x p w' := by
  have HWF := Lib.hid hwf
  have HWI := Lib.hid hwi
  have HI := Lib.hid hi
  have HM := Lib.hid hm
  have HSUB := Lib.hid hsub
  clear hwf hwi hi hm hsub
  have HPB_0 := Lib.hid h.blk
  have HC_0 := Lib.hid h.cl
  have HS_0 := Lib.hid h.sv
  have HWAY_0 := Lib.hid h.way
  have HBOOK_0 := Lib.hid h.book
  have HHD_0 := Lib.hid h.hrd
  have HB_0 : Hid (Chg (fun k => lo ≤ k) w w) := Lib.hid (Chg.refl _ w)
  have HKF := Lib.hid h.kf
  have l1 := h.lc
  have l2 := h.lP
  have l3 := h.lH
  have l4 := h.lM
  obtain ⟨w0, rfl⟩ : ∃ y, y = w := ⟨_, rfl⟩
  obtain ⟨i36, hi, hz0, hz1, hz2⟩ := i36p
  obtain ⟨i3, hj, hk0, hk1, hk2⟩ := i3p
  have HI36 := Lib.hid hi
  have HI3 := Lib.hid hj
  have HZ36 : Hid (i36.zero = some (.agg #[.int .i64 0, .int .i64 0, .int .i64 0, .int .i64 0, .int .i64 0, .int .i64 0, .int .i64 0, .int .i64 0, .int .i64 0, .int .i64 0, .int .i64 0, .int .i64 0, .int .i64 0, .int .i64 0, .int .i64 0, .int .i64 0, .int .i64 0, .slice none 0 0, .int .i64 0, .int .i64 0, .int .i64 0])) := Lib.hid hz0
  have HZ3 := Lib.hid hk0
  have HY36 := Lib.hid hz1
  have HY3 := Lib.hid hk1
  have HX36 := Lib.hid hz2
  have HX3 := Lib.hid hk2
  clear hi hj hz0 hz1 hz2 hk0 hk1 hk2
  clear h
  go_enter Try.func31, Try.ntmps31
  obtain ⟨P4, hP4⟩ : ∃ x, x = w0.heap.size := ⟨_, rfl⟩
  have loP4 : lo ≤ P4 := (by have := ltb HPB_0.out; omega)
  obtain ⟨w1, hw1⟩ : ∃ y, y = w0.alloc (.cells #[.int .i64 (v 0), .int .i64 (v 1), .int .i64 (v 2), .int .i64 (v 3), .int .i64 (v 4), .int .i64 (v 5), .int .i64 (v 6), .int .i64 (v 7), .int .i64 (v 8), .int .i64 (v 9), .int .i64 (v 10), .int .i64 (v 11), .int .i64 (v 12), .int .i64 (v 13), .int .i64 (v 14), .int .i64 (v 15), .int .i64 (v 16), .slice B nb cb, .int .i64 (v 18), .int .i64 (v 19), .int .i64 (v 20)] 36) := ⟨_, rfl⟩
  have hal : Below w0.heap.size w0 w1 := by rw [hw1]; exact (Below.refl _ _).alloc (Nat.le_refl _) _
  have hnew : w1.heap[P4]? = some (.cells (mcv v (.slice B nb cb)) 36 (0, 0)) := by rw [hw1, hP4]; exact heap_alloc_new _ _
  have HNWAY_P4 : Hid ((.slice x.wA p.way.length x.wc : Value).ownBlock ≠ some P4) := Lib.hid (fun e => by have := (HWAY_0.out.lt _ e).2; omega)
  have HPB_1 : Hid (w1.heap[P]? = some (.cells #[.int .i64 id, .pointer (some ⟨x.gc, 0, none⟩), .pointer (some ⟨x.gs, 0, none⟩), .int .i64 p.ep, .slice x.wA p.way.length x.wc, .slice x.bA p.book.length x.bc, .int .i64 p.told, .int .i64 x.t1, .int .i64 x.t2, .slice ((some ⟨x.H, 0, none⟩)) p.heard.length p.heard.length] 54 (0, 0))) := Lib.hid ((hal.block P (ltb HPB_0.out)).trans HPB_0.out)
  have HC_1 : Hid (CAt w1 x.gc p.s x.cA x.cc) := Lib.hid (HC_0.out.below hal)
  have HS_1 : Hid (SAt w1 x.gs p.ep x.M x.nn f) := Lib.hid (HS_0.out.below hal)
  have HWAY_1 : Hid (w1.ownsRow (x.H + 1) 36 21 (.slice x.wA p.way.length x.wc) p.way.length (mgs p.way)) := Lib.hid ((Chg.of_below (S := fun _ => False) hal).own HWAY_0.out (fun _ _ h => h))
  have HBOOK_1 : Hid (w1.ownsRow (x.H + 1) 3 1 (.slice x.bA p.book.length x.bc) p.book.length (ints p.book)) := Lib.hid ((Chg.of_below (S := fun _ => False) hal).own HBOOK_0.out (fun _ _ h => h))
  have HHD_1 : Hid (w1.heap[x.H]? = some (.cells (ints p.heard).toArray 3 (0, 0))) := Lib.hid ((hal.block x.H (ltb HHD_0.out)).trans HHD_0.out)
  have HB_1 : Hid (Chg (fun k => lo ≤ k) w0 w1) := Lib.hid (HB_0.out.trans (Chg.of_below hal))
  clear hal HPB_0 HC_0 HS_0 HWAY_0 HBOOK_0 HHD_0 HB_0
  have HP4_1 := Lib.hid hnew
  clear hnew
  go_upto_region 1 with fail
  rw [← hw1]
  clear hw1
  rw [← hP4]
  clear hP4
  go_cut [7, 8] from 12 to 26 (fun s7 s8 wc => ∃ (xx : Int) (u : Nat → Int) (P8 : Nat), s7 = .int .i64 xx ∧ s8 = .pointer (some ⟨P8, 0, none⟩) ∧ lo ≤ P8 ∧ P4 < P8 ∧ Hid (LookSum p.ep (lookK (f (v 15)) (lastB p.book) p.told x.t1 x.t2) v u xx) ∧ Hid ((.slice x.wA p.way.length x.wc : Value).ownBlock ≠ some P8) ∧ Hid (wc.heap[P]? = some (.cells #[.int .i64 id, .pointer (some ⟨x.gc, 0, none⟩), .pointer (some ⟨x.gs, 0, none⟩), .int .i64 p.ep, .slice x.wA p.way.length x.wc, .slice x.bA p.book.length x.bc, .int .i64 p.told, .int .i64 x.t1, .int .i64 x.t2, .slice ((some ⟨x.H, 0, none⟩)) p.heard.length p.heard.length] 54 (0, 0))) ∧ Hid (CAt wc x.gc p.s x.cA x.cc) ∧ Hid (SAt wc x.gs p.ep x.M x.nn f) ∧ Hid (wc.ownsRow (x.H + 1) 36 21 (.slice x.wA p.way.length x.wc) p.way.length (mgs p.way)) ∧ Hid (wc.ownsRow (x.H + 1) 3 1 (.slice x.bA p.book.length x.bc) p.book.length (ints p.book)) ∧ Hid (wc.heap[x.H]? = some (.cells (ints p.heard).toArray 3 (0, 0))) ∧ Hid (Chg (fun k => lo ≤ k) w0 wc) ∧ Hid (wc.heap[P4]? = some (.cells (mcv v (.slice B nb cb)) 36 (0, 0))) ∧ Hid (wc.heap[P8]? = some (.cells (mcv u (.slice none 0 0)) 36 (0, 0))))
  case first =>
    have HPB_2 : Hid (w1.drew.heap[P]? = some (.cells #[.int .i64 id, .pointer (some ⟨x.gc, 0, none⟩), .pointer (some ⟨x.gs, 0, none⟩), .int .i64 p.ep, .slice x.wA p.way.length x.wc, .slice x.bA p.book.length x.bc, .int .i64 p.told, .int .i64 x.t1, .int .i64 x.t2, .slice ((some ⟨x.H, 0, none⟩)) p.heard.length p.heard.length] 54 (0, 0))) := Lib.hid ((((Below.refl w1.heap.size w1).drew).block P (ltb HPB_1.out)).trans HPB_1.out)
    have HC_2 : Hid (CAt w1.drew x.gc p.s x.cA x.cc) := Lib.hid (HC_1.out.below ((Below.refl w1.heap.size w1).drew))
    have HS_2 : Hid (SAt w1.drew x.gs p.ep x.M x.nn f) := Lib.hid (HS_1.out.below ((Below.refl w1.heap.size w1).drew))
    have HWAY_2 : Hid (w1.drew.ownsRow (x.H + 1) 36 21 (.slice x.wA p.way.length x.wc) p.way.length (mgs p.way)) := Lib.hid ((Chg.of_below (S := fun _ => False) ((Below.refl w1.heap.size w1).drew)).own HWAY_1.out (fun _ _ h => h))
    have HBOOK_2 : Hid (w1.drew.ownsRow (x.H + 1) 3 1 (.slice x.bA p.book.length x.bc) p.book.length (ints p.book)) := Lib.hid ((Chg.of_below (S := fun _ => False) ((Below.refl w1.heap.size w1).drew)).own HBOOK_1.out (fun _ _ h => h))
    have HHD_2 : Hid (w1.drew.heap[x.H]? = some (.cells (ints p.heard).toArray 3 (0, 0))) := Lib.hid ((((Below.refl w1.heap.size w1).drew).block x.H (ltb HHD_1.out)).trans HHD_1.out)
    have HB_2 : Hid (Chg (fun k => lo ≤ k) w0 w1.drew) := Lib.hid (HB_1.out.trans (Chg.of_below ((Below.refl w1.heap.size w1).drew)))
    have HP4_2 : Hid (w1.drew.heap[P4]? = some (.cells (mcv v (.slice B nb cb)) 36 (0, 0))) := Lib.hid ((((Below.refl w1.heap.size w1).drew).block P4 (ltb HP4_1.out)).trans HP4_1.out)
    clear HPB_1 HC_1 HS_1 HWAY_1 HBOOK_1 HHD_1 HB_1 HP4_1
    have FP : w1.drew.heap[P]? = some (.cells #[.int .i64 id, .pointer (some ⟨x.gc, 0, none⟩), .pointer (some ⟨x.gs, 0, none⟩), .int .i64 p.ep, .slice x.wA p.way.length x.wc, .slice x.bA p.book.length x.bc, .int .i64 p.told, .int .i64 x.t1, .int .i64 x.t2, .slice ((some ⟨x.H, 0, none⟩)) p.heard.length p.heard.length] 54 (0, 0)) := HPB_2.out
    have FP4 : w1.drew.heap[P4]? = some (.cells (mcv v (.slice B nb cb)) 36 (0, 0)) := HP4_2.out
    refine wp_region_noPanic ?_
    refine wp_region_held_drew (S := fun w' => w'.heap[P]? = some (.cells #[.int .i64 id, .pointer (some ⟨x.gc, 0, none⟩), .pointer (some ⟨x.gs, 0, none⟩), .int .i64 p.ep, .slice x.wA p.way.length x.wc, .slice x.bA p.book.length x.bc, .int .i64 p.told, .int .i64 x.t1, .int .i64 x.t2, .slice ((some ⟨x.H, 0, none⟩)) p.heard.length p.heard.length] 54 (0, 0)) ∧ w'.heap[P4]? = some (.cells (mcv v (.slice B nb cb)) 36 (0, 0))) (by kernel_rfl) ?_ (fun hHeld => ?_)
    · try dsimp only
      (refine ⟨?_, ?_⟩ <;> (first | with_reducible assumption))
    generalize w1.drew = w2 at *
    refine wpAnyH_take (i := 0) (v := ?_) (by (simp only [List.getElem?_toArray, List.getElem?_cons_zero]; rfl)) (by kernel_rfl) (by kernel_rfl) (by kernel_rfl) (fun _ _ _ h => h) (Or.inl ⟨by rfl, ?_⟩) (by assumption) ?_
    rotate_left
    · (intro w hSw; (try dsimp only at hSw); go_simp; try with_reducible rfl)
    try simp only [Act.put, List.setIfInBounds_toArray, List.set_cons_zero, List.set_cons_succ]
    refine wpAnyH_take (i := 1) (v := ?_) (by (simp only [List.getElem?_toArray, List.getElem?_cons_succ, List.getElem?_cons_zero]; rfl)) (by kernel_rfl) (by kernel_rfl) (by kernel_rfl) (fun _ _ _ h => h) (Or.inl ⟨by rfl, ?_⟩) (by assumption) ?_
    rotate_left
    · (intro w hSw; (try dsimp only at hSw); go_simp; try with_reducible rfl)
    try simp only [Act.put, List.setIfInBounds_toArray, List.set_cons_zero, List.set_cons_succ]
    refine wpAnyH_take (i := 2) (v := ?_) (by (simp only [List.getElem?_toArray, List.getElem?_cons_succ, List.getElem?_cons_zero]; rfl)) (by kernel_rfl) (by kernel_rfl) (by kernel_rfl) (fun _ _ _ h => h) (Or.inl ⟨by rfl, ?_⟩) (by assumption) ?_
    rotate_left
    · (intro w hSw; (try dsimp only at hSw); go_simp; try with_reducible rfl)
    try simp only [Act.put, List.setIfInBounds_toArray, List.set_cons_zero, List.set_cons_succ]
    refine wpAnyH_take (i := 3) (v := ?_) (by (simp only [List.getElem?_toArray, List.getElem?_cons_succ, List.getElem?_cons_zero]; rfl)) (by kernel_rfl) (by kernel_rfl) (by kernel_rfl) (fun _ _ _ h => h) (Or.inl ⟨by rfl, ?_⟩) (by assumption) ?_
    rotate_left
    · intro w hSw
      try dsimp only at hSw
      have x0 : w.cell? ⟨P, 2, none⟩ = some (.pointer (some ⟨x.gs, 0, none⟩)) := (cellb (i := 2) hSw.1 rfl)
      go_simp; try with_reducible rfl
    try simp only [Act.put, List.setIfInBounds_toArray, List.set_cons_zero, List.set_cons_succ]
    refine wpAnyH_take (i := 4) (v := ?_) (by (simp only [List.getElem?_toArray, List.getElem?_cons_succ, List.getElem?_cons_zero]; rfl)) (by kernel_rfl) (by kernel_rfl) (by kernel_rfl) (fun _ _ _ h => h) (Or.inl ⟨by rfl, ?_⟩) (by assumption) ?_
    rotate_left
    · intro w hSw
      try dsimp only at hSw
      refine take_load (x := .tmp 4) (ty := 36) ?_ P4 ?_ 36 #[.int .i64 (v 0), .int .i64 (v 1), .int .i64 (v 2), .int .i64 (v 3), .int .i64 (v 4), .int .i64 (v 5), .int .i64 (v 6), .int .i64 (v 7), .int .i64 (v 8), .int .i64 (v 9), .int .i64 (v 10), .int .i64 (v 11), .int .i64 (v 12), .int .i64 (v 13), .int .i64 (v 14), .int .i64 (v 15), .int .i64 (v 16), .slice B nb cb, .int .i64 (v 18), .int .i64 (v 19), .int .i64 (v 20)] (0, 0) _ hSw.2 Try.underlying36 rfl (by kernel_rfl)
      all_goals rfl
    try simp only [Act.put, List.setIfInBounds_toArray, List.set_cons_zero, List.set_cons_succ]
    refine wpAnyH_take (i := 5) (v := ?_) (by (simp only [List.getElem?_toArray, List.getElem?_cons_succ, List.getElem?_cons_zero]; rfl)) (by kernel_rfl) (by kernel_rfl) (by kernel_rfl) (fun _ _ _ h => h) (Or.inl ⟨by rfl, ?_⟩) (by assumption) ?_
    rotate_left
    · (intro w hSw; (try dsimp only at hSw); go_simp; try with_reducible rfl)
    try simp only [Act.put, List.setIfInBounds_toArray, List.set_cons_zero, List.set_cons_succ]
    refine wpAnyH_take (i := 7) (v := ?_) (by (simp only [List.getElem?_toArray, List.getElem?_cons_succ, List.getElem?_cons_zero]; rfl)) (by kernel_rfl) (by kernel_rfl) (by kernel_rfl) (fun _ _ _ h => h) (Or.inl ⟨by rfl, ?_⟩) (by assumption) ?_
    rotate_left
    · (intro w hSw; (try dsimp only at hSw); go_simp; try with_reducible rfl)
    try simp only [Act.put, List.setIfInBounds_toArray, List.set_cons_zero, List.set_cons_succ]
    refine wpAnyH_take (i := 8) (v := ?_) (by (simp only [List.getElem?_toArray, List.getElem?_cons_succ, List.getElem?_cons_zero]; rfl)) (by kernel_rfl) (by kernel_rfl) (by kernel_rfl) (fun _ _ _ h => h) (Or.inl ⟨by rfl, ?_⟩) (by assumption) ?_
    rotate_left
    · (intro w hSw; (try dsimp only at hSw); go_simp; try with_reducible rfl)
    try simp only [Act.put, List.setIfInBounds_toArray, List.set_cons_zero, List.set_cons_succ]
    refine wpAnyH_take (i := 9) (v := ?_) (by (simp only [List.getElem?_toArray, List.getElem?_cons_succ, List.getElem?_cons_zero]; rfl)) (by kernel_rfl) (by kernel_rfl) (by kernel_rfl) (fun _ _ _ h => h) (Or.inl ⟨by rfl, ?_⟩) (by assumption) ?_
    rotate_left
    · (intro w hSw; (try dsimp only at hSw); go_simp; try with_reducible rfl)
    try simp only [Act.put, List.setIfInBounds_toArray, List.set_cons_zero, List.set_cons_succ]
    refine wpAnyH_take (i := 10) (v := ?_) (by (simp only [List.getElem?_toArray, List.getElem?_cons_succ, List.getElem?_cons_zero]; rfl)) (by kernel_rfl) (by kernel_rfl) (by kernel_rfl) (fun _ _ _ h => h) (Or.inl ⟨by rfl, ?_⟩) (by assumption) ?_
    rotate_left
    · intro w hSw
      try dsimp only at hSw
      have x6 : w.cell? ⟨P, 6, none⟩ = some (.int .i64 p.told) := (cellb (i := 6) hSw.1 rfl)
      have x7 : w.cell? ⟨P, 7, none⟩ = some (.int .i64 x.t1) := (cellb (i := 7) hSw.1 rfl)
      have x8 : w.cell? ⟨P, 8, none⟩ = some (.int .i64 x.t2) := (cellb (i := 8) hSw.1 rfl)
      go_simp; try with_reducible rfl
    try simp only [Act.put, List.setIfInBounds_toArray, List.set_cons_zero, List.set_cons_succ]
    refine wpAnyH_ready (rs := [6, 15]) (by kernel_rfl) (by simp) ?_
    refine AllReadyH.cons (by (simp only [List.getElem?_toArray, List.getElem?_cons_succ, List.getElem?_cons_zero]; rfl)) (fun K hK => ?_) (AllReadyH.cons (by (simp only [List.getElem?_toArray, List.getElem?_cons_succ, List.getElem?_cons_zero]; rfl)) (fun K hK => ?_) AllReadyH.nil)
    · skip
      go_simp
      refine (last_any P id p.ep p.told x.t1 x.t2 x.gc x.gs x.H p.way.length x.wc p.book.length x.bc p.heard.length x.wA x.bA (x.H + 1) p.book w2 HPB_2.out HBOOK_2.out rfl).mono ?_
      rintro e w3 ⟨rfl, hb⟩
      have HPB_3 : Hid (w3.heap[P]? = some (.cells #[.int .i64 id, .pointer (some ⟨x.gc, 0, none⟩), .pointer (some ⟨x.gs, 0, none⟩), .int .i64 p.ep, .slice x.wA p.way.length x.wc, .slice x.bA p.book.length x.bc, .int .i64 p.told, .int .i64 x.t1, .int .i64 x.t2, .slice ((some ⟨x.H, 0, none⟩)) p.heard.length p.heard.length] 54 (0, 0))) := Lib.hid ((hb.block P (ltb HPB_2.out)).trans HPB_2.out)
      have HC_3 : Hid (CAt w3 x.gc p.s x.cA x.cc) := Lib.hid (HC_2.out.below hb)
      have HS_3 : Hid (SAt w3 x.gs p.ep x.M x.nn f) := Lib.hid (HS_2.out.below hb)
      have HWAY_3 : Hid (w3.ownsRow (x.H + 1) 36 21 (.slice x.wA p.way.length x.wc) p.way.length (mgs p.way)) := Lib.hid ((Chg.of_below (S := fun _ => False) hb).own HWAY_2.out (fun _ _ h => h))
      have HBOOK_3 : Hid (w3.ownsRow (x.H + 1) 3 1 (.slice x.bA p.book.length x.bc) p.book.length (ints p.book)) := Lib.hid ((Chg.of_below (S := fun _ => False) hb).own HBOOK_2.out (fun _ _ h => h))
      have HHD_3 : Hid (w3.heap[x.H]? = some (.cells (ints p.heard).toArray 3 (0, 0))) := Lib.hid ((hb.block x.H (ltb HHD_2.out)).trans HHD_2.out)
      have HB_3 : Hid (Chg (fun k => lo ≤ k) w0 w3) := Lib.hid (HB_2.out.trans (Chg.of_below hb))
      have HP4_3 : Hid (w3.heap[P4]? = some (.cells (mcv v (.slice B nb cb)) 36 (0, 0))) := Lib.hid ((hb.block P4 (ltb HP4_2.out)).trans HP4_2.out)
      clear hb HPB_2 HC_2 HS_2 HWAY_2 HBOOK_2 HHD_2 HB_2 HP4_2
      have FP' : w3.heap[P]? = some (.cells #[.int .i64 id, .pointer (some ⟨x.gc, 0, none⟩), .pointer (some ⟨x.gs, 0, none⟩), .int .i64 p.ep, .slice x.wA p.way.length x.wc, .slice x.bA p.book.length x.bc, .int .i64 p.told, .int .i64 x.t1, .int .i64 x.t2, .slice ((some ⟨x.H, 0, none⟩)) p.heard.length p.heard.length] 54 (0, 0)) := HPB_3.out
      have FP4' : w3.heap[P4]? = some (.cells (mcv v (.slice B nb cb)) 36 (0, 0)) := HP4_3.out
      clear FP FP4
      have FP := FP'
      clear FP'
      have FP4 := FP4'
      clear FP4'
      refine hK.out _ _ ?_ (fun hHeld => ?_)
      · try dsimp only
        (refine ⟨?_, ?_⟩ <;> (first | with_reducible assumption))
      clear hK K
      try simp only [Act.put, List.setIfInBounds_toArray, List.set_cons_zero, List.set_cons_succ]
      refine wpAnyH_ready (rs := [11, 15]) (by kernel_rfl) (by simp) ?_
      refine AllReadyH.cons (by (simp only [List.getElem?_toArray, List.getElem?_cons_succ, List.getElem?_cons_zero]; rfl)) (fun K hK => ?_) (AllReadyH.cons (by (simp only [List.getElem?_toArray, List.getElem?_cons_succ, List.getElem?_cons_zero]; rfl)) (fun K hK => ?_) AllReadyH.nil)
      · skip
        go_simp
        refine (look_both x.gs p.ep x.M x.nn f v B nb cb (lastB p.book) p.told x.t1 x.t2 w3 HS_3.out HWF.out).mono ?_
        rintro e w4 ⟨hp, hb⟩
        obtain ⟨xx, u, he, hsum⟩ := look_sum hp HWF.out
        have HLS := Lib.hid hsum
        unfold LForm at he
        subst he
        clear hp hsum
        have HPB_4 : Hid (w4.heap[P]? = some (.cells #[.int .i64 id, .pointer (some ⟨x.gc, 0, none⟩), .pointer (some ⟨x.gs, 0, none⟩), .int .i64 p.ep, .slice x.wA p.way.length x.wc, .slice x.bA p.book.length x.bc, .int .i64 p.told, .int .i64 x.t1, .int .i64 x.t2, .slice ((some ⟨x.H, 0, none⟩)) p.heard.length p.heard.length] 54 (0, 0))) := Lib.hid ((hb.block P (ltb HPB_3.out)).trans HPB_3.out)
        have HC_4 : Hid (CAt w4 x.gc p.s x.cA x.cc) := Lib.hid (HC_3.out.below hb)
        have HS_4 : Hid (SAt w4 x.gs p.ep x.M x.nn f) := Lib.hid (HS_3.out.below hb)
        have HWAY_4 : Hid (w4.ownsRow (x.H + 1) 36 21 (.slice x.wA p.way.length x.wc) p.way.length (mgs p.way)) := Lib.hid ((Chg.of_below (S := fun _ => False) hb).own HWAY_3.out (fun _ _ h => h))
        have HBOOK_4 : Hid (w4.ownsRow (x.H + 1) 3 1 (.slice x.bA p.book.length x.bc) p.book.length (ints p.book)) := Lib.hid ((Chg.of_below (S := fun _ => False) hb).own HBOOK_3.out (fun _ _ h => h))
        have HHD_4 : Hid (w4.heap[x.H]? = some (.cells (ints p.heard).toArray 3 (0, 0))) := Lib.hid ((hb.block x.H (ltb HHD_3.out)).trans HHD_3.out)
        have HB_4 : Hid (Chg (fun k => lo ≤ k) w0 w4) := Lib.hid (HB_3.out.trans (Chg.of_below hb))
        have HP4_4 : Hid (w4.heap[P4]? = some (.cells (mcv v (.slice B nb cb)) 36 (0, 0))) := Lib.hid ((hb.block P4 (ltb HP4_3.out)).trans HP4_3.out)
        clear hb HPB_3 HC_3 HS_3 HWAY_3 HBOOK_3 HHD_3 HB_3 HP4_3
        have FP' : w4.heap[P]? = some (.cells #[.int .i64 id, .pointer (some ⟨x.gc, 0, none⟩), .pointer (some ⟨x.gs, 0, none⟩), .int .i64 p.ep, .slice x.wA p.way.length x.wc, .slice x.bA p.book.length x.bc, .int .i64 p.told, .int .i64 x.t1, .int .i64 x.t2, .slice ((some ⟨x.H, 0, none⟩)) p.heard.length p.heard.length] 54 (0, 0)) := HPB_4.out
        have FP4' : w4.heap[P4]? = some (.cells (mcv v (.slice B nb cb)) 36 (0, 0)) := HP4_4.out
        clear FP FP4
        have FP := FP'
        clear FP'
        have FP4 := FP4'
        clear FP4'
        refine hK.out _ _ ?_ (fun hHeld => ?_)
        · try dsimp only
          (refine ⟨?_, ?_⟩ <;> (first | with_reducible assumption))
        clear hK K
        try simp only [Act.put, List.setIfInBounds_toArray, List.set_cons_zero, List.set_cons_succ]
        refine wpAnyH_take (i := 12) (v := ?_) (by (simp only [List.getElem?_toArray, List.getElem?_cons_succ, List.getElem?_cons_zero]; rfl)) (by kernel_rfl) (by kernel_rfl) (by kernel_rfl) (fun _ _ _ h => h) (Or.inl ⟨by rfl, ?_⟩) (by assumption) ?_
        rotate_left
        · (intro w hSw; (try dsimp only at hSw); go_simp; try with_reducible rfl)
        try simp only [Act.put, List.setIfInBounds_toArray, List.set_cons_zero, List.set_cons_succ]
        refine wpAnyH_take (i := 13) (v := ?_) (by (simp only [List.getElem?_toArray, List.getElem?_cons_succ, List.getElem?_cons_zero]; rfl)) (by kernel_rfl) (by kernel_rfl) (by kernel_rfl) (fun _ _ _ h => h) (Or.inl ⟨by rfl, ?_⟩) (by assumption) ?_
        rotate_left
        · (intro w hSw; (try dsimp only at hSw); go_simp; try with_reducible rfl)
        try simp only [Act.put, List.setIfInBounds_toArray, List.set_cons_zero, List.set_cons_succ]
        refine wpAnyH_take (i := 14) (v := ?_) (by (simp only [List.getElem?_toArray, List.getElem?_cons_succ, List.getElem?_cons_zero]; rfl)) (by kernel_rfl) (by kernel_rfl) (by kernel_rfl) (fun _ _ _ h => h) (Or.inl ⟨by rfl, ?_⟩) (by assumption) ?_
        rotate_left
        · (intro w hSw; (try dsimp only at hSw); go_simp; try with_reducible rfl)
        try simp only [Act.put, List.setIfInBounds_toArray, List.set_cons_zero, List.set_cons_succ]
        refine wpAnyH_ready (rs := [15]) (by kernel_rfl) (by simp) ?_
        refine AllReadyH.cons (by (simp only [List.getElem?_toArray, List.getElem?_cons_succ, List.getElem?_cons_zero]; rfl)) (fun K hK => ?_) AllReadyH.nil
        go_simp
        obtain ⟨P8, hP8⟩ : ∃ x, x = w4.heap.size := ⟨_, rfl⟩
        have loP8 : lo ≤ P8 := (by have := ltb HPB_4.out; omega)
        have oP8_P4 : P4 < P8 := (by have := ltb HP4_4.out; omega)
        obtain ⟨w5, hw2⟩ : ∃ y, y = w4.alloc (.cells #[.int .i64 0, .int .i64 0, .int .i64 0, .int .i64 0, .int .i64 0, .int .i64 0, .int .i64 0, .int .i64 0, .int .i64 0, .int .i64 0, .int .i64 0, .int .i64 0, .int .i64 0, .int .i64 0, .int .i64 0, .int .i64 0, .int .i64 0, .slice none 0 0, .int .i64 0, .int .i64 0, .int .i64 0] 36) := ⟨_, rfl⟩
        have hal : Below w4.heap.size w4 w5 := by rw [hw2]; exact (Below.refl _ _).alloc (Nat.le_refl _) _
        have hnew : w5.heap[P8]? = some (.cells (mcv (fun _ => 0) (.slice none 0 0)) 36 (0, 0)) := by rw [hw2, hP8]; exact heap_alloc_new _ _
        have HNWAY_P8 : Hid ((.slice x.wA p.way.length x.wc : Value).ownBlock ≠ some P8) := Lib.hid (fun e => by have := (HWAY_4.out.lt _ e).2; omega)
        have HPB_5 : Hid (w5.heap[P]? = some (.cells #[.int .i64 id, .pointer (some ⟨x.gc, 0, none⟩), .pointer (some ⟨x.gs, 0, none⟩), .int .i64 p.ep, .slice x.wA p.way.length x.wc, .slice x.bA p.book.length x.bc, .int .i64 p.told, .int .i64 x.t1, .int .i64 x.t2, .slice ((some ⟨x.H, 0, none⟩)) p.heard.length p.heard.length] 54 (0, 0))) := Lib.hid ((hal.block P (ltb HPB_4.out)).trans HPB_4.out)
        have HC_5 : Hid (CAt w5 x.gc p.s x.cA x.cc) := Lib.hid (HC_4.out.below hal)
        have HS_5 : Hid (SAt w5 x.gs p.ep x.M x.nn f) := Lib.hid (HS_4.out.below hal)
        have HWAY_5 : Hid (w5.ownsRow (x.H + 1) 36 21 (.slice x.wA p.way.length x.wc) p.way.length (mgs p.way)) := Lib.hid ((Chg.of_below (S := fun _ => False) hal).own HWAY_4.out (fun _ _ h => h))
        have HBOOK_5 : Hid (w5.ownsRow (x.H + 1) 3 1 (.slice x.bA p.book.length x.bc) p.book.length (ints p.book)) := Lib.hid ((Chg.of_below (S := fun _ => False) hal).own HBOOK_4.out (fun _ _ h => h))
        have HHD_5 : Hid (w5.heap[x.H]? = some (.cells (ints p.heard).toArray 3 (0, 0))) := Lib.hid ((hal.block x.H (ltb HHD_4.out)).trans HHD_4.out)
        have HB_5 : Hid (Chg (fun k => lo ≤ k) w0 w5) := Lib.hid (HB_4.out.trans (Chg.of_below hal))
        have HP4_5 : Hid (w5.heap[P4]? = some (.cells (mcv v (.slice B nb cb)) 36 (0, 0))) := Lib.hid ((hal.block P4 (ltb HP4_4.out)).trans HP4_4.out)
        clear hal HPB_4 HC_4 HS_4 HWAY_4 HBOOK_4 HHD_4 HB_4 HP4_4
        have HP8_5 := Lib.hid hnew
        clear hnew
        rw [← hw2]
        clear hw2
        rw [← hP8]
        clear hP8
        have FP' : w5.heap[P]? = some (.cells #[.int .i64 id, .pointer (some ⟨x.gc, 0, none⟩), .pointer (some ⟨x.gs, 0, none⟩), .int .i64 p.ep, .slice x.wA p.way.length x.wc, .slice x.bA p.book.length x.bc, .int .i64 p.told, .int .i64 x.t1, .int .i64 x.t2, .slice ((some ⟨x.H, 0, none⟩)) p.heard.length p.heard.length] 54 (0, 0)) := HPB_5.out
        have FP4' : w5.heap[P4]? = some (.cells (mcv v (.slice B nb cb)) 36 (0, 0)) := HP4_5.out
        clear FP FP4
        have FP := FP'
        clear FP'
        have FP4 := FP4'
        clear FP4'
        refine hK.out _ _ ?_ (fun hHeld => ?_)
        · try dsimp only
          (refine ⟨?_, ?_⟩ <;> (first | with_reducible assumption))
        clear hK K
        try simp only [Act.put, List.setIfInBounds_toArray, List.set_cons_zero, List.set_cons_succ]
        refine wpAnyH_take (i := 16) (v := ?_) (by (simp only [List.getElem?_toArray, List.getElem?_cons_succ, List.getElem?_cons_zero]; rfl)) (by kernel_rfl) (by kernel_rfl) (by kernel_rfl) (fun _ _ _ h => h) (Or.inl ⟨by rfl, ?_⟩) (by assumption) ?_
        rotate_left
        · (intro w hSw; (try dsimp only at hSw); go_simp; try with_reducible rfl)
        try simp only [Act.put, List.setIfInBounds_toArray, List.set_cons_zero, List.set_cons_succ]
        refine wpAnyH_ready (rs := [17]) (by kernel_rfl) (by simp) ?_
        refine AllReadyH.cons (by (simp only [List.getElem?_toArray, List.getElem?_cons_succ, List.getElem?_cons_zero]; rfl)) (fun K hK => ?_) AllReadyH.nil
        refine wp_store_row 36 (.tmp 8) (.tmp 26) rfl P8 _ rfl rfl 36 _ HP8_5.out (by kernel_rfl) rfl (by simp [Value.oneCell']) ?_
        obtain ⟨w6, hw3⟩ : ∃ y, y = w5.setRow P8 #[.int .i64 (u 0), .int .i64 (u 1), .int .i64 (u 2), .int .i64 (u 3), .int .i64 (u 4), .int .i64 (u 5), .int .i64 (u 6), .int .i64 (u 7), .int .i64 (u 8), .int .i64 (u 9), .int .i64 (u 10), .int .i64 (u 11), .int .i64 (u 12), .int .i64 (u 13), .int .i64 (u 14), .int .i64 (u 15), .int .i64 (u 16), .slice none 0 0, .int .i64 (u 18), .int .i64 (u 19), .int .i64 (u 20)] := ⟨_, rfl⟩
        have hch := Ch.ofRow HP8_5.out #[.int .i64 (u 0), .int .i64 (u 1), .int .i64 (u 2), .int .i64 (u 3), .int .i64 (u 4), .int .i64 (u 5), .int .i64 (u 6), .int .i64 (u 7), .int .i64 (u 8), .int .i64 (u 9), .int .i64 (u 10), .int .i64 (u 11), .int .i64 (u 12), .int .i64 (u 13), .int .i64 (u 14), .int .i64 (u 15), .int .i64 (u 16), .slice none 0 0, .int .i64 (u 18), .int .i64 (u 19), .int .i64 (u 20)]
        rw [← hw3] at hch
        have hnew : w6.heap[P8]? = some (.cells (mcv u (.slice none 0 0)) 36 (0, 0)) := by rw [hw3]; exact setRow_heap _ _ _ _ _ _ HP8_5.out
        have HPB_6 : Hid (w6.heap[P]? = some (.cells #[.int .i64 id, .pointer (some ⟨x.gc, 0, none⟩), .pointer (some ⟨x.gs, 0, none⟩), .int .i64 p.ep, .slice x.wA p.way.length x.wc, .slice x.bA p.book.length x.bc, .int .i64 p.told, .int .i64 x.t1, .int .i64 x.t2, .slice ((some ⟨x.H, 0, none⟩)) p.heard.length p.heard.length] 54 (0, 0))) := Lib.hid (hch.blk HPB_5.out (by show (54 + 1 : Nat) ≠ _; decide))
        have HC_6 : Hid (CAt w6 x.gc p.s x.cA x.cc) := Lib.hid (hch.cat HC_5.out (by decide) (by decide))
        have HS_6 : Hid (SAt w6 x.gs p.ep x.M x.nn f) := Lib.hid (hch.sat HS_5.out (by decide) (by decide))
        have HWAY_6 : Hid (w6.ownsRow (x.H + 1) 36 21 (.slice x.wA p.way.length x.wc) p.way.length (mgs p.way)) := Lib.hid (hch.chg.own HWAY_5.out (fun k hk e => HNWAY_P8.out (hk.trans e.symm)))
        have HBOOK_6 : Hid (w6.ownsRow (x.H + 1) 3 1 (.slice x.bA p.book.length x.bc) p.book.length (ints p.book)) := Lib.hid (hch.own HBOOK_5.out (by decide))
        have HHD_6 : Hid (w6.heap[x.H]? = some (.cells (ints p.heard).toArray 3 (0, 0))) := Lib.hid (hch.blk HHD_5.out (by show (3 + 1 : Nat) ≠ _; decide))
        have HB_6 : Hid (Chg (fun k => lo ≤ k) w0 w6) := Lib.hid (hch.low HB_5.out (fun k hk => by injection hk with hk; omega))
        have HP4_6 : Hid (w6.heap[P4]? = some (.cells (mcv v (.slice B nb cb)) 36 (0, 0))) := Lib.hid (hch.blkN HP4_5.out (by intro e; injection e with e; omega))
        clear hch HPB_5 HC_5 HS_5 HWAY_5 HBOOK_5 HHD_5 HB_5 HP4_5
        have HP8_6 := Lib.hid hnew
        clear hnew HP8_5
        rw [← hw3]
        clear hw3
        have FP' : w6.heap[P]? = some (.cells #[.int .i64 id, .pointer (some ⟨x.gc, 0, none⟩), .pointer (some ⟨x.gs, 0, none⟩), .int .i64 p.ep, .slice x.wA p.way.length x.wc, .slice x.bA p.book.length x.bc, .int .i64 p.told, .int .i64 x.t1, .int .i64 x.t2, .slice ((some ⟨x.H, 0, none⟩)) p.heard.length p.heard.length] 54 (0, 0)) := HPB_6.out
        have FP4' : w6.heap[P4]? = some (.cells (mcv v (.slice B nb cb)) 36 (0, 0)) := HP4_6.out
        clear FP FP4
        have FP := FP'
        clear FP'
        have FP4 := FP4'
        clear FP4'
        refine hK.out _ _ ?_ (fun hHeld => ?_)
        · try dsimp only
          (refine ⟨?_, ?_⟩ <;> (first | with_reducible assumption))
        clear hK K
        try simp only [Act.put]
        refine wpAnyH_done (by kernel_rfl) ?_ _
        refine NoPanic.normal ?_
        clear hHeld FP FP4
        go_wp2_with fail
        go_meet
        case rel => exact ⟨xx, u, P8, rfl, rfl, loP8, oP8_P4, HLS, HNWAY_P8, HPB_6, HC_6, HS_6, HWAY_6, HBOOK_6, HHD_6, HB_6, HP4_6, HP8_6⟩
      · skip
        go_simp
        obtain ⟨P8, hP8⟩ : ∃ x, x = w3.heap.size := ⟨_, rfl⟩
        have loP8 : lo ≤ P8 := (by have := ltb HPB_3.out; omega)
        have oP8_P4 : P4 < P8 := (by have := ltb HP4_3.out; omega)
        obtain ⟨w4, hw2⟩ : ∃ y, y = w3.alloc (.cells #[.int .i64 0, .int .i64 0, .int .i64 0, .int .i64 0, .int .i64 0, .int .i64 0, .int .i64 0, .int .i64 0, .int .i64 0, .int .i64 0, .int .i64 0, .int .i64 0, .int .i64 0, .int .i64 0, .int .i64 0, .int .i64 0, .int .i64 0, .slice none 0 0, .int .i64 0, .int .i64 0, .int .i64 0] 36) := ⟨_, rfl⟩
        have hal : Below w3.heap.size w3 w4 := by rw [hw2]; exact (Below.refl _ _).alloc (Nat.le_refl _) _
        have hnew : w4.heap[P8]? = some (.cells (mcv (fun _ => 0) (.slice none 0 0)) 36 (0, 0)) := by rw [hw2, hP8]; exact heap_alloc_new _ _
        have HNWAY_P8 : Hid ((.slice x.wA p.way.length x.wc : Value).ownBlock ≠ some P8) := Lib.hid (fun e => by have := (HWAY_3.out.lt _ e).2; omega)
        have HPB_4 : Hid (w4.heap[P]? = some (.cells #[.int .i64 id, .pointer (some ⟨x.gc, 0, none⟩), .pointer (some ⟨x.gs, 0, none⟩), .int .i64 p.ep, .slice x.wA p.way.length x.wc, .slice x.bA p.book.length x.bc, .int .i64 p.told, .int .i64 x.t1, .int .i64 x.t2, .slice ((some ⟨x.H, 0, none⟩)) p.heard.length p.heard.length] 54 (0, 0))) := Lib.hid ((hal.block P (ltb HPB_3.out)).trans HPB_3.out)
        have HC_4 : Hid (CAt w4 x.gc p.s x.cA x.cc) := Lib.hid (HC_3.out.below hal)
        have HS_4 : Hid (SAt w4 x.gs p.ep x.M x.nn f) := Lib.hid (HS_3.out.below hal)
        have HWAY_4 : Hid (w4.ownsRow (x.H + 1) 36 21 (.slice x.wA p.way.length x.wc) p.way.length (mgs p.way)) := Lib.hid ((Chg.of_below (S := fun _ => False) hal).own HWAY_3.out (fun _ _ h => h))
        have HBOOK_4 : Hid (w4.ownsRow (x.H + 1) 3 1 (.slice x.bA p.book.length x.bc) p.book.length (ints p.book)) := Lib.hid ((Chg.of_below (S := fun _ => False) hal).own HBOOK_3.out (fun _ _ h => h))
        have HHD_4 : Hid (w4.heap[x.H]? = some (.cells (ints p.heard).toArray 3 (0, 0))) := Lib.hid ((hal.block x.H (ltb HHD_3.out)).trans HHD_3.out)
        have HB_4 : Hid (Chg (fun k => lo ≤ k) w0 w4) := Lib.hid (HB_3.out.trans (Chg.of_below hal))
        have HP4_4 : Hid (w4.heap[P4]? = some (.cells (mcv v (.slice B nb cb)) 36 (0, 0))) := Lib.hid ((hal.block P4 (ltb HP4_3.out)).trans HP4_3.out)
        clear hal HPB_3 HC_3 HS_3 HWAY_3 HBOOK_3 HHD_3 HB_3 HP4_3
        have HP8_4 := Lib.hid hnew
        clear hnew
        rw [← hw2]
        clear hw2
        rw [← hP8]
        clear hP8
        have FP' : w4.heap[P]? = some (.cells #[.int .i64 id, .pointer (some ⟨x.gc, 0, none⟩), .pointer (some ⟨x.gs, 0, none⟩), .int .i64 p.ep, .slice x.wA p.way.length x.wc, .slice x.bA p.book.length x.bc, .int .i64 p.told, .int .i64 x.t1, .int .i64 x.t2, .slice ((some ⟨x.H, 0, none⟩)) p.heard.length p.heard.length] 54 (0, 0)) := HPB_4.out
        have FP4' : w4.heap[P4]? = some (.cells (mcv v (.slice B nb cb)) 36 (0, 0)) := HP4_4.out
        clear FP FP4
        have FP := FP'
        clear FP'
        have FP4 := FP4'
        clear FP4'
        refine hK.out _ _ ?_ (fun hHeld => ?_)
        · try dsimp only
          (refine ⟨?_, ?_⟩ <;> (first | with_reducible assumption))
        clear hK K
        try simp only [Act.put, List.setIfInBounds_toArray, List.set_cons_zero, List.set_cons_succ]
        refine wpAnyH_ready (rs := [11]) (by kernel_rfl) (by simp) ?_
        refine AllReadyH.cons (by (simp only [List.getElem?_toArray, List.getElem?_cons_succ, List.getElem?_cons_zero]; rfl)) (fun K hK => ?_) AllReadyH.nil
        go_simp
        refine (look_both x.gs p.ep x.M x.nn f v B nb cb (lastB p.book) p.told x.t1 x.t2 w4 HS_4.out HWF.out).mono ?_
        rintro e w5 ⟨hp, hb⟩
        obtain ⟨xx, u, he, hsum⟩ := look_sum hp HWF.out
        have HLS := Lib.hid hsum
        unfold LForm at he
        subst he
        clear hp hsum
        have HPB_5 : Hid (w5.heap[P]? = some (.cells #[.int .i64 id, .pointer (some ⟨x.gc, 0, none⟩), .pointer (some ⟨x.gs, 0, none⟩), .int .i64 p.ep, .slice x.wA p.way.length x.wc, .slice x.bA p.book.length x.bc, .int .i64 p.told, .int .i64 x.t1, .int .i64 x.t2, .slice ((some ⟨x.H, 0, none⟩)) p.heard.length p.heard.length] 54 (0, 0))) := Lib.hid ((hb.block P (ltb HPB_4.out)).trans HPB_4.out)
        have HC_5 : Hid (CAt w5 x.gc p.s x.cA x.cc) := Lib.hid (HC_4.out.below hb)
        have HS_5 : Hid (SAt w5 x.gs p.ep x.M x.nn f) := Lib.hid (HS_4.out.below hb)
        have HWAY_5 : Hid (w5.ownsRow (x.H + 1) 36 21 (.slice x.wA p.way.length x.wc) p.way.length (mgs p.way)) := Lib.hid ((Chg.of_below (S := fun _ => False) hb).own HWAY_4.out (fun _ _ h => h))
        have HBOOK_5 : Hid (w5.ownsRow (x.H + 1) 3 1 (.slice x.bA p.book.length x.bc) p.book.length (ints p.book)) := Lib.hid ((Chg.of_below (S := fun _ => False) hb).own HBOOK_4.out (fun _ _ h => h))
        have HHD_5 : Hid (w5.heap[x.H]? = some (.cells (ints p.heard).toArray 3 (0, 0))) := Lib.hid ((hb.block x.H (ltb HHD_4.out)).trans HHD_4.out)
        have HB_5 : Hid (Chg (fun k => lo ≤ k) w0 w5) := Lib.hid (HB_4.out.trans (Chg.of_below hb))
        have HP4_5 : Hid (w5.heap[P4]? = some (.cells (mcv v (.slice B nb cb)) 36 (0, 0))) := Lib.hid ((hb.block P4 (ltb HP4_4.out)).trans HP4_4.out)
        have HP8_5 : Hid (w5.heap[P8]? = some (.cells (mcv (fun _ => 0) (.slice none 0 0)) 36 (0, 0))) := Lib.hid ((hb.block P8 (ltb HP8_4.out)).trans HP8_4.out)
        clear hb HPB_4 HC_4 HS_4 HWAY_4 HBOOK_4 HHD_4 HB_4 HP4_4 HP8_4
        have FP' : w5.heap[P]? = some (.cells #[.int .i64 id, .pointer (some ⟨x.gc, 0, none⟩), .pointer (some ⟨x.gs, 0, none⟩), .int .i64 p.ep, .slice x.wA p.way.length x.wc, .slice x.bA p.book.length x.bc, .int .i64 p.told, .int .i64 x.t1, .int .i64 x.t2, .slice ((some ⟨x.H, 0, none⟩)) p.heard.length p.heard.length] 54 (0, 0)) := HPB_5.out
        have FP4' : w5.heap[P4]? = some (.cells (mcv v (.slice B nb cb)) 36 (0, 0)) := HP4_5.out
        clear FP FP4
        have FP := FP'
        clear FP'
        have FP4 := FP4'
        clear FP4'
        refine hK.out _ _ ?_ (fun hHeld => ?_)
        · try dsimp only
          (refine ⟨?_, ?_⟩ <;> (first | with_reducible assumption))
        clear hK K
        try simp only [Act.put, List.setIfInBounds_toArray, List.set_cons_zero, List.set_cons_succ]
        refine wpAnyH_take (i := 12) (v := ?_) (by (simp only [List.getElem?_toArray, List.getElem?_cons_succ, List.getElem?_cons_zero]; rfl)) (by kernel_rfl) (by kernel_rfl) (by kernel_rfl) (fun _ _ _ h => h) (Or.inl ⟨by rfl, ?_⟩) (by assumption) ?_
        rotate_left
        · (intro w hSw; (try dsimp only at hSw); go_simp; try with_reducible rfl)
        try simp only [Act.put, List.setIfInBounds_toArray, List.set_cons_zero, List.set_cons_succ]
        refine wpAnyH_take (i := 13) (v := ?_) (by (simp only [List.getElem?_toArray, List.getElem?_cons_succ, List.getElem?_cons_zero]; rfl)) (by kernel_rfl) (by kernel_rfl) (by kernel_rfl) (fun _ _ _ h => h) (Or.inl ⟨by rfl, ?_⟩) (by assumption) ?_
        rotate_left
        · (intro w hSw; (try dsimp only at hSw); go_simp; try with_reducible rfl)
        try simp only [Act.put, List.setIfInBounds_toArray, List.set_cons_zero, List.set_cons_succ]
        refine wpAnyH_take (i := 14) (v := ?_) (by (simp only [List.getElem?_toArray, List.getElem?_cons_succ, List.getElem?_cons_zero]; rfl)) (by kernel_rfl) (by kernel_rfl) (by kernel_rfl) (fun _ _ _ h => h) (Or.inl ⟨by rfl, ?_⟩) (by assumption) ?_
        rotate_left
        · (intro w hSw; (try dsimp only at hSw); go_simp; try with_reducible rfl)
        try simp only [Act.put, List.setIfInBounds_toArray, List.set_cons_zero, List.set_cons_succ]
        refine wpAnyH_take (i := 16) (v := ?_) (by (simp only [List.getElem?_toArray, List.getElem?_cons_succ, List.getElem?_cons_zero]; rfl)) (by kernel_rfl) (by kernel_rfl) (by kernel_rfl) (fun _ _ _ h => h) (Or.inl ⟨by rfl, ?_⟩) (by assumption) ?_
        rotate_left
        · (intro w hSw; (try dsimp only at hSw); go_simp; try with_reducible rfl)
        try simp only [Act.put, List.setIfInBounds_toArray, List.set_cons_zero, List.set_cons_succ]
        refine wpAnyH_ready (rs := [17]) (by kernel_rfl) (by simp) ?_
        refine AllReadyH.cons (by (simp only [List.getElem?_toArray, List.getElem?_cons_succ, List.getElem?_cons_zero]; rfl)) (fun K hK => ?_) AllReadyH.nil
        refine wp_store_row 36 (.tmp 8) (.tmp 26) rfl P8 _ rfl rfl 36 _ HP8_5.out (by kernel_rfl) rfl (by simp [Value.oneCell']) ?_
        obtain ⟨w6, hw4⟩ : ∃ y, y = w5.setRow P8 #[.int .i64 (u 0), .int .i64 (u 1), .int .i64 (u 2), .int .i64 (u 3), .int .i64 (u 4), .int .i64 (u 5), .int .i64 (u 6), .int .i64 (u 7), .int .i64 (u 8), .int .i64 (u 9), .int .i64 (u 10), .int .i64 (u 11), .int .i64 (u 12), .int .i64 (u 13), .int .i64 (u 14), .int .i64 (u 15), .int .i64 (u 16), .slice none 0 0, .int .i64 (u 18), .int .i64 (u 19), .int .i64 (u 20)] := ⟨_, rfl⟩
        have hch := Ch.ofRow HP8_5.out #[.int .i64 (u 0), .int .i64 (u 1), .int .i64 (u 2), .int .i64 (u 3), .int .i64 (u 4), .int .i64 (u 5), .int .i64 (u 6), .int .i64 (u 7), .int .i64 (u 8), .int .i64 (u 9), .int .i64 (u 10), .int .i64 (u 11), .int .i64 (u 12), .int .i64 (u 13), .int .i64 (u 14), .int .i64 (u 15), .int .i64 (u 16), .slice none 0 0, .int .i64 (u 18), .int .i64 (u 19), .int .i64 (u 20)]
        rw [← hw4] at hch
        have hnew : w6.heap[P8]? = some (.cells (mcv u (.slice none 0 0)) 36 (0, 0)) := by rw [hw4]; exact setRow_heap _ _ _ _ _ _ HP8_5.out
        have HPB_6 : Hid (w6.heap[P]? = some (.cells #[.int .i64 id, .pointer (some ⟨x.gc, 0, none⟩), .pointer (some ⟨x.gs, 0, none⟩), .int .i64 p.ep, .slice x.wA p.way.length x.wc, .slice x.bA p.book.length x.bc, .int .i64 p.told, .int .i64 x.t1, .int .i64 x.t2, .slice ((some ⟨x.H, 0, none⟩)) p.heard.length p.heard.length] 54 (0, 0))) := Lib.hid (hch.blk HPB_5.out (by show (54 + 1 : Nat) ≠ _; decide))
        have HC_6 : Hid (CAt w6 x.gc p.s x.cA x.cc) := Lib.hid (hch.cat HC_5.out (by decide) (by decide))
        have HS_6 : Hid (SAt w6 x.gs p.ep x.M x.nn f) := Lib.hid (hch.sat HS_5.out (by decide) (by decide))
        have HWAY_6 : Hid (w6.ownsRow (x.H + 1) 36 21 (.slice x.wA p.way.length x.wc) p.way.length (mgs p.way)) := Lib.hid (hch.chg.own HWAY_5.out (fun k hk e => HNWAY_P8.out (hk.trans e.symm)))
        have HBOOK_6 : Hid (w6.ownsRow (x.H + 1) 3 1 (.slice x.bA p.book.length x.bc) p.book.length (ints p.book)) := Lib.hid (hch.own HBOOK_5.out (by decide))
        have HHD_6 : Hid (w6.heap[x.H]? = some (.cells (ints p.heard).toArray 3 (0, 0))) := Lib.hid (hch.blk HHD_5.out (by show (3 + 1 : Nat) ≠ _; decide))
        have HB_6 : Hid (Chg (fun k => lo ≤ k) w0 w6) := Lib.hid (hch.low HB_5.out (fun k hk => by injection hk with hk; omega))
        have HP4_6 : Hid (w6.heap[P4]? = some (.cells (mcv v (.slice B nb cb)) 36 (0, 0))) := Lib.hid (hch.blkN HP4_5.out (by intro e; injection e with e; omega))
        clear hch HPB_5 HC_5 HS_5 HWAY_5 HBOOK_5 HHD_5 HB_5 HP4_5
        have HP8_6 := Lib.hid hnew
        clear hnew HP8_5
        rw [← hw4]
        clear hw4
        have FP' : w6.heap[P]? = some (.cells #[.int .i64 id, .pointer (some ⟨x.gc, 0, none⟩), .pointer (some ⟨x.gs, 0, none⟩), .int .i64 p.ep, .slice x.wA p.way.length x.wc, .slice x.bA p.book.length x.bc, .int .i64 p.told, .int .i64 x.t1, .int .i64 x.t2, .slice ((some ⟨x.H, 0, none⟩)) p.heard.length p.heard.length] 54 (0, 0)) := HPB_6.out
        have FP4' : w6.heap[P4]? = some (.cells (mcv v (.slice B nb cb)) 36 (0, 0)) := HP4_6.out
        clear FP FP4
        have FP := FP'
        clear FP'
        have FP4 := FP4'
        clear FP4'
        refine hK.out _ _ ?_ (fun hHeld => ?_)
        · try dsimp only
          (refine ⟨?_, ?_⟩ <;> (first | with_reducible assumption))
        clear hK K
        try simp only [Act.put]
        refine wpAnyH_done (by kernel_rfl) ?_ _
        refine NoPanic.normal ?_
        clear hHeld FP FP4
        go_wp2_with fail
        go_meet
        case rel => exact ⟨xx, u, P8, rfl, rfl, loP8, oP8_P4, HLS, HNWAY_P8, HPB_6, HC_6, HS_6, HWAY_6, HBOOK_6, HHD_6, HB_6, HP4_6, HP8_6⟩
    · skip
      go_simp
      obtain ⟨P8, hP8⟩ : ∃ x, x = w2.heap.size := ⟨_, rfl⟩
      have loP8 : lo ≤ P8 := (by have := ltb HPB_2.out; omega)
      have oP8_P4 : P4 < P8 := (by have := ltb HP4_2.out; omega)
      obtain ⟨w3, hw2⟩ : ∃ y, y = w2.alloc (.cells #[.int .i64 0, .int .i64 0, .int .i64 0, .int .i64 0, .int .i64 0, .int .i64 0, .int .i64 0, .int .i64 0, .int .i64 0, .int .i64 0, .int .i64 0, .int .i64 0, .int .i64 0, .int .i64 0, .int .i64 0, .int .i64 0, .int .i64 0, .slice none 0 0, .int .i64 0, .int .i64 0, .int .i64 0] 36) := ⟨_, rfl⟩
      have hal : Below w2.heap.size w2 w3 := by rw [hw2]; exact (Below.refl _ _).alloc (Nat.le_refl _) _
      have hnew : w3.heap[P8]? = some (.cells (mcv (fun _ => 0) (.slice none 0 0)) 36 (0, 0)) := by rw [hw2, hP8]; exact heap_alloc_new _ _
      have HNWAY_P8 : Hid ((.slice x.wA p.way.length x.wc : Value).ownBlock ≠ some P8) := Lib.hid (fun e => by have := (HWAY_2.out.lt _ e).2; omega)
      have HPB_3 : Hid (w3.heap[P]? = some (.cells #[.int .i64 id, .pointer (some ⟨x.gc, 0, none⟩), .pointer (some ⟨x.gs, 0, none⟩), .int .i64 p.ep, .slice x.wA p.way.length x.wc, .slice x.bA p.book.length x.bc, .int .i64 p.told, .int .i64 x.t1, .int .i64 x.t2, .slice ((some ⟨x.H, 0, none⟩)) p.heard.length p.heard.length] 54 (0, 0))) := Lib.hid ((hal.block P (ltb HPB_2.out)).trans HPB_2.out)
      have HC_3 : Hid (CAt w3 x.gc p.s x.cA x.cc) := Lib.hid (HC_2.out.below hal)
      have HS_3 : Hid (SAt w3 x.gs p.ep x.M x.nn f) := Lib.hid (HS_2.out.below hal)
      have HWAY_3 : Hid (w3.ownsRow (x.H + 1) 36 21 (.slice x.wA p.way.length x.wc) p.way.length (mgs p.way)) := Lib.hid ((Chg.of_below (S := fun _ => False) hal).own HWAY_2.out (fun _ _ h => h))
      have HBOOK_3 : Hid (w3.ownsRow (x.H + 1) 3 1 (.slice x.bA p.book.length x.bc) p.book.length (ints p.book)) := Lib.hid ((Chg.of_below (S := fun _ => False) hal).own HBOOK_2.out (fun _ _ h => h))
      have HHD_3 : Hid (w3.heap[x.H]? = some (.cells (ints p.heard).toArray 3 (0, 0))) := Lib.hid ((hal.block x.H (ltb HHD_2.out)).trans HHD_2.out)
      have HB_3 : Hid (Chg (fun k => lo ≤ k) w0 w3) := Lib.hid (HB_2.out.trans (Chg.of_below hal))
      have HP4_3 : Hid (w3.heap[P4]? = some (.cells (mcv v (.slice B nb cb)) 36 (0, 0))) := Lib.hid ((hal.block P4 (ltb HP4_2.out)).trans HP4_2.out)
      clear hal HPB_2 HC_2 HS_2 HWAY_2 HBOOK_2 HHD_2 HB_2 HP4_2
      have HP8_3 := Lib.hid hnew
      clear hnew
      rw [← hw2]
      clear hw2
      rw [← hP8]
      clear hP8
      have FP' : w3.heap[P]? = some (.cells #[.int .i64 id, .pointer (some ⟨x.gc, 0, none⟩), .pointer (some ⟨x.gs, 0, none⟩), .int .i64 p.ep, .slice x.wA p.way.length x.wc, .slice x.bA p.book.length x.bc, .int .i64 p.told, .int .i64 x.t1, .int .i64 x.t2, .slice ((some ⟨x.H, 0, none⟩)) p.heard.length p.heard.length] 54 (0, 0)) := HPB_3.out
      have FP4' : w3.heap[P4]? = some (.cells (mcv v (.slice B nb cb)) 36 (0, 0)) := HP4_3.out
      clear FP FP4
      have FP := FP'
      clear FP'
      have FP4 := FP4'
      clear FP4'
      refine hK.out _ _ ?_ (fun hHeld => ?_)
      · try dsimp only
        (refine ⟨?_, ?_⟩ <;> (first | with_reducible assumption))
      clear hK K
      try simp only [Act.put, List.setIfInBounds_toArray, List.set_cons_zero, List.set_cons_succ]
      refine wpAnyH_ready (rs := [6]) (by kernel_rfl) (by simp) ?_
      refine AllReadyH.cons (by (simp only [List.getElem?_toArray, List.getElem?_cons_succ, List.getElem?_cons_zero]; rfl)) (fun K hK => ?_) AllReadyH.nil
      go_simp
      refine (last_any P id p.ep p.told x.t1 x.t2 x.gc x.gs x.H p.way.length x.wc p.book.length x.bc p.heard.length x.wA x.bA (x.H + 1) p.book w3 HPB_3.out HBOOK_3.out rfl).mono ?_
      rintro e w4 ⟨rfl, hb⟩
      have HPB_4 : Hid (w4.heap[P]? = some (.cells #[.int .i64 id, .pointer (some ⟨x.gc, 0, none⟩), .pointer (some ⟨x.gs, 0, none⟩), .int .i64 p.ep, .slice x.wA p.way.length x.wc, .slice x.bA p.book.length x.bc, .int .i64 p.told, .int .i64 x.t1, .int .i64 x.t2, .slice ((some ⟨x.H, 0, none⟩)) p.heard.length p.heard.length] 54 (0, 0))) := Lib.hid ((hb.block P (ltb HPB_3.out)).trans HPB_3.out)
      have HC_4 : Hid (CAt w4 x.gc p.s x.cA x.cc) := Lib.hid (HC_3.out.below hb)
      have HS_4 : Hid (SAt w4 x.gs p.ep x.M x.nn f) := Lib.hid (HS_3.out.below hb)
      have HWAY_4 : Hid (w4.ownsRow (x.H + 1) 36 21 (.slice x.wA p.way.length x.wc) p.way.length (mgs p.way)) := Lib.hid ((Chg.of_below (S := fun _ => False) hb).own HWAY_3.out (fun _ _ h => h))
      have HBOOK_4 : Hid (w4.ownsRow (x.H + 1) 3 1 (.slice x.bA p.book.length x.bc) p.book.length (ints p.book)) := Lib.hid ((Chg.of_below (S := fun _ => False) hb).own HBOOK_3.out (fun _ _ h => h))
      have HHD_4 : Hid (w4.heap[x.H]? = some (.cells (ints p.heard).toArray 3 (0, 0))) := Lib.hid ((hb.block x.H (ltb HHD_3.out)).trans HHD_3.out)
      have HB_4 : Hid (Chg (fun k => lo ≤ k) w0 w4) := Lib.hid (HB_3.out.trans (Chg.of_below hb))
      have HP4_4 : Hid (w4.heap[P4]? = some (.cells (mcv v (.slice B nb cb)) 36 (0, 0))) := Lib.hid ((hb.block P4 (ltb HP4_3.out)).trans HP4_3.out)
      have HP8_4 : Hid (w4.heap[P8]? = some (.cells (mcv (fun _ => 0) (.slice none 0 0)) 36 (0, 0))) := Lib.hid ((hb.block P8 (ltb HP8_3.out)).trans HP8_3.out)
      clear hb HPB_3 HC_3 HS_3 HWAY_3 HBOOK_3 HHD_3 HB_3 HP4_3 HP8_3
      have FP' : w4.heap[P]? = some (.cells #[.int .i64 id, .pointer (some ⟨x.gc, 0, none⟩), .pointer (some ⟨x.gs, 0, none⟩), .int .i64 p.ep, .slice x.wA p.way.length x.wc, .slice x.bA p.book.length x.bc, .int .i64 p.told, .int .i64 x.t1, .int .i64 x.t2, .slice ((some ⟨x.H, 0, none⟩)) p.heard.length p.heard.length] 54 (0, 0)) := HPB_4.out
      have FP4' : w4.heap[P4]? = some (.cells (mcv v (.slice B nb cb)) 36 (0, 0)) := HP4_4.out
      clear FP FP4
      have FP := FP'
      clear FP'
      have FP4 := FP4'
      clear FP4'
      refine hK.out _ _ ?_ (fun hHeld => ?_)
      · try dsimp only
        (refine ⟨?_, ?_⟩ <;> (first | with_reducible assumption))
      clear hK K
      try simp only [Act.put, List.setIfInBounds_toArray, List.set_cons_zero, List.set_cons_succ]
      refine wpAnyH_ready (rs := [11]) (by kernel_rfl) (by simp) ?_
      refine AllReadyH.cons (by (simp only [List.getElem?_toArray, List.getElem?_cons_succ, List.getElem?_cons_zero]; rfl)) (fun K hK => ?_) AllReadyH.nil
      go_simp
      refine (look_both x.gs p.ep x.M x.nn f v B nb cb (lastB p.book) p.told x.t1 x.t2 w4 HS_4.out HWF.out).mono ?_
      rintro e w5 ⟨hp, hb⟩
      obtain ⟨xx, u, he, hsum⟩ := look_sum hp HWF.out
      have HLS := Lib.hid hsum
      unfold LForm at he
      subst he
      clear hp hsum
      have HPB_5 : Hid (w5.heap[P]? = some (.cells #[.int .i64 id, .pointer (some ⟨x.gc, 0, none⟩), .pointer (some ⟨x.gs, 0, none⟩), .int .i64 p.ep, .slice x.wA p.way.length x.wc, .slice x.bA p.book.length x.bc, .int .i64 p.told, .int .i64 x.t1, .int .i64 x.t2, .slice ((some ⟨x.H, 0, none⟩)) p.heard.length p.heard.length] 54 (0, 0))) := Lib.hid ((hb.block P (ltb HPB_4.out)).trans HPB_4.out)
      have HC_5 : Hid (CAt w5 x.gc p.s x.cA x.cc) := Lib.hid (HC_4.out.below hb)
      have HS_5 : Hid (SAt w5 x.gs p.ep x.M x.nn f) := Lib.hid (HS_4.out.below hb)
      have HWAY_5 : Hid (w5.ownsRow (x.H + 1) 36 21 (.slice x.wA p.way.length x.wc) p.way.length (mgs p.way)) := Lib.hid ((Chg.of_below (S := fun _ => False) hb).own HWAY_4.out (fun _ _ h => h))
      have HBOOK_5 : Hid (w5.ownsRow (x.H + 1) 3 1 (.slice x.bA p.book.length x.bc) p.book.length (ints p.book)) := Lib.hid ((Chg.of_below (S := fun _ => False) hb).own HBOOK_4.out (fun _ _ h => h))
      have HHD_5 : Hid (w5.heap[x.H]? = some (.cells (ints p.heard).toArray 3 (0, 0))) := Lib.hid ((hb.block x.H (ltb HHD_4.out)).trans HHD_4.out)
      have HB_5 : Hid (Chg (fun k => lo ≤ k) w0 w5) := Lib.hid (HB_4.out.trans (Chg.of_below hb))
      have HP4_5 : Hid (w5.heap[P4]? = some (.cells (mcv v (.slice B nb cb)) 36 (0, 0))) := Lib.hid ((hb.block P4 (ltb HP4_4.out)).trans HP4_4.out)
      have HP8_5 : Hid (w5.heap[P8]? = some (.cells (mcv (fun _ => 0) (.slice none 0 0)) 36 (0, 0))) := Lib.hid ((hb.block P8 (ltb HP8_4.out)).trans HP8_4.out)
      clear hb HPB_4 HC_4 HS_4 HWAY_4 HBOOK_4 HHD_4 HB_4 HP4_4 HP8_4
      have FP' : w5.heap[P]? = some (.cells #[.int .i64 id, .pointer (some ⟨x.gc, 0, none⟩), .pointer (some ⟨x.gs, 0, none⟩), .int .i64 p.ep, .slice x.wA p.way.length x.wc, .slice x.bA p.book.length x.bc, .int .i64 p.told, .int .i64 x.t1, .int .i64 x.t2, .slice ((some ⟨x.H, 0, none⟩)) p.heard.length p.heard.length] 54 (0, 0)) := HPB_5.out
      have FP4' : w5.heap[P4]? = some (.cells (mcv v (.slice B nb cb)) 36 (0, 0)) := HP4_5.out
      clear FP FP4
      have FP := FP'
      clear FP'
      have FP4 := FP4'
      clear FP4'
      refine hK.out _ _ ?_ (fun hHeld => ?_)
      · try dsimp only
        (refine ⟨?_, ?_⟩ <;> (first | with_reducible assumption))
      clear hK K
      try simp only [Act.put, List.setIfInBounds_toArray, List.set_cons_zero, List.set_cons_succ]
      refine wpAnyH_take (i := 12) (v := ?_) (by (simp only [List.getElem?_toArray, List.getElem?_cons_succ, List.getElem?_cons_zero]; rfl)) (by kernel_rfl) (by kernel_rfl) (by kernel_rfl) (fun _ _ _ h => h) (Or.inl ⟨by rfl, ?_⟩) (by assumption) ?_
      rotate_left
      · (intro w hSw; (try dsimp only at hSw); go_simp; try with_reducible rfl)
      try simp only [Act.put, List.setIfInBounds_toArray, List.set_cons_zero, List.set_cons_succ]
      refine wpAnyH_take (i := 13) (v := ?_) (by (simp only [List.getElem?_toArray, List.getElem?_cons_succ, List.getElem?_cons_zero]; rfl)) (by kernel_rfl) (by kernel_rfl) (by kernel_rfl) (fun _ _ _ h => h) (Or.inl ⟨by rfl, ?_⟩) (by assumption) ?_
      rotate_left
      · (intro w hSw; (try dsimp only at hSw); go_simp; try with_reducible rfl)
      try simp only [Act.put, List.setIfInBounds_toArray, List.set_cons_zero, List.set_cons_succ]
      refine wpAnyH_take (i := 14) (v := ?_) (by (simp only [List.getElem?_toArray, List.getElem?_cons_succ, List.getElem?_cons_zero]; rfl)) (by kernel_rfl) (by kernel_rfl) (by kernel_rfl) (fun _ _ _ h => h) (Or.inl ⟨by rfl, ?_⟩) (by assumption) ?_
      rotate_left
      · (intro w hSw; (try dsimp only at hSw); go_simp; try with_reducible rfl)
      try simp only [Act.put, List.setIfInBounds_toArray, List.set_cons_zero, List.set_cons_succ]
      refine wpAnyH_take (i := 16) (v := ?_) (by (simp only [List.getElem?_toArray, List.getElem?_cons_succ, List.getElem?_cons_zero]; rfl)) (by kernel_rfl) (by kernel_rfl) (by kernel_rfl) (fun _ _ _ h => h) (Or.inl ⟨by rfl, ?_⟩) (by assumption) ?_
      rotate_left
      · (intro w hSw; (try dsimp only at hSw); go_simp; try with_reducible rfl)
      try simp only [Act.put, List.setIfInBounds_toArray, List.set_cons_zero, List.set_cons_succ]
      refine wpAnyH_ready (rs := [17]) (by kernel_rfl) (by simp) ?_
      refine AllReadyH.cons (by (simp only [List.getElem?_toArray, List.getElem?_cons_succ, List.getElem?_cons_zero]; rfl)) (fun K hK => ?_) AllReadyH.nil
      refine wp_store_row 36 (.tmp 8) (.tmp 26) rfl P8 _ rfl rfl 36 _ HP8_5.out (by kernel_rfl) rfl (by simp [Value.oneCell']) ?_
      obtain ⟨w6, hw5⟩ : ∃ y, y = w5.setRow P8 #[.int .i64 (u 0), .int .i64 (u 1), .int .i64 (u 2), .int .i64 (u 3), .int .i64 (u 4), .int .i64 (u 5), .int .i64 (u 6), .int .i64 (u 7), .int .i64 (u 8), .int .i64 (u 9), .int .i64 (u 10), .int .i64 (u 11), .int .i64 (u 12), .int .i64 (u 13), .int .i64 (u 14), .int .i64 (u 15), .int .i64 (u 16), .slice none 0 0, .int .i64 (u 18), .int .i64 (u 19), .int .i64 (u 20)] := ⟨_, rfl⟩
      have hch := Ch.ofRow HP8_5.out #[.int .i64 (u 0), .int .i64 (u 1), .int .i64 (u 2), .int .i64 (u 3), .int .i64 (u 4), .int .i64 (u 5), .int .i64 (u 6), .int .i64 (u 7), .int .i64 (u 8), .int .i64 (u 9), .int .i64 (u 10), .int .i64 (u 11), .int .i64 (u 12), .int .i64 (u 13), .int .i64 (u 14), .int .i64 (u 15), .int .i64 (u 16), .slice none 0 0, .int .i64 (u 18), .int .i64 (u 19), .int .i64 (u 20)]
      rw [← hw5] at hch
      have hnew : w6.heap[P8]? = some (.cells (mcv u (.slice none 0 0)) 36 (0, 0)) := by rw [hw5]; exact setRow_heap _ _ _ _ _ _ HP8_5.out
      have HPB_6 : Hid (w6.heap[P]? = some (.cells #[.int .i64 id, .pointer (some ⟨x.gc, 0, none⟩), .pointer (some ⟨x.gs, 0, none⟩), .int .i64 p.ep, .slice x.wA p.way.length x.wc, .slice x.bA p.book.length x.bc, .int .i64 p.told, .int .i64 x.t1, .int .i64 x.t2, .slice ((some ⟨x.H, 0, none⟩)) p.heard.length p.heard.length] 54 (0, 0))) := Lib.hid (hch.blk HPB_5.out (by show (54 + 1 : Nat) ≠ _; decide))
      have HC_6 : Hid (CAt w6 x.gc p.s x.cA x.cc) := Lib.hid (hch.cat HC_5.out (by decide) (by decide))
      have HS_6 : Hid (SAt w6 x.gs p.ep x.M x.nn f) := Lib.hid (hch.sat HS_5.out (by decide) (by decide))
      have HWAY_6 : Hid (w6.ownsRow (x.H + 1) 36 21 (.slice x.wA p.way.length x.wc) p.way.length (mgs p.way)) := Lib.hid (hch.chg.own HWAY_5.out (fun k hk e => HNWAY_P8.out (hk.trans e.symm)))
      have HBOOK_6 : Hid (w6.ownsRow (x.H + 1) 3 1 (.slice x.bA p.book.length x.bc) p.book.length (ints p.book)) := Lib.hid (hch.own HBOOK_5.out (by decide))
      have HHD_6 : Hid (w6.heap[x.H]? = some (.cells (ints p.heard).toArray 3 (0, 0))) := Lib.hid (hch.blk HHD_5.out (by show (3 + 1 : Nat) ≠ _; decide))
      have HB_6 : Hid (Chg (fun k => lo ≤ k) w0 w6) := Lib.hid (hch.low HB_5.out (fun k hk => by injection hk with hk; omega))
      have HP4_6 : Hid (w6.heap[P4]? = some (.cells (mcv v (.slice B nb cb)) 36 (0, 0))) := Lib.hid (hch.blkN HP4_5.out (by intro e; injection e with e; omega))
      clear hch HPB_5 HC_5 HS_5 HWAY_5 HBOOK_5 HHD_5 HB_5 HP4_5
      have HP8_6 := Lib.hid hnew
      clear hnew HP8_5
      rw [← hw5]
      clear hw5
      have FP' : w6.heap[P]? = some (.cells #[.int .i64 id, .pointer (some ⟨x.gc, 0, none⟩), .pointer (some ⟨x.gs, 0, none⟩), .int .i64 p.ep, .slice x.wA p.way.length x.wc, .slice x.bA p.book.length x.bc, .int .i64 p.told, .int .i64 x.t1, .int .i64 x.t2, .slice ((some ⟨x.H, 0, none⟩)) p.heard.length p.heard.length] 54 (0, 0)) := HPB_6.out
      have FP4' : w6.heap[P4]? = some (.cells (mcv v (.slice B nb cb)) 36 (0, 0)) := HP4_6.out
      clear FP FP4
      have FP := FP'
      clear FP'
      have FP4 := FP4'
      clear FP4'
      refine hK.out _ _ ?_ (fun hHeld => ?_)
      · try dsimp only
        (refine ⟨?_, ?_⟩ <;> (first | with_reducible assumption))
      clear hK K
      try simp only [Act.put]
      refine wpAnyH_done (by kernel_rfl) ?_ _
      refine NoPanic.normal ?_
      clear hHeld FP FP4
      go_wp2_with fail
      go_meet
      case rel => exact ⟨xx, u, P8, rfl, rfl, loP8, oP8_P4, HLS, HNWAY_P8, HPB_6, HC_6, HS_6, HWAY_6, HBOOK_6, HHD_6, HB_6, HP4_6, HP8_6⟩
  case rest =>
  obtain ⟨w6, rfl⟩ : ∃ y : World, y = wc := ⟨_, rfl⟩
  obtain ⟨xx, u, P8, rfl, rfl, loP8, oP8_P4, HLS, HNWAY_P8, HPB_6, HC_6, HS_6, HWAY_6, HBOOK_6, HHD_6, HB_6, HP4_6, HP8_6⟩ := hcut
  rcases HLS.out.2.2.2 with rfl | rfl | rfl
  · skip
    go_wp2_with fail
    go_ret
    have hI := HI.out
    exact ⟨rfl, x, f, p, ⟨HPB_6.out, HC_6.out, HS_6.out, HWAY_6.out, HBOOK_6.out, HHD_6.out, HKF.out, l1, l2, l3, l4⟩, hI.fewer (way := p.way) HSUB.out, fun h => h, by omega, by omega, by omega, rfl, ⟨by omega, hat, hbd⟩, HB_6.out⟩
  · skip
    go_upto_region 3 with (fail)
    have HPB_7 : Hid (w6.drew.heap[P]? = some (.cells #[.int .i64 id, .pointer (some ⟨x.gc, 0, none⟩), .pointer (some ⟨x.gs, 0, none⟩), .int .i64 p.ep, .slice x.wA p.way.length x.wc, .slice x.bA p.book.length x.bc, .int .i64 p.told, .int .i64 x.t1, .int .i64 x.t2, .slice ((some ⟨x.H, 0, none⟩)) p.heard.length p.heard.length] 54 (0, 0))) := Lib.hid ((((Below.refl w6.heap.size w6).drew).block P (ltb HPB_6.out)).trans HPB_6.out)
    have HC_7 : Hid (CAt w6.drew x.gc p.s x.cA x.cc) := Lib.hid (HC_6.out.below ((Below.refl w6.heap.size w6).drew))
    have HS_7 : Hid (SAt w6.drew x.gs p.ep x.M x.nn f) := Lib.hid (HS_6.out.below ((Below.refl w6.heap.size w6).drew))
    have HWAY_7 : Hid (w6.drew.ownsRow (x.H + 1) 36 21 (.slice x.wA p.way.length x.wc) p.way.length (mgs p.way)) := Lib.hid ((Chg.of_below (S := fun _ => False) ((Below.refl w6.heap.size w6).drew)).own HWAY_6.out (fun _ _ h => h))
    have HBOOK_7 : Hid (w6.drew.ownsRow (x.H + 1) 3 1 (.slice x.bA p.book.length x.bc) p.book.length (ints p.book)) := Lib.hid ((Chg.of_below (S := fun _ => False) ((Below.refl w6.heap.size w6).drew)).own HBOOK_6.out (fun _ _ h => h))
    have HHD_7 : Hid (w6.drew.heap[x.H]? = some (.cells (ints p.heard).toArray 3 (0, 0))) := Lib.hid ((((Below.refl w6.heap.size w6).drew).block x.H (ltb HHD_6.out)).trans HHD_6.out)
    have HB_7 : Hid (Chg (fun k => lo ≤ k) w0 w6.drew) := Lib.hid (HB_6.out.trans (Chg.of_below ((Below.refl w6.heap.size w6).drew)))
    have HP4_7 : Hid (w6.drew.heap[P4]? = some (.cells (mcv v (.slice B nb cb)) 36 (0, 0))) := Lib.hid ((((Below.refl w6.heap.size w6).drew).block P4 (ltb HP4_6.out)).trans HP4_6.out)
    have HP8_7 : Hid (w6.drew.heap[P8]? = some (.cells (mcv u (.slice none 0 0)) 36 (0, 0))) := Lib.hid ((((Below.refl w6.heap.size w6).drew).block P8 (ltb HP8_6.out)).trans HP8_6.out)
    clear HPB_6 HC_6 HS_6 HWAY_6 HBOOK_6 HHD_6 HB_6 HP4_6 HP8_6
    have FP8 : w6.drew.heap[P8]? = some (.cells (mcv u (.slice none 0 0)) 36 (0, 0)) := HP8_7.out
    refine wp_region_noPanic ?_
    refine wp_region_held_drew (S := fun w' => w'.heap[P8]? = some (.cells (mcv u (.slice none 0 0)) 36 (0, 0))) (by kernel_rfl) ?_ (fun hHeld => ?_)
    · try dsimp only
      (refine ?_ <;> (first | with_reducible assumption))
    generalize w6.drew = w7 at *
    refine wpAnyH_take (i := 0) (v := ?_) (by (simp only [List.getElem?_toArray, List.getElem?_cons_zero]; rfl)) (by kernel_rfl) (by kernel_rfl) (by kernel_rfl) (fun _ _ _ h => h) (Or.inl ⟨by rfl, ?_⟩) (by assumption) ?_
    rotate_left
    · (intro w hSw; (try dsimp only at hSw); go_simp; try with_reducible rfl)
    try simp only [Act.put, List.setIfInBounds_toArray, List.set_cons_zero, List.set_cons_succ]
    refine wpAnyH_take (i := 1) (v := ?_) (by (simp only [List.getElem?_toArray, List.getElem?_cons_succ, List.getElem?_cons_zero]; rfl)) (by kernel_rfl) (by kernel_rfl) (by kernel_rfl) (fun _ _ _ h => h) (Or.inl ⟨by rfl, ?_⟩) (by assumption) ?_
    rotate_left
    · (intro w hSw; (try dsimp only at hSw); go_simp; try with_reducible rfl)
    try simp only [Act.put, List.setIfInBounds_toArray, List.set_cons_zero, List.set_cons_succ]
    refine wpAnyH_take (i := 2) (v := ?_) (by (simp only [List.getElem?_toArray, List.getElem?_cons_succ, List.getElem?_cons_zero]; rfl)) (by kernel_rfl) (by kernel_rfl) (by kernel_rfl) (fun _ _ _ h => h) (Or.inl ⟨by rfl, ?_⟩) (by assumption) ?_
    rotate_left
    · (intro w hSw; (try dsimp only at hSw); go_simp; try with_reducible rfl)
    try simp only [Act.put, List.setIfInBounds_toArray, List.set_cons_zero, List.set_cons_succ]
    refine wpAnyH_take (i := 3) (v := ?_) (by (simp only [List.getElem?_toArray, List.getElem?_cons_succ, List.getElem?_cons_zero]; rfl)) (by kernel_rfl) (by kernel_rfl) (by kernel_rfl) (fun _ _ _ h => h) (Or.inl ⟨by rfl, ?_⟩) (by assumption) ?_
    rotate_left
    · (intro w hSw; (try dsimp only at hSw); go_simp; try with_reducible rfl)
    try simp only [Act.put, List.setIfInBounds_toArray, List.set_cons_zero, List.set_cons_succ]
    refine wpAnyH_take (i := 5) (v := ?_) (by (simp only [List.getElem?_toArray, List.getElem?_cons_succ, List.getElem?_cons_zero]; rfl)) (by kernel_rfl) (by kernel_rfl) (by kernel_rfl) (fun _ _ _ h => h) (Or.inl ⟨by rfl, ?_⟩) (by assumption) ?_
    rotate_left
    · intro w hSw
      try dsimp only at hSw
      refine take_load (x := .tmp 8) (ty := 36) ?_ P8 ?_ 36 #[.int .i64 (u 0), .int .i64 (u 1), .int .i64 (u 2), .int .i64 (u 3), .int .i64 (u 4), .int .i64 (u 5), .int .i64 (u 6), .int .i64 (u 7), .int .i64 (u 8), .int .i64 (u 9), .int .i64 (u 10), .int .i64 (u 11), .int .i64 (u 12), .int .i64 (u 13), .int .i64 (u 14), .int .i64 (u 15), .int .i64 (u 16), .slice none 0 0, .int .i64 (u 18), .int .i64 (u 19), .int .i64 (u 20)] (0, 0) _ hSw Try.underlying36 rfl (by kernel_rfl)
      all_goals rfl
    try simp only [Act.put, List.setIfInBounds_toArray, List.set_cons_zero, List.set_cons_succ]
    apply cutC
    · intro hC
      refine wpAnyH_ready (rs := [4, 6]) (by kernel_rfl) (by simp) ?_
      refine AllReadyH.cons (by (simp only [List.getElem?_toArray, List.getElem?_cons_succ, List.getElem?_cons_zero]; rfl)) (fun K hK => ?_) (AllReadyH.cons (by (simp only [List.getElem?_toArray, List.getElem?_cons_succ, List.getElem?_cons_zero]; rfl)) (fun K hK => ?_) AllReadyH.nil)
      · have c0 : w7.cell? ⟨P, 4, none⟩ = some (.slice x.wA p.way.length x.wc) := cellb (i := 4) HPB_7.out rfl
        go_simp
        clear c0
        refine hK.out _ _ ?_ (fun hHeld => ?_)
        · try dsimp only
          (refine ?_ <;> (first | with_reducible assumption))
        clear hK K
        try simp only [Act.put, List.setIfInBounds_toArray, List.set_cons_zero, List.set_cons_succ]
        refine wpAnyH_ready (rs := [6]) (by kernel_rfl) (by simp) ?_
        refine AllReadyH.cons (by (simp only [List.getElem?_toArray, List.getElem?_cons_succ, List.getElem?_cons_zero]; rfl)) (fun K hK => ?_) AllReadyH.nil
        go_simp
        have GFP8 : (w7.alloc (.cells #[.int .i64 (u 0), .int .i64 (u 1), .int .i64 (u 2), .int .i64 (u 3), .int .i64 (u 4), .int .i64 (u 5), .int .i64 (u 6), .int .i64 (u 7), .int .i64 (u 8), .int .i64 (u 9), .int .i64 (u 10), .int .i64 (u 11), .int .i64 (u 12), .int .i64 (u 13), .int .i64 (u 14), .int .i64 (u 15), .int .i64 (u 16), .slice none 0 0, .int .i64 (u 18), .int .i64 (u 19), .int .i64 (u 20)] 36)).heap[P8]? = some (.cells (mcv u (.slice none 0 0)) 36 (0, 0)) := alloc_blk FP8
        refine hK.out _ _ ?_ (fun hHeld => ?_)
        · try dsimp only
          (refine ?_ <;> (first | with_reducible assumption))
        clear hK K
        try simp only [Act.put, List.setIfInBounds_toArray, List.set_cons_zero, List.set_cons_succ]
        exact hC.out
      · go_simp
        have GFP8 : (w7.alloc (.cells #[.int .i64 (u 0), .int .i64 (u 1), .int .i64 (u 2), .int .i64 (u 3), .int .i64 (u 4), .int .i64 (u 5), .int .i64 (u 6), .int .i64 (u 7), .int .i64 (u 8), .int .i64 (u 9), .int .i64 (u 10), .int .i64 (u 11), .int .i64 (u 12), .int .i64 (u 13), .int .i64 (u 14), .int .i64 (u 15), .int .i64 (u 16), .slice none 0 0, .int .i64 (u 18), .int .i64 (u 19), .int .i64 (u 20)] 36)).heap[P8]? = some (.cells (mcv u (.slice none 0 0)) 36 (0, 0)) := alloc_blk FP8
        refine hK.out _ _ ?_ (fun hHeld => ?_)
        · try dsimp only
          (refine ?_ <;> (first | with_reducible assumption))
        clear hK K
        try simp only [Act.put, List.setIfInBounds_toArray, List.set_cons_zero, List.set_cons_succ]
        refine wpAnyH_ready (rs := [4]) (by kernel_rfl) (by simp) ?_
        refine AllReadyH.cons (by (simp only [List.getElem?_toArray, List.getElem?_cons_succ, List.getElem?_cons_zero]; rfl)) (fun K hK => ?_) AllReadyH.nil
        have c0 : (w7.alloc (.cells #[.int .i64 (u 0), .int .i64 (u 1), .int .i64 (u 2), .int .i64 (u 3), .int .i64 (u 4), .int .i64 (u 5), .int .i64 (u 6), .int .i64 (u 7), .int .i64 (u 8), .int .i64 (u 9), .int .i64 (u 10), .int .i64 (u 11), .int .i64 (u 12), .int .i64 (u 13), .int .i64 (u 14), .int .i64 (u 15), .int .i64 (u 16), .slice none 0 0, .int .i64 (u 18), .int .i64 (u 19), .int .i64 (u 20)] 36)).cell? ⟨P, 4, none⟩ = some (.slice x.wA p.way.length x.wc) := keepA (cellb (i := 4) HPB_7.out rfl)
        go_simp
        clear c0
        refine hK.out _ _ ?_ (fun hHeld => ?_)
        · try dsimp only
          (refine ?_ <;> (first | with_reducible assumption))
        clear hK K
        try simp only [Act.put, List.setIfInBounds_toArray, List.set_cons_zero, List.set_cons_succ]
        exact hC.out
    obtain ⟨P35, hP35⟩ : ∃ x, x = w7.heap.size := ⟨_, rfl⟩
    have loP35 : lo ≤ P35 := (by have := ltb HPB_7.out; omega)
    have oP35_P4 : P4 < P35 := (by have := ltb HP4_7.out; omega)
    have oP35_P8 : P8 < P35 := (by have := ltb HP8_7.out; omega)
    obtain ⟨w8, hw6⟩ : ∃ y, y = w7.alloc (.cells #[.int .i64 (u 0), .int .i64 (u 1), .int .i64 (u 2), .int .i64 (u 3), .int .i64 (u 4), .int .i64 (u 5), .int .i64 (u 6), .int .i64 (u 7), .int .i64 (u 8), .int .i64 (u 9), .int .i64 (u 10), .int .i64 (u 11), .int .i64 (u 12), .int .i64 (u 13), .int .i64 (u 14), .int .i64 (u 15), .int .i64 (u 16), .slice none 0 0, .int .i64 (u 18), .int .i64 (u 19), .int .i64 (u 20)] 36) := ⟨_, rfl⟩
    have hal : Below w7.heap.size w7 w8 := by rw [hw6]; exact (Below.refl _ _).alloc (Nat.le_refl _) _
    have hnew : w8.heap[P35]? = some (.cells (mcv u (.slice none 0 0)) 36 (0, 0)) := by rw [hw6, hP35]; exact heap_alloc_new _ _
    have HNWAY_P35 : Hid ((.slice x.wA p.way.length x.wc : Value).ownBlock ≠ some P35) := Lib.hid (fun e => by have := (HWAY_7.out.lt _ e).2; omega)
    have HPB_8 : Hid (w8.heap[P]? = some (.cells #[.int .i64 id, .pointer (some ⟨x.gc, 0, none⟩), .pointer (some ⟨x.gs, 0, none⟩), .int .i64 p.ep, .slice x.wA p.way.length x.wc, .slice x.bA p.book.length x.bc, .int .i64 p.told, .int .i64 x.t1, .int .i64 x.t2, .slice ((some ⟨x.H, 0, none⟩)) p.heard.length p.heard.length] 54 (0, 0))) := Lib.hid ((hal.block P (ltb HPB_7.out)).trans HPB_7.out)
    have HC_8 : Hid (CAt w8 x.gc p.s x.cA x.cc) := Lib.hid (HC_7.out.below hal)
    have HS_8 : Hid (SAt w8 x.gs p.ep x.M x.nn f) := Lib.hid (HS_7.out.below hal)
    have HWAY_8 : Hid (w8.ownsRow (x.H + 1) 36 21 (.slice x.wA p.way.length x.wc) p.way.length (mgs p.way)) := Lib.hid ((Chg.of_below (S := fun _ => False) hal).own HWAY_7.out (fun _ _ h => h))
    have HBOOK_8 : Hid (w8.ownsRow (x.H + 1) 3 1 (.slice x.bA p.book.length x.bc) p.book.length (ints p.book)) := Lib.hid ((Chg.of_below (S := fun _ => False) hal).own HBOOK_7.out (fun _ _ h => h))
    have HHD_8 : Hid (w8.heap[x.H]? = some (.cells (ints p.heard).toArray 3 (0, 0))) := Lib.hid ((hal.block x.H (ltb HHD_7.out)).trans HHD_7.out)
    have HB_8 : Hid (Chg (fun k => lo ≤ k) w0 w8) := Lib.hid (HB_7.out.trans (Chg.of_below hal))
    have HP4_8 : Hid (w8.heap[P4]? = some (.cells (mcv v (.slice B nb cb)) 36 (0, 0))) := Lib.hid ((hal.block P4 (ltb HP4_7.out)).trans HP4_7.out)
    have HP8_8 : Hid (w8.heap[P8]? = some (.cells (mcv u (.slice none 0 0)) 36 (0, 0))) := Lib.hid ((hal.block P8 (ltb HP8_7.out)).trans HP8_7.out)
    clear hal HPB_7 HC_7 HS_7 HWAY_7 HBOOK_7 HHD_7 HB_7 HP4_7 HP8_7
    have HP35_8 := Lib.hid hnew
    clear hnew
    rw [← hw6]
    clear hw6
    rw [← hP35]
    clear hP35
    have FP8' : w8.heap[P8]? = some (.cells (mcv u (.slice none 0 0)) 36 (0, 0)) := HP8_8.out
    clear FP8
    have FP8 := FP8'
    clear FP8'
    have hHeld := True.intro
    refine wpAnyH_ready (rs := [7]) (by kernel_rfl) (by simp) ?_
    refine AllReadyH.cons (by (simp only [List.getElem?_toArray, List.getElem?_cons_succ, List.getElem?_cons_zero]; rfl)) (fun K hK => ?_) AllReadyH.nil
    refine step_append_row _ rfl (.tmp 33) (.tmp 35) _ rfl (x.H + 1) 36 i36 _ 21 184 Try.underlying52 HI36.out HZ36.out HY36.out HX36.out rfl (by omega) x.wA p.way.length x.wc (mgs p.way) rfl HWAY_8.out _ (some ⟨P35, 0, none⟩) 1 1 [.int .i64 (u 0), .int .i64 (u 1), .int .i64 (u 2), .int .i64 (u 3), .int .i64 (u 4), .int .i64 (u 5), .int .i64 (u 6), .int .i64 (u 7), .int .i64 (u 8), .int .i64 (u 9), .int .i64 (u 10), .int .i64 (u 11), .int .i64 (u 12), .int .i64 (u 13), .int .i64 (u 14), .int .i64 (u 15), .int .i64 (u 16), .slice none 0 0, .int .i64 (u 18), .int .i64 (u 19), .int .i64 (u 20)] rfl (cellsIn_blk HP35_8.out 21 1 rfl) (by simp [Value.oneCell']) (by unfold maxLen; omega) (by omega) (by have := ltb HHD_8.out; omega) ?_
    intro A7 c8 w9 hown hg hor
    have hch := Ch.ofOwn HWAY_8.out hg
    clear hg
    have HNWAY_P4' : Hid ((.slice A7 ((p.way.length + 1)) c8 : Value).ownBlock ≠ some P4) := Lib.hid (row_new2 HNWAY_P4.out hor (ltb HP4_8.out))
    have HNWAY_P8' : Hid ((.slice A7 ((p.way.length + 1)) c8 : Value).ownBlock ≠ some P8) := Lib.hid (row_new2 HNWAY_P8.out hor (ltb HP8_8.out))
    have HNWAY_P35' : Hid ((.slice A7 ((p.way.length + 1)) c8 : Value).ownBlock ≠ some P35) := Lib.hid (row_new2 HNWAY_P35.out hor (ltb HP35_8.out))
    clear HNWAY_P35'
    have HPB_9 : Hid (w9.heap[P]? = some (.cells #[.int .i64 id, .pointer (some ⟨x.gc, 0, none⟩), .pointer (some ⟨x.gs, 0, none⟩), .int .i64 p.ep, .slice x.wA p.way.length x.wc, .slice x.bA p.book.length x.bc, .int .i64 p.told, .int .i64 x.t1, .int .i64 x.t2, .slice ((some ⟨x.H, 0, none⟩)) p.heard.length p.heard.length] 54 (0, 0))) := Lib.hid (hch.blk HPB_8.out (by show (54 + 1 : Nat) ≠ _; decide))
    have HC_9 : Hid (CAt w9 x.gc p.s x.cA x.cc) := Lib.hid (hch.cat HC_8.out (by decide) (by decide))
    have HS_9 : Hid (SAt w9 x.gs p.ep x.M x.nn f) := Lib.hid (hch.sat HS_8.out (by decide) (by decide))
    have HBOOK_9 : Hid (w9.ownsRow (x.H + 1) 3 1 (.slice x.bA p.book.length x.bc) p.book.length (ints p.book)) := Lib.hid (hch.own HBOOK_8.out (by decide))
    have HHD_9 : Hid (w9.heap[x.H]? = some (.cells (ints p.heard).toArray 3 (0, 0))) := Lib.hid (hch.blk HHD_8.out (by show (3 + 1 : Nat) ≠ _; decide))
    have HB_9 : Hid (Chg (fun k => lo ≤ k) w0 w9) := Lib.hid (hch.low HB_8.out (fun k hk => by have := own_lowk HWAY_8.out k hk; omega))
    have HP4_9 : Hid (w9.heap[P4]? = some (.cells (mcv v (.slice B nb cb)) 36 (0, 0))) := Lib.hid (hch.blkN HP4_8.out HNWAY_P4.out)
    have HP8_9 : Hid (w9.heap[P8]? = some (.cells (mcv u (.slice none 0 0)) 36 (0, 0))) := Lib.hid (hch.blkN HP8_8.out HNWAY_P8.out)
    clear hch HPB_8 HC_8 HS_8 HBOOK_8 HHD_8 HB_8 HP4_8 HP8_8 HP35_8
    clear HNWAY_P4
    clear HNWAY_P8
    clear HNWAY_P35
    clear hor
    have HWAY_9 : Hid (w9.ownsRow (x.H + 1) 36 21 (.slice A7 ((p.way.length + 1)) c8) (p.way.length + 1) ((mgs p.way) ++ [.int .i64 (u 0), .int .i64 (u 1), .int .i64 (u 2), .int .i64 (u 3), .int .i64 (u 4), .int .i64 (u 5), .int .i64 (u 6), .int .i64 (u 7), .int .i64 (u 8), .int .i64 (u 9), .int .i64 (u 10), .int .i64 (u 11), .int .i64 (u 12), .int .i64 (u 13), .int .i64 (u 14), .int .i64 (u 15), .int .i64 (u 16), .slice none 0 0, .int .i64 (u 18), .int .i64 (u 19), .int .i64 (u 20)])) := Lib.hid hown
    clear hown HWAY_8
    have FP8' : w9.heap[P8]? = some (.cells (mcv u (.slice none 0 0)) 36 (0, 0)) := HP8_9.out
    clear FP8
    have FP8 := FP8'
    clear FP8'
    refine hK.out _ _ ?_ (fun hHeld => ?_)
    · try dsimp only
      (refine ?_ <;> (first | with_reducible assumption))
    clear hK K
    try simp only [Act.put, List.setIfInBounds_toArray, List.set_cons_zero, List.set_cons_succ]
    refine wpAnyH_take (i := 8) (v := ?_) (by (simp only [List.getElem?_toArray, List.getElem?_cons_succ, List.getElem?_cons_zero]; rfl)) (by kernel_rfl) (by kernel_rfl) (by kernel_rfl) (fun _ _ _ h => h) (Or.inl ⟨by rfl, ?_⟩) (by assumption) ?_
    rotate_left
    · (intro w hSw; (try dsimp only at hSw); go_simp; try with_reducible rfl)
    try simp only [Act.put, List.setIfInBounds_toArray, List.set_cons_zero, List.set_cons_succ]
    refine wpAnyH_take (i := 9) (v := ?_) (by (simp only [List.getElem?_toArray, List.getElem?_cons_succ, List.getElem?_cons_zero]; rfl)) (by kernel_rfl) (by kernel_rfl) (by kernel_rfl) (fun _ _ _ h => h) (Or.inl ⟨by rfl, ?_⟩) (by assumption) ?_
    rotate_left
    · (intro w hSw; (try dsimp only at hSw); go_simp; try with_reducible rfl)
    try simp only [Act.put, List.setIfInBounds_toArray, List.set_cons_zero, List.set_cons_succ]
    refine wpAnyH_ready (rs := [10]) (by kernel_rfl) (by simp) ?_
    refine AllReadyH.cons (by (simp only [List.getElem?_toArray, List.getElem?_cons_succ, List.getElem?_cons_zero]; rfl)) (fun K hK => ?_) AllReadyH.nil
    have c0 : w9.cell? ⟨P, 4, none⟩ = some (.slice x.wA p.way.length x.wc) := cellb (i := 4) HPB_9.out rfl
    have f0 : w9.frozen? ⟨P, 4, none⟩ = false := fzb HPB_9.out 4
    go_simp
    clear c0 f0
    obtain ⟨w10, hw9⟩ : ∃ y, y = w9.setCell ⟨P, 4, none⟩ (.slice A7 ((p.way.length + 1)) c8) := ⟨_, rfl⟩
    have hch := Ch.ofCell (i := 4) HPB_9.out (.slice A7 ((p.way.length + 1)) c8)
    rw [← hw9] at hch
    have hnew : w10.heap[P]? = some (.cells #[.int .i64 id, .pointer (some ⟨x.gc, 0, none⟩), .pointer (some ⟨x.gs, 0, none⟩), .int .i64 p.ep, .slice A7 ((p.way.length + 1)) c8, .slice x.bA p.book.length x.bc, .int .i64 p.told, .int .i64 x.t1, .int .i64 x.t2, .slice ((some ⟨x.H, 0, none⟩)) p.heard.length p.heard.length] 54 (0, 0)) := by rw [hw9]; exact set_blk HPB_9.out _
    have HC_10 : Hid (CAt w10 x.gc p.s x.cA x.cc) := Lib.hid (hch.cat HC_9.out (by decide) (by decide))
    have HS_10 : Hid (SAt w10 x.gs p.ep x.M x.nn f) := Lib.hid (hch.sat HS_9.out (by decide) (by decide))
    have HBOOK_10 : Hid (w10.ownsRow (x.H + 1) 3 1 (.slice x.bA p.book.length x.bc) p.book.length (ints p.book)) := Lib.hid (hch.own HBOOK_9.out (by decide))
    have HHD_10 : Hid (w10.heap[x.H]? = some (.cells (ints p.heard).toArray 3 (0, 0))) := Lib.hid (hch.blk HHD_9.out (by show (3 + 1 : Nat) ≠ _; decide))
    have HB_10 : Hid (Chg (fun k => lo ≤ k) w0 w10) := Lib.hid (hch.low HB_9.out (fun k hk => by injection hk with hk; omega))
    have HP4_10 : Hid (w10.heap[P4]? = some (.cells (mcv v (.slice B nb cb)) 36 (0, 0))) := Lib.hid (hch.blk HP4_9.out (by show (36 + 1 : Nat) ≠ _; decide))
    have HP8_10 : Hid (w10.heap[P8]? = some (.cells (mcv u (.slice none 0 0)) 36 (0, 0))) := Lib.hid (hch.blk HP8_9.out (by show (36 + 1 : Nat) ≠ _; decide))
    have HWAY_10 : Hid (w10.ownsRow (x.H + 1) 36 21 (.slice A7 ((p.way.length + 1)) c8) (p.way.length + 1) ((mgs p.way) ++ [.int .i64 (u 0), .int .i64 (u 1), .int .i64 (u 2), .int .i64 (u 3), .int .i64 (u 4), .int .i64 (u 5), .int .i64 (u 6), .int .i64 (u 7), .int .i64 (u 8), .int .i64 (u 9), .int .i64 (u 10), .int .i64 (u 11), .int .i64 (u 12), .int .i64 (u 13), .int .i64 (u 14), .int .i64 (u 15), .int .i64 (u 16), .slice none 0 0, .int .i64 (u 18), .int .i64 (u 19), .int .i64 (u 20)])) := Lib.hid (hch.own HWAY_9.out (by decide))
    clear hch HC_9 HS_9 HBOOK_9 HHD_9 HB_9 HP4_9 HP8_9 HWAY_9
    have HPB_10 := Lib.hid hnew
    clear hnew HPB_9
    rw [← hw9]
    clear hw9
    have FP8' : w10.heap[P8]? = some (.cells (mcv u (.slice none 0 0)) 36 (0, 0)) := HP8_10.out
    clear FP8
    have FP8 := FP8'
    clear FP8'
    refine hK.out _ _ ?_ (fun hHeld => ?_)
    · try dsimp only
      (refine ?_ <;> (first | with_reducible assumption))
    clear hK K
    try simp only [Act.put]
    refine wpAnyH_done (by kernel_rfl) ?_ _
    refine NoPanic.normal ?_
    clear hHeld FP8
    go_wp2_with fail
    go_ret
    have hI := HI.out
    have e : (p.way ++ [(⟨u, none, 0, 0⟩ : Mg)]).length = p.way.length + 1 := by simp
    have hP : w10.heap[P]? = some (.cells #[.int .i64 id, .pointer (some ⟨x.gc, 0, none⟩), .pointer (some ⟨x.gs, 0, none⟩), .int .i64 p.ep, .slice A7 ((p.way ++ [(⟨u, none, 0, 0⟩ : Mg)]).length) c8, .slice x.bA p.book.length x.bc, .int .i64 p.told, .int .i64 x.t1, .int .i64 x.t2, .slice ((some ⟨x.H, 0, none⟩)) p.heard.length p.heard.length] 54 (0, 0)) := by rw [e]; exact HPB_10.out
    have hR : w10.ownsRow (x.H + 1) 36 21 (.slice A7 (p.way ++ [(⟨u, none, 0, 0⟩ : Mg)]).length c8) (p.way ++ [(⟨u, none, 0, 0⟩ : Mg)]).length (mgs (p.way ++ [⟨u, none, 0, 0⟩])) := by rw [e, mgs_snoc]; exact HWAY_10.out
    have h7 := (HLS.out.2.2.1 rfl).1
    have hr := look_rep (t1 := x.t1) (t2 := x.t2) (v := v) (u := u) hI (by
      have h15 := (hI.asks _ HM.out h7).1
      have h := HLS.out
      rw [show v 15 = id from h15, ← HKF.out] at h
      exact h) (hI.asks _ HM.out h7).2.1 none 0 0
    refine ⟨rfl, { x with wA := A7, wc := c8 }, f, { p with way := p.way ++ [⟨u, none, 0, 0⟩] }, ⟨hP, HC_10.out, HS_10.out, hR, HBOOK_10.out, HHD_10.out, HKF.out, l1, l2, l3, l4⟩, (hI.fewer (way := p.way) HSUB.out).more (m := ⟨u, none, 0, 0⟩) hr.2 hr.1, fun h m hm => ?_, by rw [e]; omega, by simp, by simp, rfl, ⟨by show p.ep ≤ p.ep + 1; omega, hat, hbd⟩, HB_10.out⟩
    rcases List.mem_append.1 hm with h2 | h2
    · exact h m h2
    · rw [List.mem_singleton.1 h2]; exact HLS.out.1
  · skip
    have HDO := Lib.hid (HLS.out.2.1 rfl)
    obtain ⟨P9, hP9⟩ : ∃ x, x = w6.heap.size := ⟨_, rfl⟩
    have loP9 : lo ≤ P9 := (by have := ltb HPB_6.out; omega)
    obtain ⟨w7, hw10⟩ : ∃ y, y = w6.alloc (.cells #[.int .i64 140, .int .i64 0, .int .i64 0] 34) := ⟨_, rfl⟩
    have hal : Below w6.heap.size w6 w7 := by rw [hw10]; exact (Below.refl _ _).alloc (Nat.le_refl _) _
    have hnew : w7.heap[P9]? = some (.cells #[.int .i64 140, .int .i64 0, .int .i64 0] 34 (0, 0)) := by rw [hw10, hP9]; exact heap_alloc_new _ _
    have HPB_7 : Hid (w7.heap[P]? = some (.cells #[.int .i64 id, .pointer (some ⟨x.gc, 0, none⟩), .pointer (some ⟨x.gs, 0, none⟩), .int .i64 p.ep, .slice x.wA p.way.length x.wc, .slice x.bA p.book.length x.bc, .int .i64 p.told, .int .i64 x.t1, .int .i64 x.t2, .slice ((some ⟨x.H, 0, none⟩)) p.heard.length p.heard.length] 54 (0, 0))) := Lib.hid ((hal.block P (ltb HPB_6.out)).trans HPB_6.out)
    have HC_7 : Hid (CAt w7 x.gc p.s x.cA x.cc) := Lib.hid (HC_6.out.below hal)
    have HS_7 : Hid (SAt w7 x.gs p.ep x.M x.nn f) := Lib.hid (HS_6.out.below hal)
    have HWAY_7 : Hid (w7.ownsRow (x.H + 1) 36 21 (.slice x.wA p.way.length x.wc) p.way.length (mgs p.way)) := Lib.hid ((Chg.of_below (S := fun _ => False) hal).own HWAY_6.out (fun _ _ h => h))
    have HBOOK_7 : Hid (w7.ownsRow (x.H + 1) 3 1 (.slice x.bA p.book.length x.bc) p.book.length (ints p.book)) := Lib.hid ((Chg.of_below (S := fun _ => False) hal).own HBOOK_6.out (fun _ _ h => h))
    have HHD_7 : Hid (w7.heap[x.H]? = some (.cells (ints p.heard).toArray 3 (0, 0))) := Lib.hid ((hal.block x.H (ltb HHD_6.out)).trans HHD_6.out)
    have HB_7 : Hid (Chg (fun k => lo ≤ k) w0 w7) := Lib.hid (HB_6.out.trans (Chg.of_below hal))
    have HP4_7 : Hid (w7.heap[P4]? = some (.cells (mcv v (.slice B nb cb)) 36 (0, 0))) := Lib.hid ((hal.block P4 (ltb HP4_6.out)).trans HP4_6.out)
    have HP8_7 : Hid (w7.heap[P8]? = some (.cells (mcv u (.slice none 0 0)) 36 (0, 0))) := Lib.hid ((hal.block P8 (ltb HP8_6.out)).trans HP8_6.out)
    clear hal HPB_6 HC_6 HS_6 HWAY_6 HBOOK_6 HHD_6 HB_6 HP4_6 HP8_6
    have HP9_7 := Lib.hid hnew
    clear hnew
    go_upto_region 7 with (refine wpList_store_row rfl 34 (.tmp 9) (.tmp 41) rfl w6.heap.size _ rfl rfl 34 _ (heap_alloc_new w6 _) (by kernel_rfl) rfl (by simp [Value.oneCell']) ?_; rw [World.setRow_alloc_new])
    rw [← hw10]
    clear hw10
    rw [← hP9]
    clear hP9
    have HB2 : Hid (p.k.q < v 16 ∧ lastB p.book < v 16 ∧ 1 ≤ v 16) := Lib.hid (by
      have h16 := (HI.out.asks _ HM.out HDO.out.1).2.1
      have h15 := (HI.out.asks _ HM.out HDO.out.1).1
      have h := HDO.out.2.2
      rw [show v 15 = id from h15, ← HKF.out] at h
      have := lookK_do HI.out h16 h
      exact ⟨this.1, this.2, h16⟩)
    cases well
    · skip
      go_upto_region 13 with (fail)
      go_cut [10, 11] from 67 to 81 (fun s10 s11 wc => ∃ (kk : Bool) (uu : Nat → Int) (P10 : Nat), s10 = .pointer (some ⟨P10, 0, none⟩) ∧ s11 = .bool kk ∧ lo ≤ P10 ∧ P4 < P10 ∧ P8 < P10 ∧ Hid ((if kk = true then (#[.int .i64 8, .int .i64 p.ep, .int .i64 0, .int .i64 0, .int .i64 0, .int .i64 0, .int .i64 0, .int .i64 0, .int .i64 0, .int .i64 0, .int .i64 0, .int .i64 0, .int .i64 0, .int .i64 0, .int .i64 0, .int .i64 id, .int .i64 ((v 16)), .slice none 0 0, .int .i64 140, .int .i64 0, .int .i64 0] : Array Value) else #[.int .i64 0, .int .i64 0, .int .i64 0, .int .i64 0, .int .i64 0, .int .i64 0, .int .i64 0, .int .i64 0, .int .i64 0, .int .i64 0, .int .i64 0, .int .i64 0, .int .i64 0, .int .i64 0, .int .i64 0, .int .i64 0, .int .i64 0, .slice none 0 0, .int .i64 0, .int .i64 0, .int .i64 0]) = #[.int .i64 (uu 0), .int .i64 (uu 1), .int .i64 (uu 2), .int .i64 (uu 3), .int .i64 (uu 4), .int .i64 (uu 5), .int .i64 (uu 6), .int .i64 (uu 7), .int .i64 (uu 8), .int .i64 (uu 9), .int .i64 (uu 10), .int .i64 (uu 11), .int .i64 (uu 12), .int .i64 (uu 13), .int .i64 (uu 14), .int .i64 (uu 15), .int .i64 (uu 16), .slice none 0 0, .int .i64 (uu 18), .int .i64 (uu 19), .int .i64 (uu 20)]) ∧ Hid ((Lit.int .i64 (uu 15)).wf = true) ∧ Hid ((.slice x.wA p.way.length x.wc : Value).ownBlock ≠ some P10) ∧ Hid (wc.heap[P]? = some (.cells #[.int .i64 id, .pointer (some ⟨x.gc, 0, none⟩), .pointer (some ⟨x.gs, 0, none⟩), .int .i64 p.ep, .slice x.wA p.way.length x.wc, .slice x.bA p.book.length x.bc, .int .i64 p.told, .int .i64 x.t1, .int .i64 x.t2, .slice ((some ⟨x.H, 0, none⟩)) p.heard.length p.heard.length] 54 (0, 0))) ∧ Hid (CAt wc x.gc p.s x.cA x.cc) ∧ Hid (wc.ownsRow (x.H + 1) 36 21 (.slice x.wA p.way.length x.wc) p.way.length (mgs p.way)) ∧ Hid (wc.ownsRow (x.H + 1) 3 1 (.slice x.bA p.book.length x.bc) p.book.length (ints p.book)) ∧ Hid (wc.heap[x.H]? = some (.cells (ints p.heard).toArray 3 (0, 0))) ∧ Hid (Chg (fun k => lo ≤ k) w0 wc) ∧ Hid (wc.heap[P4]? = some (.cells (mcv v (.slice B nb cb)) 36 (0, 0))) ∧ Hid (wc.heap[P8]? = some (.cells (mcv u (.slice none 0 0)) 36 (0, 0))) ∧ Hid (wc.heap[P9]? = some (.cells #[.int .i64 140, .int .i64 0, .int .i64 0] 34 (0, 0))) ∧ Hid (SAt wc x.gs p.ep x.M (x.nn + 1) (if kk = true then kput f id ⟨v 16, 140, 0, 0⟩ else f)) ∧ Hid (wc.heap[P10]? = some (.cells (mcv uu (.slice none 0 0)) 36 (0, 0))))
      case first =>
        have HPB_8 : Hid (w7.drew.heap[P]? = some (.cells #[.int .i64 id, .pointer (some ⟨x.gc, 0, none⟩), .pointer (some ⟨x.gs, 0, none⟩), .int .i64 p.ep, .slice x.wA p.way.length x.wc, .slice x.bA p.book.length x.bc, .int .i64 p.told, .int .i64 x.t1, .int .i64 x.t2, .slice ((some ⟨x.H, 0, none⟩)) p.heard.length p.heard.length] 54 (0, 0))) := Lib.hid ((((Below.refl w7.heap.size w7).drew).block P (ltb HPB_7.out)).trans HPB_7.out)
        have HC_8 : Hid (CAt w7.drew x.gc p.s x.cA x.cc) := Lib.hid (HC_7.out.below ((Below.refl w7.heap.size w7).drew))
        have HS_8 : Hid (SAt w7.drew x.gs p.ep x.M x.nn f) := Lib.hid (HS_7.out.below ((Below.refl w7.heap.size w7).drew))
        have HWAY_8 : Hid (w7.drew.ownsRow (x.H + 1) 36 21 (.slice x.wA p.way.length x.wc) p.way.length (mgs p.way)) := Lib.hid ((Chg.of_below (S := fun _ => False) ((Below.refl w7.heap.size w7).drew)).own HWAY_7.out (fun _ _ h => h))
        have HBOOK_8 : Hid (w7.drew.ownsRow (x.H + 1) 3 1 (.slice x.bA p.book.length x.bc) p.book.length (ints p.book)) := Lib.hid ((Chg.of_below (S := fun _ => False) ((Below.refl w7.heap.size w7).drew)).own HBOOK_7.out (fun _ _ h => h))
        have HHD_8 : Hid (w7.drew.heap[x.H]? = some (.cells (ints p.heard).toArray 3 (0, 0))) := Lib.hid ((((Below.refl w7.heap.size w7).drew).block x.H (ltb HHD_7.out)).trans HHD_7.out)
        have HB_8 : Hid (Chg (fun k => lo ≤ k) w0 w7.drew) := Lib.hid (HB_7.out.trans (Chg.of_below ((Below.refl w7.heap.size w7).drew)))
        have HP4_8 : Hid (w7.drew.heap[P4]? = some (.cells (mcv v (.slice B nb cb)) 36 (0, 0))) := Lib.hid ((((Below.refl w7.heap.size w7).drew).block P4 (ltb HP4_7.out)).trans HP4_7.out)
        have HP8_8 : Hid (w7.drew.heap[P8]? = some (.cells (mcv u (.slice none 0 0)) 36 (0, 0))) := Lib.hid ((((Below.refl w7.heap.size w7).drew).block P8 (ltb HP8_7.out)).trans HP8_7.out)
        have HP9_8 : Hid (w7.drew.heap[P9]? = some (.cells #[.int .i64 140, .int .i64 0, .int .i64 0] 34 (0, 0))) := Lib.hid ((((Below.refl w7.heap.size w7).drew).block P9 (ltb HP9_7.out)).trans HP9_7.out)
        clear HPB_7 HC_7 HS_7 HWAY_7 HBOOK_7 HHD_7 HB_7 HP4_7 HP8_7 HP9_7
        have FP : w7.drew.heap[P]? = some (.cells #[.int .i64 id, .pointer (some ⟨x.gc, 0, none⟩), .pointer (some ⟨x.gs, 0, none⟩), .int .i64 p.ep, .slice x.wA p.way.length x.wc, .slice x.bA p.book.length x.bc, .int .i64 p.told, .int .i64 x.t1, .int .i64 x.t2, .slice ((some ⟨x.H, 0, none⟩)) p.heard.length p.heard.length] 54 (0, 0)) := HPB_8.out
        have FP4 : w7.drew.heap[P4]? = some (.cells (mcv v (.slice B nb cb)) 36 (0, 0)) := HP4_8.out
        have FP9 : w7.drew.heap[P9]? = some (.cells #[.int .i64 140, .int .i64 0, .int .i64 0] 34 (0, 0)) := HP9_8.out
        refine wp_region_noPanic ?_
        refine wp_region_held_drew (S := fun w' => w'.heap[P]? = some (.cells #[.int .i64 id, .pointer (some ⟨x.gc, 0, none⟩), .pointer (some ⟨x.gs, 0, none⟩), .int .i64 p.ep, .slice x.wA p.way.length x.wc, .slice x.bA p.book.length x.bc, .int .i64 p.told, .int .i64 x.t1, .int .i64 x.t2, .slice ((some ⟨x.H, 0, none⟩)) p.heard.length p.heard.length] 54 (0, 0)) ∧ w'.heap[P4]? = some (.cells (mcv v (.slice B nb cb)) 36 (0, 0)) ∧ w'.heap[P9]? = some (.cells #[.int .i64 140, .int .i64 0, .int .i64 0] 34 (0, 0))) (by kernel_rfl) ?_ (fun hHeld => ?_)
        · try dsimp only
          (refine ⟨?_, ?_, ?_⟩ <;> (first | with_reducible assumption))
        generalize w7.drew = w8 at *
        refine wpAnyH_take (i := 0) (v := ?_) (by (simp only [List.getElem?_toArray, List.getElem?_cons_zero]; rfl)) (by kernel_rfl) (by kernel_rfl) (by kernel_rfl) (fun _ _ _ h => h) (Or.inl ⟨by rfl, ?_⟩) (by assumption) ?_
        rotate_left
        · (intro w hSw; (try dsimp only at hSw); go_simp; try with_reducible rfl)
        try simp only [Act.put, List.setIfInBounds_toArray, List.set_cons_zero, List.set_cons_succ]
        refine wpAnyH_take (i := 1) (v := ?_) (by (simp only [List.getElem?_toArray, List.getElem?_cons_succ, List.getElem?_cons_zero]; rfl)) (by kernel_rfl) (by kernel_rfl) (by kernel_rfl) (fun _ _ _ h => h) (Or.inl ⟨by rfl, ?_⟩) (by assumption) ?_
        rotate_left
        · (intro w hSw; (try dsimp only at hSw); go_simp; try with_reducible rfl)
        try simp only [Act.put, List.setIfInBounds_toArray, List.set_cons_zero, List.set_cons_succ]
        refine wpAnyH_take (i := 2) (v := ?_) (by (simp only [List.getElem?_toArray, List.getElem?_cons_succ, List.getElem?_cons_zero]; rfl)) (by kernel_rfl) (by kernel_rfl) (by kernel_rfl) (fun _ _ _ h => h) (Or.inl ⟨by rfl, ?_⟩) (by assumption) ?_
        rotate_left
        · (intro w hSw; (try dsimp only at hSw); go_simp; try with_reducible rfl)
        try simp only [Act.put, List.setIfInBounds_toArray, List.set_cons_zero, List.set_cons_succ]
        refine wpAnyH_take (i := 3) (v := ?_) (by (simp only [List.getElem?_toArray, List.getElem?_cons_succ, List.getElem?_cons_zero]; rfl)) (by kernel_rfl) (by kernel_rfl) (by kernel_rfl) (fun _ _ _ h => h) (Or.inl ⟨by rfl, ?_⟩) (by assumption) ?_
        rotate_left
        · intro w hSw
          try dsimp only at hSw
          have x0 : w.cell? ⟨P, 2, none⟩ = some (.pointer (some ⟨x.gs, 0, none⟩)) := (cellb (i := 2) hSw.1 rfl)
          go_simp; try with_reducible rfl
        try simp only [Act.put, List.setIfInBounds_toArray, List.set_cons_zero, List.set_cons_succ]
        refine wpAnyH_take (i := 4) (v := ?_) (by (simp only [List.getElem?_toArray, List.getElem?_cons_succ, List.getElem?_cons_zero]; rfl)) (by kernel_rfl) (by kernel_rfl) (by kernel_rfl) (fun _ _ _ h => h) (Or.inl ⟨by rfl, ?_⟩) (by assumption) ?_
        rotate_left
        · (intro w hSw; (try dsimp only at hSw); go_simp; try with_reducible rfl)
        try simp only [Act.put, List.setIfInBounds_toArray, List.set_cons_zero, List.set_cons_succ]
        refine wpAnyH_take (i := 5) (v := ?_) (by (simp only [List.getElem?_toArray, List.getElem?_cons_succ, List.getElem?_cons_zero]; rfl)) (by kernel_rfl) (by kernel_rfl) (by kernel_rfl) (fun _ _ _ h => h) (Or.inl ⟨by rfl, ?_⟩) (by assumption) ?_
        rotate_left
        · (intro w hSw; (try dsimp only at hSw); go_simp; try with_reducible rfl)
        try simp only [Act.put, List.setIfInBounds_toArray, List.set_cons_zero, List.set_cons_succ]
        refine wpAnyH_take (i := 6) (v := ?_) (by (simp only [List.getElem?_toArray, List.getElem?_cons_succ, List.getElem?_cons_zero]; rfl)) (by kernel_rfl) (by kernel_rfl) (by kernel_rfl) (fun _ _ _ h => h) (Or.inl ⟨by rfl, ?_⟩) (by assumption) ?_
        rotate_left
        · (intro w hSw; (try dsimp only at hSw); go_simp; try with_reducible rfl)
        try simp only [Act.put, List.setIfInBounds_toArray, List.set_cons_zero, List.set_cons_succ]
        refine wpAnyH_take (i := 7) (v := ?_) (by (simp only [List.getElem?_toArray, List.getElem?_cons_succ, List.getElem?_cons_zero]; rfl)) (by kernel_rfl) (by kernel_rfl) (by kernel_rfl) (fun _ _ _ h => h) (Or.inl ⟨by rfl, ?_⟩) (by assumption) ?_
        rotate_left
        · intro w hSw
          try dsimp only at hSw
          have x0 : w.cell? ⟨P, 0, none⟩ = some (.int .i64 id) := (cellb (i := 0) hSw.1 rfl)
          go_simp; try with_reducible rfl
        try simp only [Act.put, List.setIfInBounds_toArray, List.set_cons_zero, List.set_cons_succ]
        refine wpAnyH_take (i := 8) (v := ?_) (by (simp only [List.getElem?_toArray, List.getElem?_cons_succ, List.getElem?_cons_zero]; rfl)) (by kernel_rfl) (by kernel_rfl) (by kernel_rfl) (fun _ _ _ h => h) (Or.inl ⟨by rfl, ?_⟩) (by assumption) ?_
        rotate_left
        · (intro w hSw; (try dsimp only at hSw); go_simp; try with_reducible rfl)
        try simp only [Act.put, List.setIfInBounds_toArray, List.set_cons_zero, List.set_cons_succ]
        refine wpAnyH_take (i := 9) (v := ?_) (by (simp only [List.getElem?_toArray, List.getElem?_cons_succ, List.getElem?_cons_zero]; rfl)) (by kernel_rfl) (by kernel_rfl) (by kernel_rfl) (fun _ _ _ h => h) (Or.inl ⟨by rfl, ?_⟩) (by assumption) ?_
        rotate_left
        · intro w hSw
          try dsimp only at hSw
          have x0 : w.cell? ⟨P4, 16, none⟩ = some (.int .i64 (v 16)) := (cellb (i := 16) hSw.2.1 rfl)
          go_simp; try with_reducible rfl
        try simp only [Act.put, List.setIfInBounds_toArray, List.set_cons_zero, List.set_cons_succ]
        refine wpAnyH_take (i := 10) (v := ?_) (by (simp only [List.getElem?_toArray, List.getElem?_cons_succ, List.getElem?_cons_zero]; rfl)) (by kernel_rfl) (by kernel_rfl) (by kernel_rfl) (fun _ _ _ h => h) (Or.inl ⟨by rfl, ?_⟩) (by assumption) ?_
        rotate_left
        · intro w hSw
          try dsimp only at hSw
          refine take_load (x := .tmp 9) (ty := 34) ?_ P9 ?_ 34 _ (0, 0) _ hSw.2.2 Try.underlying34 rfl (by kernel_rfl)
          all_goals rfl
        try simp only [Act.put, List.setIfInBounds_toArray, List.set_cons_zero, List.set_cons_succ]
        refine wpAnyH_ready (rs := [11, 15]) (by kernel_rfl) (by simp) ?_
        refine AllReadyH.cons (by (simp only [List.getElem?_toArray, List.getElem?_cons_succ, List.getElem?_cons_zero]; rfl)) (fun K hK => ?_) (AllReadyH.cons (by (simp only [List.getElem?_toArray, List.getElem?_cons_succ, List.getElem?_cons_zero]; rfl)) (fun K hK => ?_) AllReadyH.nil)
        · skip
          go_simp
          refine (done_any x.gs p.ep x.M x.nn f id (v 16) 140 0 0 w8 HS_8.out HWI.out (by unfold maxLen; omega)).mono ?_
          rintro e w9 ⟨kk, hk, he, hs, hg⟩
          obtain ⟨uu, hu⟩ : ∃ uu : Nat → Int, (if kk = true then (#[.int .i64 8, .int .i64 p.ep, .int .i64 0, .int .i64 0, .int .i64 0, .int .i64 0, .int .i64 0, .int .i64 0, .int .i64 0, .int .i64 0, .int .i64 0, .int .i64 0, .int .i64 0, .int .i64 0, .int .i64 0, .int .i64 id, .int .i64 ((v 16)), .slice none 0 0, .int .i64 140, .int .i64 0, .int .i64 0] : Array Value) else #[.int .i64 0, .int .i64 0, .int .i64 0, .int .i64 0, .int .i64 0, .int .i64 0, .int .i64 0, .int .i64 0, .int .i64 0, .int .i64 0, .int .i64 0, .int .i64 0, .int .i64 0, .int .i64 0, .int .i64 0, .int .i64 0, .int .i64 0, .slice none 0 0, .int .i64 0, .int .i64 0, .int .i64 0]) = #[.int .i64 (uu 0), .int .i64 (uu 1), .int .i64 (uu 2), .int .i64 (uu 3), .int .i64 (uu 4), .int .i64 (uu 5), .int .i64 (uu 6), .int .i64 (uu 7), .int .i64 (uu 8), .int .i64 (uu 9), .int .i64 (uu 10), .int .i64 (uu 11), .int .i64 (uu 12), .int .i64 (uu 13), .int .i64 (uu 14), .int .i64 (uu 15), .int .i64 (uu 16), .slice none 0 0, .int .i64 (uu 18), .int .i64 (uu 19), .int .i64 (uu 20)] := by
            cases kk
            · exact ⟨fun _ => 0, rfl⟩
            · exact ⟨repV p.ep id (v 16) 140 0 0, rfl⟩
          rw [hu] at he
          subst he
          have hmap : ∃ es clock, w8.heap[x.M]? = some (.map es clock) := by
            obtain ⟨D, ⟨es, clock, hb, _⟩, _⟩ := HS_8.out.map
            exact ⟨_, _, hb⟩
          have hch := Ch.ofMap hmap hg
          have HU := Lib.hid hu
          have HS' := Lib.hid hs
          have HWU : Hid ((Lit.int .i64 (uu 15)).wf = true) := Lib.hid (uu_wf hu HWI.out)
          clear hk hu hs hg hmap HS_8
          have HPB_9 : Hid (w9.heap[P]? = some (.cells #[.int .i64 id, .pointer (some ⟨x.gc, 0, none⟩), .pointer (some ⟨x.gs, 0, none⟩), .int .i64 p.ep, .slice x.wA p.way.length x.wc, .slice x.bA p.book.length x.bc, .int .i64 p.told, .int .i64 x.t1, .int .i64 x.t2, .slice ((some ⟨x.H, 0, none⟩)) p.heard.length p.heard.length] 54 (0, 0))) := Lib.hid (hch.blk HPB_8.out (by show (54 + 1 : Nat) ≠ _; decide))
          have HC_9 : Hid (CAt w9 x.gc p.s x.cA x.cc) := Lib.hid (hch.cat HC_8.out (by decide) (by decide))
          have HWAY_9 : Hid (w9.ownsRow (x.H + 1) 36 21 (.slice x.wA p.way.length x.wc) p.way.length (mgs p.way)) := Lib.hid (hch.own HWAY_8.out (by decide))
          have HBOOK_9 : Hid (w9.ownsRow (x.H + 1) 3 1 (.slice x.bA p.book.length x.bc) p.book.length (ints p.book)) := Lib.hid (hch.own HBOOK_8.out (by decide))
          have HHD_9 : Hid (w9.heap[x.H]? = some (.cells (ints p.heard).toArray 3 (0, 0))) := Lib.hid (hch.blk HHD_8.out (by show (3 + 1 : Nat) ≠ _; decide))
          have HB_9 : Hid (Chg (fun k => lo ≤ k) w0 w9) := Lib.hid (hch.low HB_8.out (fun k hk => by injection hk with hk; omega))
          have HP4_9 : Hid (w9.heap[P4]? = some (.cells (mcv v (.slice B nb cb)) 36 (0, 0))) := Lib.hid (hch.blk HP4_8.out (by show (36 + 1 : Nat) ≠ _; decide))
          have HP8_9 : Hid (w9.heap[P8]? = some (.cells (mcv u (.slice none 0 0)) 36 (0, 0))) := Lib.hid (hch.blk HP8_8.out (by show (36 + 1 : Nat) ≠ _; decide))
          have HP9_9 : Hid (w9.heap[P9]? = some (.cells #[.int .i64 140, .int .i64 0, .int .i64 0] 34 (0, 0))) := Lib.hid (hch.blk HP9_8.out (by show (34 + 1 : Nat) ≠ _; decide))
          clear hch HPB_8 HC_8 HWAY_8 HBOOK_8 HHD_8 HB_8 HP4_8 HP8_8 HP9_8
          have HS_9 := HS'
          clear HS'
          have FP' : w9.heap[P]? = some (.cells #[.int .i64 id, .pointer (some ⟨x.gc, 0, none⟩), .pointer (some ⟨x.gs, 0, none⟩), .int .i64 p.ep, .slice x.wA p.way.length x.wc, .slice x.bA p.book.length x.bc, .int .i64 p.told, .int .i64 x.t1, .int .i64 x.t2, .slice ((some ⟨x.H, 0, none⟩)) p.heard.length p.heard.length] 54 (0, 0)) := HPB_9.out
          have FP4' : w9.heap[P4]? = some (.cells (mcv v (.slice B nb cb)) 36 (0, 0)) := HP4_9.out
          have FP9' : w9.heap[P9]? = some (.cells #[.int .i64 140, .int .i64 0, .int .i64 0] 34 (0, 0)) := HP9_9.out
          clear FP FP4 FP9
          have FP := FP'
          clear FP'
          have FP4 := FP4'
          clear FP4'
          have FP9 := FP9'
          clear FP9'
          refine hK.out _ _ ?_ (fun hHeld => ?_)
          · try dsimp only
            (refine ⟨?_, ?_, ?_⟩ <;> (first | with_reducible assumption))
          clear hK K
          try simp only [Act.put, List.setIfInBounds_toArray, List.set_cons_zero, List.set_cons_succ]
          refine wpAnyH_take (i := 12) (v := ?_) (by (simp only [List.getElem?_toArray, List.getElem?_cons_succ, List.getElem?_cons_zero]; rfl)) (by kernel_rfl) (by kernel_rfl) (by kernel_rfl) (fun _ _ _ h => h) (Or.inl ⟨by rfl, ?_⟩) (by assumption) ?_
          rotate_left
          · (intro w hSw; (try dsimp only at hSw); go_simp; try with_reducible rfl)
          try simp only [Act.put, List.setIfInBounds_toArray, List.set_cons_zero, List.set_cons_succ]
          refine wpAnyH_take (i := 13) (v := ?_) (by (simp only [List.getElem?_toArray, List.getElem?_cons_succ, List.getElem?_cons_zero]; rfl)) (by kernel_rfl) (by kernel_rfl) (by kernel_rfl) (fun _ _ _ h => h) (Or.inl ⟨by rfl, ?_⟩) (by assumption) ?_
          rotate_left
          · (intro w hSw; (try dsimp only at hSw); go_simp; try with_reducible rfl)
          try simp only [Act.put, List.setIfInBounds_toArray, List.set_cons_zero, List.set_cons_succ]
          refine wpAnyH_take (i := 14) (v := ?_) (by (simp only [List.getElem?_toArray, List.getElem?_cons_succ, List.getElem?_cons_zero]; rfl)) (by kernel_rfl) (by kernel_rfl) (by kernel_rfl) (fun _ _ _ h => h) (Or.inl ⟨by rfl, ?_⟩) (by assumption) ?_
          rotate_left
          · (intro w hSw; (try dsimp only at hSw); go_simp; try with_reducible rfl)
          try simp only [Act.put, List.setIfInBounds_toArray, List.set_cons_zero, List.set_cons_succ]
          refine wpAnyH_ready (rs := [15]) (by kernel_rfl) (by simp) ?_
          refine AllReadyH.cons (by (simp only [List.getElem?_toArray, List.getElem?_cons_succ, List.getElem?_cons_zero]; rfl)) (fun K hK => ?_) AllReadyH.nil
          go_simp
          obtain ⟨P10, hP10⟩ : ∃ x, x = w9.heap.size := ⟨_, rfl⟩
          have loP10 : lo ≤ P10 := (by have := ltb HPB_9.out; omega)
          have oP10_P4 : P4 < P10 := (by have := ltb HP4_9.out; omega)
          have oP10_P8 : P8 < P10 := (by have := ltb HP8_9.out; omega)
          obtain ⟨w10, hw11⟩ : ∃ y, y = w9.alloc (.cells #[.int .i64 0, .int .i64 0, .int .i64 0, .int .i64 0, .int .i64 0, .int .i64 0, .int .i64 0, .int .i64 0, .int .i64 0, .int .i64 0, .int .i64 0, .int .i64 0, .int .i64 0, .int .i64 0, .int .i64 0, .int .i64 0, .int .i64 0, .slice none 0 0, .int .i64 0, .int .i64 0, .int .i64 0] 36) := ⟨_, rfl⟩
          have hal : Below w9.heap.size w9 w10 := by rw [hw11]; exact (Below.refl _ _).alloc (Nat.le_refl _) _
          have hnew : w10.heap[P10]? = some (.cells (mcv (fun _ => 0) (.slice none 0 0)) 36 (0, 0)) := by rw [hw11, hP10]; exact heap_alloc_new _ _
          have HNWAY_P10 : Hid ((.slice x.wA p.way.length x.wc : Value).ownBlock ≠ some P10) := Lib.hid (fun e => by have := (HWAY_9.out.lt _ e).2; omega)
          have HPB_10 : Hid (w10.heap[P]? = some (.cells #[.int .i64 id, .pointer (some ⟨x.gc, 0, none⟩), .pointer (some ⟨x.gs, 0, none⟩), .int .i64 p.ep, .slice x.wA p.way.length x.wc, .slice x.bA p.book.length x.bc, .int .i64 p.told, .int .i64 x.t1, .int .i64 x.t2, .slice ((some ⟨x.H, 0, none⟩)) p.heard.length p.heard.length] 54 (0, 0))) := Lib.hid ((hal.block P (ltb HPB_9.out)).trans HPB_9.out)
          have HC_10 : Hid (CAt w10 x.gc p.s x.cA x.cc) := Lib.hid (HC_9.out.below hal)
          have HWAY_10 : Hid (w10.ownsRow (x.H + 1) 36 21 (.slice x.wA p.way.length x.wc) p.way.length (mgs p.way)) := Lib.hid ((Chg.of_below (S := fun _ => False) hal).own HWAY_9.out (fun _ _ h => h))
          have HBOOK_10 : Hid (w10.ownsRow (x.H + 1) 3 1 (.slice x.bA p.book.length x.bc) p.book.length (ints p.book)) := Lib.hid ((Chg.of_below (S := fun _ => False) hal).own HBOOK_9.out (fun _ _ h => h))
          have HHD_10 : Hid (w10.heap[x.H]? = some (.cells (ints p.heard).toArray 3 (0, 0))) := Lib.hid ((hal.block x.H (ltb HHD_9.out)).trans HHD_9.out)
          have HB_10 : Hid (Chg (fun k => lo ≤ k) w0 w10) := Lib.hid (HB_9.out.trans (Chg.of_below hal))
          have HP4_10 : Hid (w10.heap[P4]? = some (.cells (mcv v (.slice B nb cb)) 36 (0, 0))) := Lib.hid ((hal.block P4 (ltb HP4_9.out)).trans HP4_9.out)
          have HP8_10 : Hid (w10.heap[P8]? = some (.cells (mcv u (.slice none 0 0)) 36 (0, 0))) := Lib.hid ((hal.block P8 (ltb HP8_9.out)).trans HP8_9.out)
          have HP9_10 : Hid (w10.heap[P9]? = some (.cells #[.int .i64 140, .int .i64 0, .int .i64 0] 34 (0, 0))) := Lib.hid ((hal.block P9 (ltb HP9_9.out)).trans HP9_9.out)
          have HS_10 : Hid (SAt w10 x.gs p.ep x.M (x.nn + 1) (if kk = true then kput f id ⟨v 16, 140, 0, 0⟩ else f)) := Lib.hid (HS_9.out.below hal)
          clear hal HPB_9 HC_9 HWAY_9 HBOOK_9 HHD_9 HB_9 HP4_9 HP8_9 HP9_9 HS_9
          have HP10_10 := Lib.hid hnew
          clear hnew
          rw [← hw11]
          clear hw11
          rw [← hP10]
          clear hP10
          have FP' : w10.heap[P]? = some (.cells #[.int .i64 id, .pointer (some ⟨x.gc, 0, none⟩), .pointer (some ⟨x.gs, 0, none⟩), .int .i64 p.ep, .slice x.wA p.way.length x.wc, .slice x.bA p.book.length x.bc, .int .i64 p.told, .int .i64 x.t1, .int .i64 x.t2, .slice ((some ⟨x.H, 0, none⟩)) p.heard.length p.heard.length] 54 (0, 0)) := HPB_10.out
          have FP4' : w10.heap[P4]? = some (.cells (mcv v (.slice B nb cb)) 36 (0, 0)) := HP4_10.out
          have FP9' : w10.heap[P9]? = some (.cells #[.int .i64 140, .int .i64 0, .int .i64 0] 34 (0, 0)) := HP9_10.out
          clear FP FP4 FP9
          have FP := FP'
          clear FP'
          have FP4 := FP4'
          clear FP4'
          have FP9 := FP9'
          clear FP9'
          refine hK.out _ _ ?_ (fun hHeld => ?_)
          · try dsimp only
            (refine ⟨?_, ?_, ?_⟩ <;> (first | with_reducible assumption))
          clear hK K
          try simp only [Act.put, List.setIfInBounds_toArray, List.set_cons_zero, List.set_cons_succ]
          refine wpAnyH_ready (rs := [16]) (by kernel_rfl) (by simp) ?_
          refine AllReadyH.cons (by (simp only [List.getElem?_toArray, List.getElem?_cons_succ, List.getElem?_cons_zero]; rfl)) (fun K hK => ?_) AllReadyH.nil
          refine wp_store_row 36 (.tmp 10) (.tmp 80) rfl P10 _ rfl rfl 36 _ HP10_10.out (by kernel_rfl) rfl (by simp [Value.oneCell']) ?_
          obtain ⟨w11, hw12⟩ : ∃ y, y = w10.setRow P10 #[.int .i64 (uu 0), .int .i64 (uu 1), .int .i64 (uu 2), .int .i64 (uu 3), .int .i64 (uu 4), .int .i64 (uu 5), .int .i64 (uu 6), .int .i64 (uu 7), .int .i64 (uu 8), .int .i64 (uu 9), .int .i64 (uu 10), .int .i64 (uu 11), .int .i64 (uu 12), .int .i64 (uu 13), .int .i64 (uu 14), .int .i64 (uu 15), .int .i64 (uu 16), .slice none 0 0, .int .i64 (uu 18), .int .i64 (uu 19), .int .i64 (uu 20)] := ⟨_, rfl⟩
          have hch := Ch.ofRow HP10_10.out #[.int .i64 (uu 0), .int .i64 (uu 1), .int .i64 (uu 2), .int .i64 (uu 3), .int .i64 (uu 4), .int .i64 (uu 5), .int .i64 (uu 6), .int .i64 (uu 7), .int .i64 (uu 8), .int .i64 (uu 9), .int .i64 (uu 10), .int .i64 (uu 11), .int .i64 (uu 12), .int .i64 (uu 13), .int .i64 (uu 14), .int .i64 (uu 15), .int .i64 (uu 16), .slice none 0 0, .int .i64 (uu 18), .int .i64 (uu 19), .int .i64 (uu 20)]
          rw [← hw12] at hch
          have hnew : w11.heap[P10]? = some (.cells (mcv uu (.slice none 0 0)) 36 (0, 0)) := by rw [hw12]; exact setRow_heap _ _ _ _ _ _ HP10_10.out
          have HPB_11 : Hid (w11.heap[P]? = some (.cells #[.int .i64 id, .pointer (some ⟨x.gc, 0, none⟩), .pointer (some ⟨x.gs, 0, none⟩), .int .i64 p.ep, .slice x.wA p.way.length x.wc, .slice x.bA p.book.length x.bc, .int .i64 p.told, .int .i64 x.t1, .int .i64 x.t2, .slice ((some ⟨x.H, 0, none⟩)) p.heard.length p.heard.length] 54 (0, 0))) := Lib.hid (hch.blk HPB_10.out (by show (54 + 1 : Nat) ≠ _; decide))
          have HC_11 : Hid (CAt w11 x.gc p.s x.cA x.cc) := Lib.hid (hch.cat HC_10.out (by decide) (by decide))
          have HWAY_11 : Hid (w11.ownsRow (x.H + 1) 36 21 (.slice x.wA p.way.length x.wc) p.way.length (mgs p.way)) := Lib.hid (hch.chg.own HWAY_10.out (fun k hk e => HNWAY_P10.out (hk.trans e.symm)))
          have HBOOK_11 : Hid (w11.ownsRow (x.H + 1) 3 1 (.slice x.bA p.book.length x.bc) p.book.length (ints p.book)) := Lib.hid (hch.own HBOOK_10.out (by decide))
          have HHD_11 : Hid (w11.heap[x.H]? = some (.cells (ints p.heard).toArray 3 (0, 0))) := Lib.hid (hch.blk HHD_10.out (by show (3 + 1 : Nat) ≠ _; decide))
          have HB_11 : Hid (Chg (fun k => lo ≤ k) w0 w11) := Lib.hid (hch.low HB_10.out (fun k hk => by injection hk with hk; omega))
          have HP4_11 : Hid (w11.heap[P4]? = some (.cells (mcv v (.slice B nb cb)) 36 (0, 0))) := Lib.hid (hch.blkN HP4_10.out (by intro e; injection e with e; omega))
          have HP8_11 : Hid (w11.heap[P8]? = some (.cells (mcv u (.slice none 0 0)) 36 (0, 0))) := Lib.hid (hch.blkN HP8_10.out (by intro e; injection e with e; omega))
          have HP9_11 : Hid (w11.heap[P9]? = some (.cells #[.int .i64 140, .int .i64 0, .int .i64 0] 34 (0, 0))) := Lib.hid (hch.blk HP9_10.out (by show (34 + 1 : Nat) ≠ _; decide))
          have HS_11 : Hid (SAt w11 x.gs p.ep x.M (x.nn + 1) (if kk = true then kput f id ⟨v 16, 140, 0, 0⟩ else f)) := Lib.hid (hch.sat HS_10.out (by decide) (by decide))
          clear hch HPB_10 HC_10 HWAY_10 HBOOK_10 HHD_10 HB_10 HP4_10 HP8_10 HP9_10 HS_10
          have HP10_11 := Lib.hid hnew
          clear hnew HP10_10
          rw [← hw12]
          clear hw12
          have FP' : w11.heap[P]? = some (.cells #[.int .i64 id, .pointer (some ⟨x.gc, 0, none⟩), .pointer (some ⟨x.gs, 0, none⟩), .int .i64 p.ep, .slice x.wA p.way.length x.wc, .slice x.bA p.book.length x.bc, .int .i64 p.told, .int .i64 x.t1, .int .i64 x.t2, .slice ((some ⟨x.H, 0, none⟩)) p.heard.length p.heard.length] 54 (0, 0)) := HPB_11.out
          have FP4' : w11.heap[P4]? = some (.cells (mcv v (.slice B nb cb)) 36 (0, 0)) := HP4_11.out
          have FP9' : w11.heap[P9]? = some (.cells #[.int .i64 140, .int .i64 0, .int .i64 0] 34 (0, 0)) := HP9_11.out
          clear FP FP4 FP9
          have FP := FP'
          clear FP'
          have FP4 := FP4'
          clear FP4'
          have FP9 := FP9'
          clear FP9'
          refine hK.out _ _ ?_ (fun hHeld => ?_)
          · try dsimp only
            (refine ⟨?_, ?_, ?_⟩ <;> (first | with_reducible assumption))
          clear hK K
          try simp only [Act.put]
          refine wpAnyH_take (i := 17) (v := ?_) (by (simp only [List.getElem?_toArray, List.getElem?_cons_succ, List.getElem?_cons_zero]; rfl)) (by kernel_rfl) (by kernel_rfl) (by kernel_rfl) (fun _ _ _ h => h) (Or.inl ⟨by rfl, ?_⟩) (by assumption) ?_
          rotate_left
          · (intro w hSw; (try dsimp only at hSw); go_simp; try with_reducible rfl)
          try simp only [Act.put, List.setIfInBounds_toArray, List.set_cons_zero, List.set_cons_succ]
          refine wpAnyH_done (by kernel_rfl) ?_ _
          refine NoPanic.normal ?_
          clear hHeld FP FP4 FP9
          go_wp2_with fail
          go_meet
          case rel => exact ⟨kk, uu, P10, rfl, rfl, loP10, oP10_P4, oP10_P8, HU, HWU, HNWAY_P10, HPB_11, HC_11, HWAY_11, HBOOK_11, HHD_11, HB_11, HP4_11, HP8_11, HP9_11, HS_11, HP10_11⟩
        · skip
          go_simp
          obtain ⟨P10, hP10⟩ : ∃ x, x = w8.heap.size := ⟨_, rfl⟩
          have loP10 : lo ≤ P10 := (by have := ltb HPB_8.out; omega)
          have oP10_P4 : P4 < P10 := (by have := ltb HP4_8.out; omega)
          have oP10_P8 : P8 < P10 := (by have := ltb HP8_8.out; omega)
          obtain ⟨w9, hw11⟩ : ∃ y, y = w8.alloc (.cells #[.int .i64 0, .int .i64 0, .int .i64 0, .int .i64 0, .int .i64 0, .int .i64 0, .int .i64 0, .int .i64 0, .int .i64 0, .int .i64 0, .int .i64 0, .int .i64 0, .int .i64 0, .int .i64 0, .int .i64 0, .int .i64 0, .int .i64 0, .slice none 0 0, .int .i64 0, .int .i64 0, .int .i64 0] 36) := ⟨_, rfl⟩
          have hal : Below w8.heap.size w8 w9 := by rw [hw11]; exact (Below.refl _ _).alloc (Nat.le_refl _) _
          have hnew : w9.heap[P10]? = some (.cells (mcv (fun _ => 0) (.slice none 0 0)) 36 (0, 0)) := by rw [hw11, hP10]; exact heap_alloc_new _ _
          have HNWAY_P10 : Hid ((.slice x.wA p.way.length x.wc : Value).ownBlock ≠ some P10) := Lib.hid (fun e => by have := (HWAY_8.out.lt _ e).2; omega)
          have HPB_9 : Hid (w9.heap[P]? = some (.cells #[.int .i64 id, .pointer (some ⟨x.gc, 0, none⟩), .pointer (some ⟨x.gs, 0, none⟩), .int .i64 p.ep, .slice x.wA p.way.length x.wc, .slice x.bA p.book.length x.bc, .int .i64 p.told, .int .i64 x.t1, .int .i64 x.t2, .slice ((some ⟨x.H, 0, none⟩)) p.heard.length p.heard.length] 54 (0, 0))) := Lib.hid ((hal.block P (ltb HPB_8.out)).trans HPB_8.out)
          have HC_9 : Hid (CAt w9 x.gc p.s x.cA x.cc) := Lib.hid (HC_8.out.below hal)
          have HS_9 : Hid (SAt w9 x.gs p.ep x.M x.nn f) := Lib.hid (HS_8.out.below hal)
          have HWAY_9 : Hid (w9.ownsRow (x.H + 1) 36 21 (.slice x.wA p.way.length x.wc) p.way.length (mgs p.way)) := Lib.hid ((Chg.of_below (S := fun _ => False) hal).own HWAY_8.out (fun _ _ h => h))
          have HBOOK_9 : Hid (w9.ownsRow (x.H + 1) 3 1 (.slice x.bA p.book.length x.bc) p.book.length (ints p.book)) := Lib.hid ((Chg.of_below (S := fun _ => False) hal).own HBOOK_8.out (fun _ _ h => h))
          have HHD_9 : Hid (w9.heap[x.H]? = some (.cells (ints p.heard).toArray 3 (0, 0))) := Lib.hid ((hal.block x.H (ltb HHD_8.out)).trans HHD_8.out)
          have HB_9 : Hid (Chg (fun k => lo ≤ k) w0 w9) := Lib.hid (HB_8.out.trans (Chg.of_below hal))
          have HP4_9 : Hid (w9.heap[P4]? = some (.cells (mcv v (.slice B nb cb)) 36 (0, 0))) := Lib.hid ((hal.block P4 (ltb HP4_8.out)).trans HP4_8.out)
          have HP8_9 : Hid (w9.heap[P8]? = some (.cells (mcv u (.slice none 0 0)) 36 (0, 0))) := Lib.hid ((hal.block P8 (ltb HP8_8.out)).trans HP8_8.out)
          have HP9_9 : Hid (w9.heap[P9]? = some (.cells #[.int .i64 140, .int .i64 0, .int .i64 0] 34 (0, 0))) := Lib.hid ((hal.block P9 (ltb HP9_8.out)).trans HP9_8.out)
          clear hal HPB_8 HC_8 HS_8 HWAY_8 HBOOK_8 HHD_8 HB_8 HP4_8 HP8_8 HP9_8
          have HP10_9 := Lib.hid hnew
          clear hnew
          rw [← hw11]
          clear hw11
          rw [← hP10]
          clear hP10
          have FP' : w9.heap[P]? = some (.cells #[.int .i64 id, .pointer (some ⟨x.gc, 0, none⟩), .pointer (some ⟨x.gs, 0, none⟩), .int .i64 p.ep, .slice x.wA p.way.length x.wc, .slice x.bA p.book.length x.bc, .int .i64 p.told, .int .i64 x.t1, .int .i64 x.t2, .slice ((some ⟨x.H, 0, none⟩)) p.heard.length p.heard.length] 54 (0, 0)) := HPB_9.out
          have FP4' : w9.heap[P4]? = some (.cells (mcv v (.slice B nb cb)) 36 (0, 0)) := HP4_9.out
          have FP9' : w9.heap[P9]? = some (.cells #[.int .i64 140, .int .i64 0, .int .i64 0] 34 (0, 0)) := HP9_9.out
          clear FP FP4 FP9
          have FP := FP'
          clear FP'
          have FP4 := FP4'
          clear FP4'
          have FP9 := FP9'
          clear FP9'
          refine hK.out _ _ ?_ (fun hHeld => ?_)
          · try dsimp only
            (refine ⟨?_, ?_, ?_⟩ <;> (first | with_reducible assumption))
          clear hK K
          try simp only [Act.put, List.setIfInBounds_toArray, List.set_cons_zero, List.set_cons_succ]
          refine wpAnyH_ready (rs := [11]) (by kernel_rfl) (by simp) ?_
          refine AllReadyH.cons (by (simp only [List.getElem?_toArray, List.getElem?_cons_succ, List.getElem?_cons_zero]; rfl)) (fun K hK => ?_) AllReadyH.nil
          go_simp
          refine (done_any x.gs p.ep x.M x.nn f id (v 16) 140 0 0 w9 HS_9.out HWI.out (by unfold maxLen; omega)).mono ?_
          rintro e w10 ⟨kk, hk, he, hs, hg⟩
          obtain ⟨uu, hu⟩ : ∃ uu : Nat → Int, (if kk = true then (#[.int .i64 8, .int .i64 p.ep, .int .i64 0, .int .i64 0, .int .i64 0, .int .i64 0, .int .i64 0, .int .i64 0, .int .i64 0, .int .i64 0, .int .i64 0, .int .i64 0, .int .i64 0, .int .i64 0, .int .i64 0, .int .i64 id, .int .i64 ((v 16)), .slice none 0 0, .int .i64 140, .int .i64 0, .int .i64 0] : Array Value) else #[.int .i64 0, .int .i64 0, .int .i64 0, .int .i64 0, .int .i64 0, .int .i64 0, .int .i64 0, .int .i64 0, .int .i64 0, .int .i64 0, .int .i64 0, .int .i64 0, .int .i64 0, .int .i64 0, .int .i64 0, .int .i64 0, .int .i64 0, .slice none 0 0, .int .i64 0, .int .i64 0, .int .i64 0]) = #[.int .i64 (uu 0), .int .i64 (uu 1), .int .i64 (uu 2), .int .i64 (uu 3), .int .i64 (uu 4), .int .i64 (uu 5), .int .i64 (uu 6), .int .i64 (uu 7), .int .i64 (uu 8), .int .i64 (uu 9), .int .i64 (uu 10), .int .i64 (uu 11), .int .i64 (uu 12), .int .i64 (uu 13), .int .i64 (uu 14), .int .i64 (uu 15), .int .i64 (uu 16), .slice none 0 0, .int .i64 (uu 18), .int .i64 (uu 19), .int .i64 (uu 20)] := by
            cases kk
            · exact ⟨fun _ => 0, rfl⟩
            · exact ⟨repV p.ep id (v 16) 140 0 0, rfl⟩
          rw [hu] at he
          subst he
          have hmap : ∃ es clock, w9.heap[x.M]? = some (.map es clock) := by
            obtain ⟨D, ⟨es, clock, hb, _⟩, _⟩ := HS_9.out.map
            exact ⟨_, _, hb⟩
          have hch := Ch.ofMap hmap hg
          have HU := Lib.hid hu
          have HS' := Lib.hid hs
          have HWU : Hid ((Lit.int .i64 (uu 15)).wf = true) := Lib.hid (uu_wf hu HWI.out)
          clear hk hu hs hg hmap HS_9
          have HPB_10 : Hid (w10.heap[P]? = some (.cells #[.int .i64 id, .pointer (some ⟨x.gc, 0, none⟩), .pointer (some ⟨x.gs, 0, none⟩), .int .i64 p.ep, .slice x.wA p.way.length x.wc, .slice x.bA p.book.length x.bc, .int .i64 p.told, .int .i64 x.t1, .int .i64 x.t2, .slice ((some ⟨x.H, 0, none⟩)) p.heard.length p.heard.length] 54 (0, 0))) := Lib.hid (hch.blk HPB_9.out (by show (54 + 1 : Nat) ≠ _; decide))
          have HC_10 : Hid (CAt w10 x.gc p.s x.cA x.cc) := Lib.hid (hch.cat HC_9.out (by decide) (by decide))
          have HWAY_10 : Hid (w10.ownsRow (x.H + 1) 36 21 (.slice x.wA p.way.length x.wc) p.way.length (mgs p.way)) := Lib.hid (hch.own HWAY_9.out (by decide))
          have HBOOK_10 : Hid (w10.ownsRow (x.H + 1) 3 1 (.slice x.bA p.book.length x.bc) p.book.length (ints p.book)) := Lib.hid (hch.own HBOOK_9.out (by decide))
          have HHD_10 : Hid (w10.heap[x.H]? = some (.cells (ints p.heard).toArray 3 (0, 0))) := Lib.hid (hch.blk HHD_9.out (by show (3 + 1 : Nat) ≠ _; decide))
          have HB_10 : Hid (Chg (fun k => lo ≤ k) w0 w10) := Lib.hid (hch.low HB_9.out (fun k hk => by injection hk with hk; omega))
          have HP4_10 : Hid (w10.heap[P4]? = some (.cells (mcv v (.slice B nb cb)) 36 (0, 0))) := Lib.hid (hch.blk HP4_9.out (by show (36 + 1 : Nat) ≠ _; decide))
          have HP8_10 : Hid (w10.heap[P8]? = some (.cells (mcv u (.slice none 0 0)) 36 (0, 0))) := Lib.hid (hch.blk HP8_9.out (by show (36 + 1 : Nat) ≠ _; decide))
          have HP9_10 : Hid (w10.heap[P9]? = some (.cells #[.int .i64 140, .int .i64 0, .int .i64 0] 34 (0, 0))) := Lib.hid (hch.blk HP9_9.out (by show (34 + 1 : Nat) ≠ _; decide))
          have HP10_10 : Hid (w10.heap[P10]? = some (.cells (mcv (fun _ => 0) (.slice none 0 0)) 36 (0, 0))) := Lib.hid (hch.blk HP10_9.out (by show (36 + 1 : Nat) ≠ _; decide))
          clear hch HPB_9 HC_9 HWAY_9 HBOOK_9 HHD_9 HB_9 HP4_9 HP8_9 HP9_9 HP10_9
          have HS_10 := HS'
          clear HS'
          have FP' : w10.heap[P]? = some (.cells #[.int .i64 id, .pointer (some ⟨x.gc, 0, none⟩), .pointer (some ⟨x.gs, 0, none⟩), .int .i64 p.ep, .slice x.wA p.way.length x.wc, .slice x.bA p.book.length x.bc, .int .i64 p.told, .int .i64 x.t1, .int .i64 x.t2, .slice ((some ⟨x.H, 0, none⟩)) p.heard.length p.heard.length] 54 (0, 0)) := HPB_10.out
          have FP4' : w10.heap[P4]? = some (.cells (mcv v (.slice B nb cb)) 36 (0, 0)) := HP4_10.out
          have FP9' : w10.heap[P9]? = some (.cells #[.int .i64 140, .int .i64 0, .int .i64 0] 34 (0, 0)) := HP9_10.out
          clear FP FP4 FP9
          have FP := FP'
          clear FP'
          have FP4 := FP4'
          clear FP4'
          have FP9 := FP9'
          clear FP9'
          refine hK.out _ _ ?_ (fun hHeld => ?_)
          · try dsimp only
            (refine ⟨?_, ?_, ?_⟩ <;> (first | with_reducible assumption))
          clear hK K
          try simp only [Act.put, List.setIfInBounds_toArray, List.set_cons_zero, List.set_cons_succ]
          refine wpAnyH_take (i := 12) (v := ?_) (by (simp only [List.getElem?_toArray, List.getElem?_cons_succ, List.getElem?_cons_zero]; rfl)) (by kernel_rfl) (by kernel_rfl) (by kernel_rfl) (fun _ _ _ h => h) (Or.inl ⟨by rfl, ?_⟩) (by assumption) ?_
          rotate_left
          · (intro w hSw; (try dsimp only at hSw); go_simp; try with_reducible rfl)
          try simp only [Act.put, List.setIfInBounds_toArray, List.set_cons_zero, List.set_cons_succ]
          refine wpAnyH_take (i := 13) (v := ?_) (by (simp only [List.getElem?_toArray, List.getElem?_cons_succ, List.getElem?_cons_zero]; rfl)) (by kernel_rfl) (by kernel_rfl) (by kernel_rfl) (fun _ _ _ h => h) (Or.inl ⟨by rfl, ?_⟩) (by assumption) ?_
          rotate_left
          · (intro w hSw; (try dsimp only at hSw); go_simp; try with_reducible rfl)
          try simp only [Act.put, List.setIfInBounds_toArray, List.set_cons_zero, List.set_cons_succ]
          refine wpAnyH_take (i := 14) (v := ?_) (by (simp only [List.getElem?_toArray, List.getElem?_cons_succ, List.getElem?_cons_zero]; rfl)) (by kernel_rfl) (by kernel_rfl) (by kernel_rfl) (fun _ _ _ h => h) (Or.inl ⟨by rfl, ?_⟩) (by assumption) ?_
          rotate_left
          · (intro w hSw; (try dsimp only at hSw); go_simp; try with_reducible rfl)
          try simp only [Act.put, List.setIfInBounds_toArray, List.set_cons_zero, List.set_cons_succ]
          refine wpAnyH_ready (rs := [16]) (by kernel_rfl) (by simp) ?_
          refine AllReadyH.cons (by (simp only [List.getElem?_toArray, List.getElem?_cons_succ, List.getElem?_cons_zero]; rfl)) (fun K hK => ?_) AllReadyH.nil
          refine wp_store_row 36 (.tmp 10) (.tmp 80) rfl P10 _ rfl rfl 36 _ HP10_10.out (by kernel_rfl) rfl (by simp [Value.oneCell']) ?_
          obtain ⟨w11, hw13⟩ : ∃ y, y = w10.setRow P10 #[.int .i64 (uu 0), .int .i64 (uu 1), .int .i64 (uu 2), .int .i64 (uu 3), .int .i64 (uu 4), .int .i64 (uu 5), .int .i64 (uu 6), .int .i64 (uu 7), .int .i64 (uu 8), .int .i64 (uu 9), .int .i64 (uu 10), .int .i64 (uu 11), .int .i64 (uu 12), .int .i64 (uu 13), .int .i64 (uu 14), .int .i64 (uu 15), .int .i64 (uu 16), .slice none 0 0, .int .i64 (uu 18), .int .i64 (uu 19), .int .i64 (uu 20)] := ⟨_, rfl⟩
          have hch := Ch.ofRow HP10_10.out #[.int .i64 (uu 0), .int .i64 (uu 1), .int .i64 (uu 2), .int .i64 (uu 3), .int .i64 (uu 4), .int .i64 (uu 5), .int .i64 (uu 6), .int .i64 (uu 7), .int .i64 (uu 8), .int .i64 (uu 9), .int .i64 (uu 10), .int .i64 (uu 11), .int .i64 (uu 12), .int .i64 (uu 13), .int .i64 (uu 14), .int .i64 (uu 15), .int .i64 (uu 16), .slice none 0 0, .int .i64 (uu 18), .int .i64 (uu 19), .int .i64 (uu 20)]
          rw [← hw13] at hch
          have hnew : w11.heap[P10]? = some (.cells (mcv uu (.slice none 0 0)) 36 (0, 0)) := by rw [hw13]; exact setRow_heap _ _ _ _ _ _ HP10_10.out
          have HPB_11 : Hid (w11.heap[P]? = some (.cells #[.int .i64 id, .pointer (some ⟨x.gc, 0, none⟩), .pointer (some ⟨x.gs, 0, none⟩), .int .i64 p.ep, .slice x.wA p.way.length x.wc, .slice x.bA p.book.length x.bc, .int .i64 p.told, .int .i64 x.t1, .int .i64 x.t2, .slice ((some ⟨x.H, 0, none⟩)) p.heard.length p.heard.length] 54 (0, 0))) := Lib.hid (hch.blk HPB_10.out (by show (54 + 1 : Nat) ≠ _; decide))
          have HC_11 : Hid (CAt w11 x.gc p.s x.cA x.cc) := Lib.hid (hch.cat HC_10.out (by decide) (by decide))
          have HWAY_11 : Hid (w11.ownsRow (x.H + 1) 36 21 (.slice x.wA p.way.length x.wc) p.way.length (mgs p.way)) := Lib.hid (hch.chg.own HWAY_10.out (fun k hk e => HNWAY_P10.out (hk.trans e.symm)))
          have HBOOK_11 : Hid (w11.ownsRow (x.H + 1) 3 1 (.slice x.bA p.book.length x.bc) p.book.length (ints p.book)) := Lib.hid (hch.own HBOOK_10.out (by decide))
          have HHD_11 : Hid (w11.heap[x.H]? = some (.cells (ints p.heard).toArray 3 (0, 0))) := Lib.hid (hch.blk HHD_10.out (by show (3 + 1 : Nat) ≠ _; decide))
          have HB_11 : Hid (Chg (fun k => lo ≤ k) w0 w11) := Lib.hid (hch.low HB_10.out (fun k hk => by injection hk with hk; omega))
          have HP4_11 : Hid (w11.heap[P4]? = some (.cells (mcv v (.slice B nb cb)) 36 (0, 0))) := Lib.hid (hch.blkN HP4_10.out (by intro e; injection e with e; omega))
          have HP8_11 : Hid (w11.heap[P8]? = some (.cells (mcv u (.slice none 0 0)) 36 (0, 0))) := Lib.hid (hch.blkN HP8_10.out (by intro e; injection e with e; omega))
          have HP9_11 : Hid (w11.heap[P9]? = some (.cells #[.int .i64 140, .int .i64 0, .int .i64 0] 34 (0, 0))) := Lib.hid (hch.blk HP9_10.out (by show (34 + 1 : Nat) ≠ _; decide))
          have HS_11 : Hid (SAt w11 x.gs p.ep x.M (x.nn + 1) (if kk = true then kput f id ⟨v 16, 140, 0, 0⟩ else f)) := Lib.hid (hch.sat HS_10.out (by decide) (by decide))
          clear hch HPB_10 HC_10 HWAY_10 HBOOK_10 HHD_10 HB_10 HP4_10 HP8_10 HP9_10 HS_10
          have HP10_11 := Lib.hid hnew
          clear hnew HP10_10
          rw [← hw13]
          clear hw13
          have FP' : w11.heap[P]? = some (.cells #[.int .i64 id, .pointer (some ⟨x.gc, 0, none⟩), .pointer (some ⟨x.gs, 0, none⟩), .int .i64 p.ep, .slice x.wA p.way.length x.wc, .slice x.bA p.book.length x.bc, .int .i64 p.told, .int .i64 x.t1, .int .i64 x.t2, .slice ((some ⟨x.H, 0, none⟩)) p.heard.length p.heard.length] 54 (0, 0)) := HPB_11.out
          have FP4' : w11.heap[P4]? = some (.cells (mcv v (.slice B nb cb)) 36 (0, 0)) := HP4_11.out
          have FP9' : w11.heap[P9]? = some (.cells #[.int .i64 140, .int .i64 0, .int .i64 0] 34 (0, 0)) := HP9_11.out
          clear FP FP4 FP9
          have FP := FP'
          clear FP'
          have FP4 := FP4'
          clear FP4'
          have FP9 := FP9'
          clear FP9'
          refine hK.out _ _ ?_ (fun hHeld => ?_)
          · try dsimp only
            (refine ⟨?_, ?_, ?_⟩ <;> (first | with_reducible assumption))
          clear hK K
          try simp only [Act.put]
          refine wpAnyH_take (i := 17) (v := ?_) (by (simp only [List.getElem?_toArray, List.getElem?_cons_succ, List.getElem?_cons_zero]; rfl)) (by kernel_rfl) (by kernel_rfl) (by kernel_rfl) (fun _ _ _ h => h) (Or.inl ⟨by rfl, ?_⟩) (by assumption) ?_
          rotate_left
          · (intro w hSw; (try dsimp only at hSw); go_simp; try with_reducible rfl)
          try simp only [Act.put, List.setIfInBounds_toArray, List.set_cons_zero, List.set_cons_succ]
          refine wpAnyH_done (by kernel_rfl) ?_ _
          refine NoPanic.normal ?_
          clear hHeld FP FP4 FP9
          go_wp2_with fail
          go_meet
          case rel => exact ⟨kk, uu, P10, rfl, rfl, loP10, oP10_P4, oP10_P8, HU, HWU, HNWAY_P10, HPB_11, HC_11, HWAY_11, HBOOK_11, HHD_11, HB_11, HP4_11, HP8_11, HP9_11, HS_11, HP10_11⟩
      case rest =>
      obtain ⟨w11, rfl⟩ : ∃ y : World, y = wc := ⟨_, rfl⟩
      obtain ⟨kk, uu, P10, rfl, rfl, loP10, oP10_P4, oP10_P8, HU, HWU, HNWAY_P10, HPB_11, HC_11, HWAY_11, HBOOK_11, HHD_11, HB_11, HP4_11, HP8_11, HP9_11, HS_11, HP10_11⟩ := hcut
      go_upto_region 14 with (fail)
      have HPB_12 : Hid (w11.drew.heap[P]? = some (.cells #[.int .i64 id, .pointer (some ⟨x.gc, 0, none⟩), .pointer (some ⟨x.gs, 0, none⟩), .int .i64 p.ep, .slice x.wA p.way.length x.wc, .slice x.bA p.book.length x.bc, .int .i64 p.told, .int .i64 x.t1, .int .i64 x.t2, .slice ((some ⟨x.H, 0, none⟩)) p.heard.length p.heard.length] 54 (0, 0))) := Lib.hid ((((Below.refl w11.heap.size w11).drew).block P (ltb HPB_11.out)).trans HPB_11.out)
      have HC_12 : Hid (CAt w11.drew x.gc p.s x.cA x.cc) := Lib.hid (HC_11.out.below ((Below.refl w11.heap.size w11).drew))
      have HWAY_12 : Hid (w11.drew.ownsRow (x.H + 1) 36 21 (.slice x.wA p.way.length x.wc) p.way.length (mgs p.way)) := Lib.hid ((Chg.of_below (S := fun _ => False) ((Below.refl w11.heap.size w11).drew)).own HWAY_11.out (fun _ _ h => h))
      have HBOOK_12 : Hid (w11.drew.ownsRow (x.H + 1) 3 1 (.slice x.bA p.book.length x.bc) p.book.length (ints p.book)) := Lib.hid ((Chg.of_below (S := fun _ => False) ((Below.refl w11.heap.size w11).drew)).own HBOOK_11.out (fun _ _ h => h))
      have HHD_12 : Hid (w11.drew.heap[x.H]? = some (.cells (ints p.heard).toArray 3 (0, 0))) := Lib.hid ((((Below.refl w11.heap.size w11).drew).block x.H (ltb HHD_11.out)).trans HHD_11.out)
      have HB_12 : Hid (Chg (fun k => lo ≤ k) w0 w11.drew) := Lib.hid (HB_11.out.trans (Chg.of_below ((Below.refl w11.heap.size w11).drew)))
      have HP4_12 : Hid (w11.drew.heap[P4]? = some (.cells (mcv v (.slice B nb cb)) 36 (0, 0))) := Lib.hid ((((Below.refl w11.heap.size w11).drew).block P4 (ltb HP4_11.out)).trans HP4_11.out)
      have HP8_12 : Hid (w11.drew.heap[P8]? = some (.cells (mcv u (.slice none 0 0)) 36 (0, 0))) := Lib.hid ((((Below.refl w11.heap.size w11).drew).block P8 (ltb HP8_11.out)).trans HP8_11.out)
      have HP9_12 : Hid (w11.drew.heap[P9]? = some (.cells #[.int .i64 140, .int .i64 0, .int .i64 0] 34 (0, 0))) := Lib.hid ((((Below.refl w11.heap.size w11).drew).block P9 (ltb HP9_11.out)).trans HP9_11.out)
      have HS_12 : Hid (SAt w11.drew x.gs p.ep x.M (x.nn + 1) (if kk = true then kput f id ⟨v 16, 140, 0, 0⟩ else f)) := Lib.hid (HS_11.out.below ((Below.refl w11.heap.size w11).drew))
      have HP10_12 : Hid (w11.drew.heap[P10]? = some (.cells (mcv uu (.slice none 0 0)) 36 (0, 0))) := Lib.hid ((((Below.refl w11.heap.size w11).drew).block P10 (ltb HP10_11.out)).trans HP10_11.out)
      clear HPB_11 HC_11 HWAY_11 HBOOK_11 HHD_11 HB_11 HP4_11 HP8_11 HP9_11 HS_11 HP10_11
      have FP10 : w11.drew.heap[P10]? = some (.cells (mcv uu (.slice none 0 0)) 36 (0, 0)) := HP10_12.out
      refine wp_region_noPanic ?_
      refine wp_region_held_drew (S := fun w' => w'.heap[P10]? = some (.cells (mcv uu (.slice none 0 0)) 36 (0, 0))) (by kernel_rfl) ?_ (fun hHeld => ?_)
      · try dsimp only
        (refine ?_ <;> (first | with_reducible assumption))
      generalize w11.drew = w12 at *
      refine wpAnyH_take (i := 0) (v := ?_) (by (simp only [List.getElem?_toArray, List.getElem?_cons_zero]; rfl)) (by kernel_rfl) (by kernel_rfl) (by kernel_rfl) (fun _ _ _ h => h) (Or.inl ⟨by rfl, ?_⟩) (by assumption) ?_
      rotate_left
      · (intro w hSw; (try dsimp only at hSw); go_simp; try with_reducible rfl)
      try simp only [Act.put, List.setIfInBounds_toArray, List.set_cons_zero, List.set_cons_succ]
      refine wpAnyH_take (i := 1) (v := ?_) (by (simp only [List.getElem?_toArray, List.getElem?_cons_succ, List.getElem?_cons_zero]; rfl)) (by kernel_rfl) (by kernel_rfl) (by kernel_rfl) (fun _ _ _ h => h) (Or.inl ⟨by rfl, ?_⟩) (by assumption) ?_
      rotate_left
      · (intro w hSw; (try dsimp only at hSw); go_simp; try with_reducible rfl)
      try simp only [Act.put, List.setIfInBounds_toArray, List.set_cons_zero, List.set_cons_succ]
      refine wpAnyH_take (i := 2) (v := ?_) (by (simp only [List.getElem?_toArray, List.getElem?_cons_succ, List.getElem?_cons_zero]; rfl)) (by kernel_rfl) (by kernel_rfl) (by kernel_rfl) (fun _ _ _ h => h) (Or.inl ⟨by rfl, ?_⟩) (by assumption) ?_
      rotate_left
      · (intro w hSw; (try dsimp only at hSw); go_simp; try with_reducible rfl)
      try simp only [Act.put, List.setIfInBounds_toArray, List.set_cons_zero, List.set_cons_succ]
      refine wpAnyH_take (i := 3) (v := ?_) (by (simp only [List.getElem?_toArray, List.getElem?_cons_succ, List.getElem?_cons_zero]; rfl)) (by kernel_rfl) (by kernel_rfl) (by kernel_rfl) (fun _ _ _ h => h) (Or.inl ⟨by rfl, ?_⟩) (by assumption) ?_
      rotate_left
      · (intro w hSw; (try dsimp only at hSw); go_simp; try with_reducible rfl)
      try simp only [Act.put, List.setIfInBounds_toArray, List.set_cons_zero, List.set_cons_succ]
      refine wpAnyH_take (i := 5) (v := ?_) (by (simp only [List.getElem?_toArray, List.getElem?_cons_succ, List.getElem?_cons_zero]; rfl)) (by kernel_rfl) (by kernel_rfl) (by kernel_rfl) (fun _ _ _ h => h) (Or.inl ⟨by rfl, ?_⟩) (by assumption) ?_
      rotate_left
      · intro w hSw
        try dsimp only at hSw
        refine take_load (x := .tmp 10) (ty := 36) ?_ P10 ?_ 36 #[.int .i64 (uu 0), .int .i64 (uu 1), .int .i64 (uu 2), .int .i64 (uu 3), .int .i64 (uu 4), .int .i64 (uu 5), .int .i64 (uu 6), .int .i64 (uu 7), .int .i64 (uu 8), .int .i64 (uu 9), .int .i64 (uu 10), .int .i64 (uu 11), .int .i64 (uu 12), .int .i64 (uu 13), .int .i64 (uu 14), .int .i64 (uu 15), .int .i64 (uu 16), .slice none 0 0, .int .i64 (uu 18), .int .i64 (uu 19), .int .i64 (uu 20)] (0, 0) _ hSw Try.underlying36 rfl (by kernel_rfl)
        all_goals rfl
      try simp only [Act.put, List.setIfInBounds_toArray, List.set_cons_zero, List.set_cons_succ]
      apply cutC
      · intro hC
        refine wpAnyH_ready (rs := [4, 6]) (by kernel_rfl) (by simp) ?_
        refine AllReadyH.cons (by (simp only [List.getElem?_toArray, List.getElem?_cons_succ, List.getElem?_cons_zero]; rfl)) (fun K hK => ?_) (AllReadyH.cons (by (simp only [List.getElem?_toArray, List.getElem?_cons_succ, List.getElem?_cons_zero]; rfl)) (fun K hK => ?_) AllReadyH.nil)
        · have c0 : w12.cell? ⟨P, 4, none⟩ = some (.slice x.wA p.way.length x.wc) := cellb (i := 4) HPB_12.out rfl
          go_simp
          clear c0
          refine hK.out _ _ ?_ (fun hHeld => ?_)
          · try dsimp only
            (refine ?_ <;> (first | with_reducible assumption))
          clear hK K
          try simp only [Act.put, List.setIfInBounds_toArray, List.set_cons_zero, List.set_cons_succ]
          refine wpAnyH_ready (rs := [6]) (by kernel_rfl) (by simp) ?_
          refine AllReadyH.cons (by (simp only [List.getElem?_toArray, List.getElem?_cons_succ, List.getElem?_cons_zero]; rfl)) (fun K hK => ?_) AllReadyH.nil
          go_simp
          have GFP10 : (w12.alloc (.cells #[.int .i64 (uu 0), .int .i64 (uu 1), .int .i64 (uu 2), .int .i64 (uu 3), .int .i64 (uu 4), .int .i64 (uu 5), .int .i64 (uu 6), .int .i64 (uu 7), .int .i64 (uu 8), .int .i64 (uu 9), .int .i64 (uu 10), .int .i64 (uu 11), .int .i64 (uu 12), .int .i64 (uu 13), .int .i64 (uu 14), .int .i64 (uu 15), .int .i64 (uu 16), .slice none 0 0, .int .i64 (uu 18), .int .i64 (uu 19), .int .i64 (uu 20)] 36)).heap[P10]? = some (.cells (mcv uu (.slice none 0 0)) 36 (0, 0)) := alloc_blk FP10
          refine hK.out _ _ ?_ (fun hHeld => ?_)
          · try dsimp only
            (refine ?_ <;> (first | with_reducible assumption))
          clear hK K
          try simp only [Act.put, List.setIfInBounds_toArray, List.set_cons_zero, List.set_cons_succ]
          exact hC.out
        · go_simp
          have GFP10 : (w12.alloc (.cells #[.int .i64 (uu 0), .int .i64 (uu 1), .int .i64 (uu 2), .int .i64 (uu 3), .int .i64 (uu 4), .int .i64 (uu 5), .int .i64 (uu 6), .int .i64 (uu 7), .int .i64 (uu 8), .int .i64 (uu 9), .int .i64 (uu 10), .int .i64 (uu 11), .int .i64 (uu 12), .int .i64 (uu 13), .int .i64 (uu 14), .int .i64 (uu 15), .int .i64 (uu 16), .slice none 0 0, .int .i64 (uu 18), .int .i64 (uu 19), .int .i64 (uu 20)] 36)).heap[P10]? = some (.cells (mcv uu (.slice none 0 0)) 36 (0, 0)) := alloc_blk FP10
          refine hK.out _ _ ?_ (fun hHeld => ?_)
          · try dsimp only
            (refine ?_ <;> (first | with_reducible assumption))
          clear hK K
          try simp only [Act.put, List.setIfInBounds_toArray, List.set_cons_zero, List.set_cons_succ]
          refine wpAnyH_ready (rs := [4]) (by kernel_rfl) (by simp) ?_
          refine AllReadyH.cons (by (simp only [List.getElem?_toArray, List.getElem?_cons_succ, List.getElem?_cons_zero]; rfl)) (fun K hK => ?_) AllReadyH.nil
          have c0 : (w12.alloc (.cells #[.int .i64 (uu 0), .int .i64 (uu 1), .int .i64 (uu 2), .int .i64 (uu 3), .int .i64 (uu 4), .int .i64 (uu 5), .int .i64 (uu 6), .int .i64 (uu 7), .int .i64 (uu 8), .int .i64 (uu 9), .int .i64 (uu 10), .int .i64 (uu 11), .int .i64 (uu 12), .int .i64 (uu 13), .int .i64 (uu 14), .int .i64 (uu 15), .int .i64 (uu 16), .slice none 0 0, .int .i64 (uu 18), .int .i64 (uu 19), .int .i64 (uu 20)] 36)).cell? ⟨P, 4, none⟩ = some (.slice x.wA p.way.length x.wc) := keepA (cellb (i := 4) HPB_12.out rfl)
          go_simp
          clear c0
          refine hK.out _ _ ?_ (fun hHeld => ?_)
          · try dsimp only
            (refine ?_ <;> (first | with_reducible assumption))
          clear hK K
          try simp only [Act.put, List.setIfInBounds_toArray, List.set_cons_zero, List.set_cons_succ]
          exact hC.out
      obtain ⟨P88, hP88⟩ : ∃ x, x = w12.heap.size := ⟨_, rfl⟩
      have loP88 : lo ≤ P88 := (by have := ltb HPB_12.out; omega)
      have oP88_P4 : P4 < P88 := (by have := ltb HP4_12.out; omega)
      have oP88_P8 : P8 < P88 := (by have := ltb HP8_12.out; omega)
      have oP88_P10 : P10 < P88 := (by have := ltb HP10_12.out; omega)
      obtain ⟨w13, hw14⟩ : ∃ y, y = w12.alloc (.cells #[.int .i64 (uu 0), .int .i64 (uu 1), .int .i64 (uu 2), .int .i64 (uu 3), .int .i64 (uu 4), .int .i64 (uu 5), .int .i64 (uu 6), .int .i64 (uu 7), .int .i64 (uu 8), .int .i64 (uu 9), .int .i64 (uu 10), .int .i64 (uu 11), .int .i64 (uu 12), .int .i64 (uu 13), .int .i64 (uu 14), .int .i64 (uu 15), .int .i64 (uu 16), .slice none 0 0, .int .i64 (uu 18), .int .i64 (uu 19), .int .i64 (uu 20)] 36) := ⟨_, rfl⟩
      have hal : Below w12.heap.size w12 w13 := by rw [hw14]; exact (Below.refl _ _).alloc (Nat.le_refl _) _
      have hnew : w13.heap[P88]? = some (.cells (mcv uu (.slice none 0 0)) 36 (0, 0)) := by rw [hw14, hP88]; exact heap_alloc_new _ _
      have HNWAY_P88 : Hid ((.slice x.wA p.way.length x.wc : Value).ownBlock ≠ some P88) := Lib.hid (fun e => by have := (HWAY_12.out.lt _ e).2; omega)
      have HPB_13 : Hid (w13.heap[P]? = some (.cells #[.int .i64 id, .pointer (some ⟨x.gc, 0, none⟩), .pointer (some ⟨x.gs, 0, none⟩), .int .i64 p.ep, .slice x.wA p.way.length x.wc, .slice x.bA p.book.length x.bc, .int .i64 p.told, .int .i64 x.t1, .int .i64 x.t2, .slice ((some ⟨x.H, 0, none⟩)) p.heard.length p.heard.length] 54 (0, 0))) := Lib.hid ((hal.block P (ltb HPB_12.out)).trans HPB_12.out)
      have HC_13 : Hid (CAt w13 x.gc p.s x.cA x.cc) := Lib.hid (HC_12.out.below hal)
      have HWAY_13 : Hid (w13.ownsRow (x.H + 1) 36 21 (.slice x.wA p.way.length x.wc) p.way.length (mgs p.way)) := Lib.hid ((Chg.of_below (S := fun _ => False) hal).own HWAY_12.out (fun _ _ h => h))
      have HBOOK_13 : Hid (w13.ownsRow (x.H + 1) 3 1 (.slice x.bA p.book.length x.bc) p.book.length (ints p.book)) := Lib.hid ((Chg.of_below (S := fun _ => False) hal).own HBOOK_12.out (fun _ _ h => h))
      have HHD_13 : Hid (w13.heap[x.H]? = some (.cells (ints p.heard).toArray 3 (0, 0))) := Lib.hid ((hal.block x.H (ltb HHD_12.out)).trans HHD_12.out)
      have HB_13 : Hid (Chg (fun k => lo ≤ k) w0 w13) := Lib.hid (HB_12.out.trans (Chg.of_below hal))
      have HP4_13 : Hid (w13.heap[P4]? = some (.cells (mcv v (.slice B nb cb)) 36 (0, 0))) := Lib.hid ((hal.block P4 (ltb HP4_12.out)).trans HP4_12.out)
      have HP8_13 : Hid (w13.heap[P8]? = some (.cells (mcv u (.slice none 0 0)) 36 (0, 0))) := Lib.hid ((hal.block P8 (ltb HP8_12.out)).trans HP8_12.out)
      have HP9_13 : Hid (w13.heap[P9]? = some (.cells #[.int .i64 140, .int .i64 0, .int .i64 0] 34 (0, 0))) := Lib.hid ((hal.block P9 (ltb HP9_12.out)).trans HP9_12.out)
      have HS_13 : Hid (SAt w13 x.gs p.ep x.M (x.nn + 1) (if kk = true then kput f id ⟨v 16, 140, 0, 0⟩ else f)) := Lib.hid (HS_12.out.below hal)
      have HP10_13 : Hid (w13.heap[P10]? = some (.cells (mcv uu (.slice none 0 0)) 36 (0, 0))) := Lib.hid ((hal.block P10 (ltb HP10_12.out)).trans HP10_12.out)
      clear hal HPB_12 HC_12 HWAY_12 HBOOK_12 HHD_12 HB_12 HP4_12 HP8_12 HP9_12 HS_12 HP10_12
      have HP88_13 := Lib.hid hnew
      clear hnew
      rw [← hw14]
      clear hw14
      rw [← hP88]
      clear hP88
      have FP10' : w13.heap[P10]? = some (.cells (mcv uu (.slice none 0 0)) 36 (0, 0)) := HP10_13.out
      clear FP10
      have FP10 := FP10'
      clear FP10'
      have hHeld := True.intro
      refine wpAnyH_ready (rs := [7]) (by kernel_rfl) (by simp) ?_
      refine AllReadyH.cons (by (simp only [List.getElem?_toArray, List.getElem?_cons_succ, List.getElem?_cons_zero]; rfl)) (fun K hK => ?_) AllReadyH.nil
      refine step_append_row _ rfl (.tmp 86) (.tmp 88) _ rfl (x.H + 1) 36 i36 _ 21 184 Try.underlying52 HI36.out HZ36.out HY36.out HX36.out rfl (by omega) x.wA p.way.length x.wc (mgs p.way) rfl HWAY_13.out _ (some ⟨P88, 0, none⟩) 1 1 [.int .i64 (uu 0), .int .i64 (uu 1), .int .i64 (uu 2), .int .i64 (uu 3), .int .i64 (uu 4), .int .i64 (uu 5), .int .i64 (uu 6), .int .i64 (uu 7), .int .i64 (uu 8), .int .i64 (uu 9), .int .i64 (uu 10), .int .i64 (uu 11), .int .i64 (uu 12), .int .i64 (uu 13), .int .i64 (uu 14), .int .i64 (uu 15), .int .i64 (uu 16), .slice none 0 0, .int .i64 (uu 18), .int .i64 (uu 19), .int .i64 (uu 20)] rfl (cellsIn_blk HP88_13.out 21 1 rfl) (by simp [Value.oneCell']) (by unfold maxLen; omega) (by omega) (by have := ltb HHD_13.out; omega) ?_
      intro A15 c16 w14 hown hg hor
      have hch := Ch.ofOwn HWAY_13.out hg
      clear hg
      have HNWAY_P4' : Hid ((.slice A15 ((p.way.length + 1)) c16 : Value).ownBlock ≠ some P4) := Lib.hid (row_new2 HNWAY_P4.out hor (ltb HP4_13.out))
      have HNWAY_P8' : Hid ((.slice A15 ((p.way.length + 1)) c16 : Value).ownBlock ≠ some P8) := Lib.hid (row_new2 HNWAY_P8.out hor (ltb HP8_13.out))
      have HNWAY_P10' : Hid ((.slice A15 ((p.way.length + 1)) c16 : Value).ownBlock ≠ some P10) := Lib.hid (row_new2 HNWAY_P10.out hor (ltb HP10_13.out))
      have HNWAY_P88' : Hid ((.slice A15 ((p.way.length + 1)) c16 : Value).ownBlock ≠ some P88) := Lib.hid (row_new2 HNWAY_P88.out hor (ltb HP88_13.out))
      clear HNWAY_P88'
      have HPB_14 : Hid (w14.heap[P]? = some (.cells #[.int .i64 id, .pointer (some ⟨x.gc, 0, none⟩), .pointer (some ⟨x.gs, 0, none⟩), .int .i64 p.ep, .slice x.wA p.way.length x.wc, .slice x.bA p.book.length x.bc, .int .i64 p.told, .int .i64 x.t1, .int .i64 x.t2, .slice ((some ⟨x.H, 0, none⟩)) p.heard.length p.heard.length] 54 (0, 0))) := Lib.hid (hch.blk HPB_13.out (by show (54 + 1 : Nat) ≠ _; decide))
      have HC_14 : Hid (CAt w14 x.gc p.s x.cA x.cc) := Lib.hid (hch.cat HC_13.out (by decide) (by decide))
      have HBOOK_14 : Hid (w14.ownsRow (x.H + 1) 3 1 (.slice x.bA p.book.length x.bc) p.book.length (ints p.book)) := Lib.hid (hch.own HBOOK_13.out (by decide))
      have HHD_14 : Hid (w14.heap[x.H]? = some (.cells (ints p.heard).toArray 3 (0, 0))) := Lib.hid (hch.blk HHD_13.out (by show (3 + 1 : Nat) ≠ _; decide))
      have HB_14 : Hid (Chg (fun k => lo ≤ k) w0 w14) := Lib.hid (hch.low HB_13.out (fun k hk => by have := own_lowk HWAY_13.out k hk; omega))
      have HP4_14 : Hid (w14.heap[P4]? = some (.cells (mcv v (.slice B nb cb)) 36 (0, 0))) := Lib.hid (hch.blkN HP4_13.out HNWAY_P4.out)
      have HP8_14 : Hid (w14.heap[P8]? = some (.cells (mcv u (.slice none 0 0)) 36 (0, 0))) := Lib.hid (hch.blkN HP8_13.out HNWAY_P8.out)
      have HP9_14 : Hid (w14.heap[P9]? = some (.cells #[.int .i64 140, .int .i64 0, .int .i64 0] 34 (0, 0))) := Lib.hid (hch.blk HP9_13.out (by show (34 + 1 : Nat) ≠ _; decide))
      have HS_14 : Hid (SAt w14 x.gs p.ep x.M (x.nn + 1) (if kk = true then kput f id ⟨v 16, 140, 0, 0⟩ else f)) := Lib.hid (hch.sat HS_13.out (by decide) (by decide))
      have HP10_14 : Hid (w14.heap[P10]? = some (.cells (mcv uu (.slice none 0 0)) 36 (0, 0))) := Lib.hid (hch.blkN HP10_13.out HNWAY_P10.out)
      clear hch HPB_13 HC_13 HBOOK_13 HHD_13 HB_13 HP4_13 HP8_13 HP9_13 HS_13 HP10_13 HP88_13
      clear HNWAY_P4
      clear HNWAY_P8
      clear HNWAY_P10
      clear HNWAY_P88
      clear hor
      have HWAY_14 : Hid (w14.ownsRow (x.H + 1) 36 21 (.slice A15 ((p.way.length + 1)) c16) (p.way.length + 1) ((mgs p.way) ++ [.int .i64 (uu 0), .int .i64 (uu 1), .int .i64 (uu 2), .int .i64 (uu 3), .int .i64 (uu 4), .int .i64 (uu 5), .int .i64 (uu 6), .int .i64 (uu 7), .int .i64 (uu 8), .int .i64 (uu 9), .int .i64 (uu 10), .int .i64 (uu 11), .int .i64 (uu 12), .int .i64 (uu 13), .int .i64 (uu 14), .int .i64 (uu 15), .int .i64 (uu 16), .slice none 0 0, .int .i64 (uu 18), .int .i64 (uu 19), .int .i64 (uu 20)])) := Lib.hid hown
      clear hown HWAY_13
      have FP10' : w14.heap[P10]? = some (.cells (mcv uu (.slice none 0 0)) 36 (0, 0)) := HP10_14.out
      clear FP10
      have FP10 := FP10'
      clear FP10'
      refine hK.out _ _ ?_ (fun hHeld => ?_)
      · try dsimp only
        (refine ?_ <;> (first | with_reducible assumption))
      clear hK K
      try simp only [Act.put, List.setIfInBounds_toArray, List.set_cons_zero, List.set_cons_succ]
      refine wpAnyH_take (i := 8) (v := ?_) (by (simp only [List.getElem?_toArray, List.getElem?_cons_succ, List.getElem?_cons_zero]; rfl)) (by kernel_rfl) (by kernel_rfl) (by kernel_rfl) (fun _ _ _ h => h) (Or.inl ⟨by rfl, ?_⟩) (by assumption) ?_
      rotate_left
      · (intro w hSw; (try dsimp only at hSw); go_simp; try with_reducible rfl)
      try simp only [Act.put, List.setIfInBounds_toArray, List.set_cons_zero, List.set_cons_succ]
      refine wpAnyH_take (i := 9) (v := ?_) (by (simp only [List.getElem?_toArray, List.getElem?_cons_succ, List.getElem?_cons_zero]; rfl)) (by kernel_rfl) (by kernel_rfl) (by kernel_rfl) (fun _ _ _ h => h) (Or.inl ⟨by rfl, ?_⟩) (by assumption) ?_
      rotate_left
      · (intro w hSw; (try dsimp only at hSw); go_simp; try with_reducible rfl)
      try simp only [Act.put, List.setIfInBounds_toArray, List.set_cons_zero, List.set_cons_succ]
      refine wpAnyH_ready (rs := [10]) (by kernel_rfl) (by simp) ?_
      refine AllReadyH.cons (by (simp only [List.getElem?_toArray, List.getElem?_cons_succ, List.getElem?_cons_zero]; rfl)) (fun K hK => ?_) AllReadyH.nil
      have c0 : w14.cell? ⟨P, 4, none⟩ = some (.slice x.wA p.way.length x.wc) := cellb (i := 4) HPB_14.out rfl
      have f0 : w14.frozen? ⟨P, 4, none⟩ = false := fzb HPB_14.out 4
      go_simp
      clear c0 f0
      obtain ⟨w15, hw17⟩ : ∃ y, y = w14.setCell ⟨P, 4, none⟩ (.slice A15 ((p.way.length + 1)) c16) := ⟨_, rfl⟩
      have hch := Ch.ofCell (i := 4) HPB_14.out (.slice A15 ((p.way.length + 1)) c16)
      rw [← hw17] at hch
      have hnew : w15.heap[P]? = some (.cells #[.int .i64 id, .pointer (some ⟨x.gc, 0, none⟩), .pointer (some ⟨x.gs, 0, none⟩), .int .i64 p.ep, .slice A15 ((p.way.length + 1)) c16, .slice x.bA p.book.length x.bc, .int .i64 p.told, .int .i64 x.t1, .int .i64 x.t2, .slice ((some ⟨x.H, 0, none⟩)) p.heard.length p.heard.length] 54 (0, 0)) := by rw [hw17]; exact set_blk HPB_14.out _
      have HC_15 : Hid (CAt w15 x.gc p.s x.cA x.cc) := Lib.hid (hch.cat HC_14.out (by decide) (by decide))
      have HBOOK_15 : Hid (w15.ownsRow (x.H + 1) 3 1 (.slice x.bA p.book.length x.bc) p.book.length (ints p.book)) := Lib.hid (hch.own HBOOK_14.out (by decide))
      have HHD_15 : Hid (w15.heap[x.H]? = some (.cells (ints p.heard).toArray 3 (0, 0))) := Lib.hid (hch.blk HHD_14.out (by show (3 + 1 : Nat) ≠ _; decide))
      have HB_15 : Hid (Chg (fun k => lo ≤ k) w0 w15) := Lib.hid (hch.low HB_14.out (fun k hk => by injection hk with hk; omega))
      have HP4_15 : Hid (w15.heap[P4]? = some (.cells (mcv v (.slice B nb cb)) 36 (0, 0))) := Lib.hid (hch.blk HP4_14.out (by show (36 + 1 : Nat) ≠ _; decide))
      have HP8_15 : Hid (w15.heap[P8]? = some (.cells (mcv u (.slice none 0 0)) 36 (0, 0))) := Lib.hid (hch.blk HP8_14.out (by show (36 + 1 : Nat) ≠ _; decide))
      have HP9_15 : Hid (w15.heap[P9]? = some (.cells #[.int .i64 140, .int .i64 0, .int .i64 0] 34 (0, 0))) := Lib.hid (hch.blk HP9_14.out (by show (34 + 1 : Nat) ≠ _; decide))
      have HS_15 : Hid (SAt w15 x.gs p.ep x.M (x.nn + 1) (if kk = true then kput f id ⟨v 16, 140, 0, 0⟩ else f)) := Lib.hid (hch.sat HS_14.out (by decide) (by decide))
      have HP10_15 : Hid (w15.heap[P10]? = some (.cells (mcv uu (.slice none 0 0)) 36 (0, 0))) := Lib.hid (hch.blk HP10_14.out (by show (36 + 1 : Nat) ≠ _; decide))
      have HWAY_15 : Hid (w15.ownsRow (x.H + 1) 36 21 (.slice A15 ((p.way.length + 1)) c16) (p.way.length + 1) ((mgs p.way) ++ [.int .i64 (uu 0), .int .i64 (uu 1), .int .i64 (uu 2), .int .i64 (uu 3), .int .i64 (uu 4), .int .i64 (uu 5), .int .i64 (uu 6), .int .i64 (uu 7), .int .i64 (uu 8), .int .i64 (uu 9), .int .i64 (uu 10), .int .i64 (uu 11), .int .i64 (uu 12), .int .i64 (uu 13), .int .i64 (uu 14), .int .i64 (uu 15), .int .i64 (uu 16), .slice none 0 0, .int .i64 (uu 18), .int .i64 (uu 19), .int .i64 (uu 20)])) := Lib.hid (hch.own HWAY_14.out (by decide))
      clear hch HC_14 HBOOK_14 HHD_14 HB_14 HP4_14 HP8_14 HP9_14 HS_14 HP10_14 HWAY_14
      have HPB_15 := Lib.hid hnew
      clear hnew HPB_14
      rw [← hw17]
      clear hw17
      have FP10' : w15.heap[P10]? = some (.cells (mcv uu (.slice none 0 0)) 36 (0, 0)) := HP10_15.out
      clear FP10
      have FP10 := FP10'
      clear FP10'
      refine hK.out _ _ ?_ (fun hHeld => ?_)
      · try dsimp only
        (refine ?_ <;> (first | with_reducible assumption))
      clear hK K
      try simp only [Act.put]
      refine wpAnyH_done (by kernel_rfl) ?_ _
      refine NoPanic.normal ?_
      clear hHeld FP10
      go_wp2_with fail
      go_ret
      have hI := HI.out
      have e : (p.way ++ [(⟨uu, none, 0, 0⟩ : Mg)]).length = p.way.length + 1 := by simp
      have hP : w15.heap[P]? = some (.cells #[.int .i64 id, .pointer (some ⟨x.gc, 0, none⟩), .pointer (some ⟨x.gs, 0, none⟩), .int .i64 p.ep, .slice A15 ((p.way ++ [(⟨uu, none, 0, 0⟩ : Mg)]).length) c16, .slice x.bA p.book.length x.bc, .int .i64 p.told, .int .i64 x.t1, .int .i64 x.t2, .slice ((some ⟨x.H, 0, none⟩)) p.heard.length p.heard.length] 54 (0, 0)) := by rw [e]; exact HPB_15.out
      have hR : w15.ownsRow (x.H + 1) 36 21 (.slice A15 (p.way ++ [(⟨uu, none, 0, 0⟩ : Mg)]).length c16) (p.way ++ [(⟨uu, none, 0, 0⟩ : Mg)]).length (mgs (p.way ++ [(⟨uu, none, 0, 0⟩ : Mg)])) := by rw [e, mgs_snoc]; exact HWAY_15.out
      have hK : w15.ownsRow (x.H + 1) 3 1 (.slice x.bA p.book.length x.bc) p.book.length (ints p.book) := by exact HBOOK_15.out
      have hD := hI.doneRep ⟨v, B, nb, cb⟩ HM.out HDO.out.1 HDO.out.2.1 HB2.out.1 HB2.out.2.1 false 140 0 0 rfl kk uu HU.out p.way HSUB.out p.told hI.told
      refine ⟨rfl, { x with wA := A15, wc := c16, bA := x.bA, bc := x.bc, t1 := x.t1, t2 := x.t2, nn := x.nn + 1 }, (if kk = true then kput f id ⟨v 16, 140, 0, 0⟩ else f), { p with way := p.way ++ [(⟨uu, none, 0, 0⟩ : Mg)], book := p.book, told := p.told, k := (if kk = true then ⟨v 16, 140, 0, 0⟩ else p.k) }, ⟨hP, HC_15.out, HS_15.out, hR, hK, HHD_15.out, ?_, l1, l2, l3, l4⟩, hD, fun h m hm => ?_, by show (p.way ++ [(⟨uu, none, 0, 0⟩ : Mg)]).length ≤ _; omega, by simp, by simp, rfl, ⟨by show p.ep ≤ p.ep + 1; omega, hat, hbd⟩, HB_15.out⟩
      · cases kk
        · exact HKF.out
        · show (⟨v 16, 140, 0, 0⟩ : Kp) = kput f id ⟨v 16, 140, 0, 0⟩ id
          simp [kput]
      · rcases List.mem_append.1 hm with h2 | h2
        · exact h m h2
        · rw [List.mem_singleton.1 h2]; exact HWU.out
    · skip
      have q8 : ¬ v 16 ≤ lastB p.book := by have := HB2.out.2.1; omega
      obtain ⟨c63, q63⟩ : ∃ c, bits .and .i64 (v 16) 63 = c := ⟨_, rfl⟩
      go_upto_region 8 with (fail)
      have HPB_8 : Hid (w7.drew.heap[P]? = some (.cells #[.int .i64 id, .pointer (some ⟨x.gc, 0, none⟩), .pointer (some ⟨x.gs, 0, none⟩), .int .i64 p.ep, .slice x.wA p.way.length x.wc, .slice x.bA p.book.length x.bc, .int .i64 p.told, .int .i64 x.t1, .int .i64 x.t2, .slice ((some ⟨x.H, 0, none⟩)) p.heard.length p.heard.length] 54 (0, 0))) := Lib.hid ((((Below.refl w7.heap.size w7).drew).block P (ltb HPB_7.out)).trans HPB_7.out)
      have HC_8 : Hid (CAt w7.drew x.gc p.s x.cA x.cc) := Lib.hid (HC_7.out.below ((Below.refl w7.heap.size w7).drew))
      have HS_8 : Hid (SAt w7.drew x.gs p.ep x.M x.nn f) := Lib.hid (HS_7.out.below ((Below.refl w7.heap.size w7).drew))
      have HWAY_8 : Hid (w7.drew.ownsRow (x.H + 1) 36 21 (.slice x.wA p.way.length x.wc) p.way.length (mgs p.way)) := Lib.hid ((Chg.of_below (S := fun _ => False) ((Below.refl w7.heap.size w7).drew)).own HWAY_7.out (fun _ _ h => h))
      have HBOOK_8 : Hid (w7.drew.ownsRow (x.H + 1) 3 1 (.slice x.bA p.book.length x.bc) p.book.length (ints p.book)) := Lib.hid ((Chg.of_below (S := fun _ => False) ((Below.refl w7.heap.size w7).drew)).own HBOOK_7.out (fun _ _ h => h))
      have HHD_8 : Hid (w7.drew.heap[x.H]? = some (.cells (ints p.heard).toArray 3 (0, 0))) := Lib.hid ((((Below.refl w7.heap.size w7).drew).block x.H (ltb HHD_7.out)).trans HHD_7.out)
      have HB_8 : Hid (Chg (fun k => lo ≤ k) w0 w7.drew) := Lib.hid (HB_7.out.trans (Chg.of_below ((Below.refl w7.heap.size w7).drew)))
      have HP4_8 : Hid (w7.drew.heap[P4]? = some (.cells (mcv v (.slice B nb cb)) 36 (0, 0))) := Lib.hid ((((Below.refl w7.heap.size w7).drew).block P4 (ltb HP4_7.out)).trans HP4_7.out)
      have HP8_8 : Hid (w7.drew.heap[P8]? = some (.cells (mcv u (.slice none 0 0)) 36 (0, 0))) := Lib.hid ((((Below.refl w7.heap.size w7).drew).block P8 (ltb HP8_7.out)).trans HP8_7.out)
      have HP9_8 : Hid (w7.drew.heap[P9]? = some (.cells #[.int .i64 140, .int .i64 0, .int .i64 0] 34 (0, 0))) := Lib.hid ((((Below.refl w7.heap.size w7).drew).block P9 (ltb HP9_7.out)).trans HP9_7.out)
      clear HPB_7 HC_7 HS_7 HWAY_7 HBOOK_7 HHD_7 HB_7 HP4_7 HP8_7 HP9_7
      have FP4 : w7.drew.heap[P4]? = some (.cells (mcv v (.slice B nb cb)) 36 (0, 0)) := HP4_8.out
      refine wp_region_noPanic ?_
      refine wp_region_held_drew (S := fun w' => w'.heap[P4]? = some (.cells (mcv v (.slice B nb cb)) 36 (0, 0))) (by kernel_rfl) ?_ (fun hHeld => ?_)
      · try dsimp only
        (refine ?_ <;> (first | with_reducible assumption))
      generalize w7.drew = w8 at *
      refine wpAnyH_take (i := 0) (v := ?_) (by (simp only [List.getElem?_toArray, List.getElem?_cons_zero]; rfl)) (by kernel_rfl) (by kernel_rfl) (by kernel_rfl) (fun _ _ _ h => h) (Or.inl ⟨by rfl, ?_⟩) (by assumption) ?_
      rotate_left
      · (intro w hSw; (try dsimp only at hSw); go_simp; try with_reducible rfl)
      try simp only [Act.put, List.setIfInBounds_toArray, List.set_cons_zero, List.set_cons_succ]
      refine wpAnyH_take (i := 1) (v := ?_) (by (simp only [List.getElem?_toArray, List.getElem?_cons_succ, List.getElem?_cons_zero]; rfl)) (by kernel_rfl) (by kernel_rfl) (by kernel_rfl) (fun _ _ _ h => h) (Or.inl ⟨by rfl, ?_⟩) (by assumption) ?_
      rotate_left
      · intro w hSw
        try dsimp only at hSw
        have x0 : w.cell? ⟨P4, 16, none⟩ = some (.int .i64 (v 16)) := (cellb (i := 16) hSw rfl)
        go_simp; try with_reducible rfl
      try simp only [Act.put, List.setIfInBounds_toArray, List.set_cons_zero, List.set_cons_succ]
      refine wpAnyH_take (i := 2) (v := ?_) (by (simp only [List.getElem?_toArray, List.getElem?_cons_succ, List.getElem?_cons_zero]; rfl)) (by kernel_rfl) (by kernel_rfl) (by kernel_rfl) (fun _ _ _ h => h) (Or.inl ⟨by rfl, ?_⟩) (by assumption) ?_
      rotate_left
      · (intro w hSw; (try dsimp only at hSw); go_simp; try with_reducible rfl)
      try simp only [Act.put, List.setIfInBounds_toArray, List.set_cons_zero, List.set_cons_succ]
      refine wpAnyH_ready (rs := [3]) (by kernel_rfl) (by simp) ?_
      refine AllReadyH.cons (by (simp only [List.getElem?_toArray, List.getElem?_cons_succ, List.getElem?_cons_zero]; rfl)) (fun K hK => ?_) AllReadyH.nil
      go_simp
      refine (last_any P id p.ep p.told x.t1 x.t2 x.gc x.gs x.H p.way.length x.wc p.book.length x.bc p.heard.length x.wA x.bA (x.H + 1) p.book w8 HPB_8.out HBOOK_8.out rfl).mono ?_
      rintro e w9 ⟨rfl, hb⟩
      have HPB_9 : Hid (w9.heap[P]? = some (.cells #[.int .i64 id, .pointer (some ⟨x.gc, 0, none⟩), .pointer (some ⟨x.gs, 0, none⟩), .int .i64 p.ep, .slice x.wA p.way.length x.wc, .slice x.bA p.book.length x.bc, .int .i64 p.told, .int .i64 x.t1, .int .i64 x.t2, .slice ((some ⟨x.H, 0, none⟩)) p.heard.length p.heard.length] 54 (0, 0))) := Lib.hid ((hb.block P (ltb HPB_8.out)).trans HPB_8.out)
      have HC_9 : Hid (CAt w9 x.gc p.s x.cA x.cc) := Lib.hid (HC_8.out.below hb)
      have HS_9 : Hid (SAt w9 x.gs p.ep x.M x.nn f) := Lib.hid (HS_8.out.below hb)
      have HWAY_9 : Hid (w9.ownsRow (x.H + 1) 36 21 (.slice x.wA p.way.length x.wc) p.way.length (mgs p.way)) := Lib.hid ((Chg.of_below (S := fun _ => False) hb).own HWAY_8.out (fun _ _ h => h))
      have HBOOK_9 : Hid (w9.ownsRow (x.H + 1) 3 1 (.slice x.bA p.book.length x.bc) p.book.length (ints p.book)) := Lib.hid ((Chg.of_below (S := fun _ => False) hb).own HBOOK_8.out (fun _ _ h => h))
      have HHD_9 : Hid (w9.heap[x.H]? = some (.cells (ints p.heard).toArray 3 (0, 0))) := Lib.hid ((hb.block x.H (ltb HHD_8.out)).trans HHD_8.out)
      have HB_9 : Hid (Chg (fun k => lo ≤ k) w0 w9) := Lib.hid (HB_8.out.trans (Chg.of_below hb))
      have HP4_9 : Hid (w9.heap[P4]? = some (.cells (mcv v (.slice B nb cb)) 36 (0, 0))) := Lib.hid ((hb.block P4 (ltb HP4_8.out)).trans HP4_8.out)
      have HP8_9 : Hid (w9.heap[P8]? = some (.cells (mcv u (.slice none 0 0)) 36 (0, 0))) := Lib.hid ((hb.block P8 (ltb HP8_8.out)).trans HP8_8.out)
      have HP9_9 : Hid (w9.heap[P9]? = some (.cells #[.int .i64 140, .int .i64 0, .int .i64 0] 34 (0, 0))) := Lib.hid ((hb.block P9 (ltb HP9_8.out)).trans HP9_8.out)
      clear hb HPB_8 HC_8 HS_8 HWAY_8 HBOOK_8 HHD_8 HB_8 HP4_8 HP8_8 HP9_8
      have FP4' : w9.heap[P4]? = some (.cells (mcv v (.slice B nb cb)) 36 (0, 0)) := HP4_9.out
      clear FP4
      have FP4 := FP4'
      clear FP4'
      refine hK.out _ _ ?_ (fun hHeld => ?_)
      · try dsimp only
        (refine ?_ <;> (first | with_reducible assumption))
      clear hK K
      try simp only [Act.put, List.setIfInBounds_toArray, List.set_cons_zero, List.set_cons_succ]
      refine wpAnyH_take (i := 4) (v := ?_) (by (simp only [List.getElem?_toArray, List.getElem?_cons_succ, List.getElem?_cons_zero]; rfl)) (by kernel_rfl) (by kernel_rfl) (by kernel_rfl) (fun _ _ _ h => h) (Or.inl ⟨by rfl, ?_⟩) (by assumption) ?_
      rotate_left
      · (intro w hSw; (try dsimp only at hSw); go_simp; try with_reducible rfl)
      try simp only [Act.put, List.setIfInBounds_toArray, List.set_cons_zero, List.set_cons_succ]
      refine wpAnyH_done (by kernel_rfl) ?_ _
      refine NoPanic.normal ?_
      clear hHeld FP4
      have HST := HP9_9
      have cc18 : w9.cell? ⟨P4, 16, none⟩ = some (.int .i64 (v 16)) := cellb (i := 16) HP4_9.out rfl
      obtain ⟨w10, hw19⟩ : ∃ y, y = w9.setRow P9 #[.int .i64 0, .int .i64 c63, .int .i64 0] := ⟨_, rfl⟩
      have hch := Ch.ofRow HP9_9.out #[.int .i64 0, .int .i64 c63, .int .i64 0]
      rw [← hw19] at hch
      have hnew : w10.heap[P9]? = some (.cells #[.int .i64 0, .int .i64 c63, .int .i64 0] 34 (0, 0)) := by rw [hw19]; exact setRow_heap _ _ _ _ _ _ HP9_9.out
      have HPB_10 : Hid (w10.heap[P]? = some (.cells #[.int .i64 id, .pointer (some ⟨x.gc, 0, none⟩), .pointer (some ⟨x.gs, 0, none⟩), .int .i64 p.ep, .slice x.wA p.way.length x.wc, .slice x.bA p.book.length x.bc, .int .i64 p.told, .int .i64 x.t1, .int .i64 x.t2, .slice ((some ⟨x.H, 0, none⟩)) p.heard.length p.heard.length] 54 (0, 0))) := Lib.hid (hch.blk HPB_9.out (by show (54 + 1 : Nat) ≠ _; decide))
      have HC_10 : Hid (CAt w10 x.gc p.s x.cA x.cc) := Lib.hid (hch.cat HC_9.out (by decide) (by decide))
      have HS_10 : Hid (SAt w10 x.gs p.ep x.M x.nn f) := Lib.hid (hch.sat HS_9.out (by decide) (by decide))
      have HWAY_10 : Hid (w10.ownsRow (x.H + 1) 36 21 (.slice x.wA p.way.length x.wc) p.way.length (mgs p.way)) := Lib.hid (hch.own HWAY_9.out (by decide))
      have HBOOK_10 : Hid (w10.ownsRow (x.H + 1) 3 1 (.slice x.bA p.book.length x.bc) p.book.length (ints p.book)) := Lib.hid (hch.own HBOOK_9.out (by decide))
      have HHD_10 : Hid (w10.heap[x.H]? = some (.cells (ints p.heard).toArray 3 (0, 0))) := Lib.hid (hch.blk HHD_9.out (by show (3 + 1 : Nat) ≠ _; decide))
      have HB_10 : Hid (Chg (fun k => lo ≤ k) w0 w10) := Lib.hid (hch.low HB_9.out (fun k hk => by injection hk with hk; omega))
      have HP4_10 : Hid (w10.heap[P4]? = some (.cells (mcv v (.slice B nb cb)) 36 (0, 0))) := Lib.hid (hch.blk HP4_9.out (by show (36 + 1 : Nat) ≠ _; decide))
      have HP8_10 : Hid (w10.heap[P8]? = some (.cells (mcv u (.slice none 0 0)) 36 (0, 0))) := Lib.hid (hch.blk HP8_9.out (by show (36 + 1 : Nat) ≠ _; decide))
      clear hch HPB_9 HC_9 HS_9 HWAY_9 HBOOK_9 HHD_9 HB_9 HP4_9 HP8_9
      have HP9_10 := Lib.hid hnew
      clear hnew HP9_9
      go_upto_region 11 with (refine wpList_store_row rfl 34 (.tmp 9) (.tmp 51) rfl P9 _ rfl rfl 34 _ HST.out (by kernel_rfl) rfl (by simp [Value.oneCell']) ?_)
      clear cc18 HST
      rw [← hw19]
      clear hw19
      have K20 := HP9_10
      have K21 := HPB_10
      obtain ⟨w11, hw22⟩ : ∃ y, y = w10.setCells P 6 [.int .i64 0, .int .i64 c63, .int .i64 0] := ⟨_, rfl⟩
      have hch := Ch.ofCells [.int .i64 0, .int .i64 c63, .int .i64 0] 6 _ _ HPB_10.out
      rw [← hw22] at hch
      have hnew : w11.heap[P]? = some (.cells #[.int .i64 id, .pointer (some ⟨x.gc, 0, none⟩), .pointer (some ⟨x.gs, 0, none⟩), .int .i64 p.ep, .slice x.wA p.way.length x.wc, .slice x.bA p.book.length x.bc, .int .i64 0, .int .i64 c63, .int .i64 0, .slice ((some ⟨x.H, 0, none⟩)) p.heard.length p.heard.length] 54 (0, 0)) := by rw [hw22]; exact setCells_blk [.int .i64 0, .int .i64 c63, .int .i64 0] 6 _ _ HPB_10.out
      have HC_11 : Hid (CAt w11 x.gc p.s x.cA x.cc) := Lib.hid (hch.cat HC_10.out (by decide) (by decide))
      have HS_11 : Hid (SAt w11 x.gs p.ep x.M x.nn f) := Lib.hid (hch.sat HS_10.out (by decide) (by decide))
      have HWAY_11 : Hid (w11.ownsRow (x.H + 1) 36 21 (.slice x.wA p.way.length x.wc) p.way.length (mgs p.way)) := Lib.hid (hch.own HWAY_10.out (by decide))
      have HBOOK_11 : Hid (w11.ownsRow (x.H + 1) 3 1 (.slice x.bA p.book.length x.bc) p.book.length (ints p.book)) := Lib.hid (hch.own HBOOK_10.out (by decide))
      have HHD_11 : Hid (w11.heap[x.H]? = some (.cells (ints p.heard).toArray 3 (0, 0))) := Lib.hid (hch.blk HHD_10.out (by show (3 + 1 : Nat) ≠ _; decide))
      have HB_11 : Hid (Chg (fun k => lo ≤ k) w0 w11) := Lib.hid (hch.low HB_10.out (fun k hk => by injection hk with hk; omega))
      have HP4_11 : Hid (w11.heap[P4]? = some (.cells (mcv v (.slice B nb cb)) 36 (0, 0))) := Lib.hid (hch.blk HP4_10.out (by show (36 + 1 : Nat) ≠ _; decide))
      have HP8_11 : Hid (w11.heap[P8]? = some (.cells (mcv u (.slice none 0 0)) 36 (0, 0))) := Lib.hid (hch.blk HP8_10.out (by show (36 + 1 : Nat) ≠ _; decide))
      have HP9_11 : Hid (w11.heap[P9]? = some (.cells #[.int .i64 0, .int .i64 c63, .int .i64 0] 34 (0, 0))) := Lib.hid (hch.blk HP9_10.out (by show (34 + 1 : Nat) ≠ _; decide))
      clear hch HC_10 HS_10 HWAY_10 HBOOK_10 HHD_10 HB_10 HP4_10 HP8_10 HP9_10
      have HPB_11 := Lib.hid hnew
      clear hnew HPB_10
      go_upto_region 12 with (first | (refine wpList_load_row rfl 34 (.tmp 9) rfl P9 rfl 34 _ (0, 0) _ K20.out Try.underlying34 rfl (by kernel_rfl) ?_) | (refine wpList_store_mid rfl 34 (.tmp 55) (.tmp 53) rfl P 6 #[.int .i64 0, .int .i64 c63, .int .i64 0] rfl rfl (there_blk K21.out 6 _ (by simp)) (by kernel_rfl) (by simp [Value.oneCell']) ?_))
      clear K20 K21
      rw [← hw22]
      clear hw22
      have HC_12 : Hid (CAt w11.drew x.gc p.s x.cA x.cc) := Lib.hid (HC_11.out.below ((Below.refl w11.heap.size w11).drew))
      have HS_12 : Hid (SAt w11.drew x.gs p.ep x.M x.nn f) := Lib.hid (HS_11.out.below ((Below.refl w11.heap.size w11).drew))
      have HWAY_12 : Hid (w11.drew.ownsRow (x.H + 1) 36 21 (.slice x.wA p.way.length x.wc) p.way.length (mgs p.way)) := Lib.hid ((Chg.of_below (S := fun _ => False) ((Below.refl w11.heap.size w11).drew)).own HWAY_11.out (fun _ _ h => h))
      have HBOOK_12 : Hid (w11.drew.ownsRow (x.H + 1) 3 1 (.slice x.bA p.book.length x.bc) p.book.length (ints p.book)) := Lib.hid ((Chg.of_below (S := fun _ => False) ((Below.refl w11.heap.size w11).drew)).own HBOOK_11.out (fun _ _ h => h))
      have HHD_12 : Hid (w11.drew.heap[x.H]? = some (.cells (ints p.heard).toArray 3 (0, 0))) := Lib.hid ((((Below.refl w11.heap.size w11).drew).block x.H (ltb HHD_11.out)).trans HHD_11.out)
      have HB_12 : Hid (Chg (fun k => lo ≤ k) w0 w11.drew) := Lib.hid (HB_11.out.trans (Chg.of_below ((Below.refl w11.heap.size w11).drew)))
      have HP4_12 : Hid (w11.drew.heap[P4]? = some (.cells (mcv v (.slice B nb cb)) 36 (0, 0))) := Lib.hid ((((Below.refl w11.heap.size w11).drew).block P4 (ltb HP4_11.out)).trans HP4_11.out)
      have HP8_12 : Hid (w11.drew.heap[P8]? = some (.cells (mcv u (.slice none 0 0)) 36 (0, 0))) := Lib.hid ((((Below.refl w11.heap.size w11).drew).block P8 (ltb HP8_11.out)).trans HP8_11.out)
      have HP9_12 : Hid (w11.drew.heap[P9]? = some (.cells #[.int .i64 0, .int .i64 c63, .int .i64 0] 34 (0, 0))) := Lib.hid ((((Below.refl w11.heap.size w11).drew).block P9 (ltb HP9_11.out)).trans HP9_11.out)
      have HPB_12 : Hid (w11.drew.heap[P]? = some (.cells #[.int .i64 id, .pointer (some ⟨x.gc, 0, none⟩), .pointer (some ⟨x.gs, 0, none⟩), .int .i64 p.ep, .slice x.wA p.way.length x.wc, .slice x.bA p.book.length x.bc, .int .i64 0, .int .i64 c63, .int .i64 0, .slice ((some ⟨x.H, 0, none⟩)) p.heard.length p.heard.length] 54 (0, 0))) := Lib.hid ((((Below.refl w11.heap.size w11).drew).block P (ltb HPB_11.out)).trans HPB_11.out)
      clear HC_11 HS_11 HWAY_11 HBOOK_11 HHD_11 HB_11 HP4_11 HP8_11 HP9_11 HPB_11
      have FP4 : w11.drew.heap[P4]? = some (.cells (mcv v (.slice B nb cb)) 36 (0, 0)) := HP4_12.out
      refine wp_region_noPanic ?_
      refine wp_region_held_drew (S := fun w' => w'.heap[P4]? = some (.cells (mcv v (.slice B nb cb)) 36 (0, 0))) (by kernel_rfl) ?_ (fun hHeld => ?_)
      · try dsimp only
        (refine ?_ <;> (first | with_reducible assumption))
      generalize w11.drew = w12 at *
      refine wpAnyH_take (i := 0) (v := ?_) (by (simp only [List.getElem?_toArray, List.getElem?_cons_zero]; rfl)) (by kernel_rfl) (by kernel_rfl) (by kernel_rfl) (fun _ _ _ h => h) (Or.inl ⟨by rfl, ?_⟩) (by assumption) ?_
      rotate_left
      · (intro w hSw; (try dsimp only at hSw); go_simp; try with_reducible rfl)
      try simp only [Act.put, List.setIfInBounds_toArray, List.set_cons_zero, List.set_cons_succ]
      refine wpAnyH_take (i := 1) (v := ?_) (by (simp only [List.getElem?_toArray, List.getElem?_cons_succ, List.getElem?_cons_zero]; rfl)) (by kernel_rfl) (by kernel_rfl) (by kernel_rfl) (fun _ _ _ h => h) (Or.inl ⟨by rfl, ?_⟩) (by assumption) ?_
      rotate_left
      · (intro w hSw; (try dsimp only at hSw); go_simp; try with_reducible rfl)
      try simp only [Act.put, List.setIfInBounds_toArray, List.set_cons_zero, List.set_cons_succ]
      refine wpAnyH_take (i := 2) (v := ?_) (by (simp only [List.getElem?_toArray, List.getElem?_cons_succ, List.getElem?_cons_zero]; rfl)) (by kernel_rfl) (by kernel_rfl) (by kernel_rfl) (fun _ _ _ h => h) (Or.inl ⟨by rfl, ?_⟩) (by assumption) ?_
      rotate_left
      · (intro w hSw; (try dsimp only at hSw); go_simp; try with_reducible rfl)
      try simp only [Act.put, List.setIfInBounds_toArray, List.set_cons_zero, List.set_cons_succ]
      refine wpAnyH_take (i := 3) (v := ?_) (by (simp only [List.getElem?_toArray, List.getElem?_cons_succ, List.getElem?_cons_zero]; rfl)) (by kernel_rfl) (by kernel_rfl) (by kernel_rfl) (fun _ _ _ h => h) (Or.inl ⟨by rfl, ?_⟩) (by assumption) ?_
      rotate_left
      · (intro w hSw; (try dsimp only at hSw); go_simp; try with_reducible rfl)
      try simp only [Act.put, List.setIfInBounds_toArray, List.set_cons_zero, List.set_cons_succ]
      refine wpAnyH_take (i := 5) (v := ?_) (by (simp only [List.getElem?_toArray, List.getElem?_cons_succ, List.getElem?_cons_zero]; rfl)) (by kernel_rfl) (by kernel_rfl) (by kernel_rfl) (fun _ _ _ h => h) (Or.inl ⟨by rfl, ?_⟩) (by assumption) ?_
      rotate_left
      · (intro w hSw; (try dsimp only at hSw); go_simp; try with_reducible rfl)
      try simp only [Act.put, List.setIfInBounds_toArray, List.set_cons_zero, List.set_cons_succ]
      refine wpAnyH_take (i := 6) (v := ?_) (by (simp only [List.getElem?_toArray, List.getElem?_cons_succ, List.getElem?_cons_zero]; rfl)) (by kernel_rfl) (by kernel_rfl) (by kernel_rfl) (fun _ _ _ h => h) (Or.inl ⟨by rfl, ?_⟩) (by assumption) ?_
      rotate_left
      · intro w hSw
        try dsimp only at hSw
        have x0 : w.cell? ⟨P4, 16, none⟩ = some (.int .i64 (v 16)) := (cellb (i := 16) hSw rfl)
        go_simp; try with_reducible rfl
      try simp only [Act.put, List.setIfInBounds_toArray, List.set_cons_zero, List.set_cons_succ]
      apply cutC
      · intro hC
        refine wpAnyH_ready (rs := [4, 7]) (by kernel_rfl) (by simp) ?_
        refine AllReadyH.cons (by (simp only [List.getElem?_toArray, List.getElem?_cons_succ, List.getElem?_cons_zero]; rfl)) (fun K hK => ?_) (AllReadyH.cons (by (simp only [List.getElem?_toArray, List.getElem?_cons_succ, List.getElem?_cons_zero]; rfl)) (fun K hK => ?_) AllReadyH.nil)
        · have c0 : w12.cell? ⟨P, 5, none⟩ = some (.slice x.bA p.book.length x.bc) := cellb (i := 5) HPB_12.out rfl
          go_simp
          clear c0
          refine hK.out _ _ ?_ (fun hHeld => ?_)
          · try dsimp only
            (refine ?_ <;> (first | with_reducible assumption))
          clear hK K
          try simp only [Act.put, List.setIfInBounds_toArray, List.set_cons_zero, List.set_cons_succ]
          refine wpAnyH_ready (rs := [7]) (by kernel_rfl) (by simp) ?_
          refine AllReadyH.cons (by (simp only [List.getElem?_toArray, List.getElem?_cons_succ, List.getElem?_cons_zero]; rfl)) (fun K hK => ?_) AllReadyH.nil
          go_simp
          have GFP4 : (w12.alloc (.cells #[.int .i64 (v 16)] 3)).heap[P4]? = some (.cells (mcv v (.slice B nb cb)) 36 (0, 0)) := alloc_blk FP4
          refine hK.out _ _ ?_ (fun hHeld => ?_)
          · try dsimp only
            (refine ?_ <;> (first | with_reducible assumption))
          clear hK K
          try simp only [Act.put, List.setIfInBounds_toArray, List.set_cons_zero, List.set_cons_succ]
          exact hC.out
        · go_simp
          have GFP4 : (w12.alloc (.cells #[.int .i64 (v 16)] 3)).heap[P4]? = some (.cells (mcv v (.slice B nb cb)) 36 (0, 0)) := alloc_blk FP4
          refine hK.out _ _ ?_ (fun hHeld => ?_)
          · try dsimp only
            (refine ?_ <;> (first | with_reducible assumption))
          clear hK K
          try simp only [Act.put, List.setIfInBounds_toArray, List.set_cons_zero, List.set_cons_succ]
          refine wpAnyH_ready (rs := [4]) (by kernel_rfl) (by simp) ?_
          refine AllReadyH.cons (by (simp only [List.getElem?_toArray, List.getElem?_cons_succ, List.getElem?_cons_zero]; rfl)) (fun K hK => ?_) AllReadyH.nil
          have c0 : (w12.alloc (.cells #[.int .i64 (v 16)] 3)).cell? ⟨P, 5, none⟩ = some (.slice x.bA p.book.length x.bc) := keepA (cellb (i := 5) HPB_12.out rfl)
          go_simp
          clear c0
          refine hK.out _ _ ?_ (fun hHeld => ?_)
          · try dsimp only
            (refine ?_ <;> (first | with_reducible assumption))
          clear hK K
          try simp only [Act.put, List.setIfInBounds_toArray, List.set_cons_zero, List.set_cons_succ]
          exact hC.out
      obtain ⟨P63, hP63⟩ : ∃ x, x = w12.heap.size := ⟨_, rfl⟩
      have loP63 : lo ≤ P63 := (by have := ltb HPB_12.out; omega)
      obtain ⟨w13, hw23⟩ : ∃ y, y = w12.alloc (.cells #[.int .i64 (v 16)] 3) := ⟨_, rfl⟩
      have hal : Below w12.heap.size w12 w13 := by rw [hw23]; exact (Below.refl _ _).alloc (Nat.le_refl _) _
      have hnew : w13.heap[P63]? = some (.cells #[.int .i64 (v 16)] 3 (0, 0)) := by rw [hw23, hP63]; exact heap_alloc_new _ _
      have HNBOOK_P63 : Hid ((.slice x.bA p.book.length x.bc : Value).ownBlock ≠ some P63) := Lib.hid (fun e => by have := (HBOOK_12.out.lt _ e).2; omega)
      have HC_13 : Hid (CAt w13 x.gc p.s x.cA x.cc) := Lib.hid (HC_12.out.below hal)
      have HS_13 : Hid (SAt w13 x.gs p.ep x.M x.nn f) := Lib.hid (HS_12.out.below hal)
      have HWAY_13 : Hid (w13.ownsRow (x.H + 1) 36 21 (.slice x.wA p.way.length x.wc) p.way.length (mgs p.way)) := Lib.hid ((Chg.of_below (S := fun _ => False) hal).own HWAY_12.out (fun _ _ h => h))
      have HBOOK_13 : Hid (w13.ownsRow (x.H + 1) 3 1 (.slice x.bA p.book.length x.bc) p.book.length (ints p.book)) := Lib.hid ((Chg.of_below (S := fun _ => False) hal).own HBOOK_12.out (fun _ _ h => h))
      have HHD_13 : Hid (w13.heap[x.H]? = some (.cells (ints p.heard).toArray 3 (0, 0))) := Lib.hid ((hal.block x.H (ltb HHD_12.out)).trans HHD_12.out)
      have HB_13 : Hid (Chg (fun k => lo ≤ k) w0 w13) := Lib.hid (HB_12.out.trans (Chg.of_below hal))
      have HP4_13 : Hid (w13.heap[P4]? = some (.cells (mcv v (.slice B nb cb)) 36 (0, 0))) := Lib.hid ((hal.block P4 (ltb HP4_12.out)).trans HP4_12.out)
      have HP8_13 : Hid (w13.heap[P8]? = some (.cells (mcv u (.slice none 0 0)) 36 (0, 0))) := Lib.hid ((hal.block P8 (ltb HP8_12.out)).trans HP8_12.out)
      have HP9_13 : Hid (w13.heap[P9]? = some (.cells #[.int .i64 0, .int .i64 c63, .int .i64 0] 34 (0, 0))) := Lib.hid ((hal.block P9 (ltb HP9_12.out)).trans HP9_12.out)
      have HPB_13 : Hid (w13.heap[P]? = some (.cells #[.int .i64 id, .pointer (some ⟨x.gc, 0, none⟩), .pointer (some ⟨x.gs, 0, none⟩), .int .i64 p.ep, .slice x.wA p.way.length x.wc, .slice x.bA p.book.length x.bc, .int .i64 0, .int .i64 c63, .int .i64 0, .slice ((some ⟨x.H, 0, none⟩)) p.heard.length p.heard.length] 54 (0, 0))) := Lib.hid ((hal.block P (ltb HPB_12.out)).trans HPB_12.out)
      clear hal HC_12 HS_12 HWAY_12 HBOOK_12 HHD_12 HB_12 HP4_12 HP8_12 HP9_12 HPB_12
      have HP63_13 := Lib.hid hnew
      clear hnew
      rw [← hw23]
      clear hw23
      rw [← hP63]
      clear hP63
      have FP4' : w13.heap[P4]? = some (.cells (mcv v (.slice B nb cb)) 36 (0, 0)) := HP4_13.out
      clear FP4
      have FP4 := FP4'
      clear FP4'
      have hHeld := True.intro
      refine wpAnyH_ready (rs := [8]) (by kernel_rfl) (by simp) ?_
      refine AllReadyH.cons (by (simp only [List.getElem?_toArray, List.getElem?_cons_succ, List.getElem?_cons_zero]; rfl)) (fun K hK => ?_) AllReadyH.nil
      refine step_append_row _ rfl (.tmp 60) (.tmp 63) _ rfl (x.H + 1) 3 i3 _ 1 8 Try.underlying51 HI3.out HZ3.out HY3.out HX3.out rfl (by omega) x.bA p.book.length x.bc (ints p.book) rfl HBOOK_13.out _ (some ⟨P63, 0, none⟩) 1 1 [.int .i64 (v 16)] rfl (cellsIn_blk HP63_13.out 1 1 rfl) (by simp [Value.oneCell']) (by unfold maxLen; omega) (by omega) (by have := ltb HHD_13.out; omega) ?_
      intro A24 c25 w14 hown hg hor
      have hch := Ch.ofOwn HBOOK_13.out hg
      clear hg
      have HNBOOK_P63' : Hid ((.slice A24 ((p.book.length + 1)) c25 : Value).ownBlock ≠ some P63) := Lib.hid (row_new2 HNBOOK_P63.out hor (ltb HP63_13.out))
      clear HNBOOK_P63'
      have HC_14 : Hid (CAt w14 x.gc p.s x.cA x.cc) := Lib.hid (hch.cat HC_13.out (by decide) (by decide))
      have HS_14 : Hid (SAt w14 x.gs p.ep x.M x.nn f) := Lib.hid (hch.sat HS_13.out (by decide) (by decide))
      have HWAY_14 : Hid (w14.ownsRow (x.H + 1) 36 21 (.slice x.wA p.way.length x.wc) p.way.length (mgs p.way)) := Lib.hid (hch.own HWAY_13.out (by decide))
      have HHD_14 : Hid (w14.heap[x.H]? = some (.cells (ints p.heard).toArray 3 (0, 0))) := Lib.hid (hch.blkN HHD_13.out (fun e => by have := own_lowk HBOOK_13.out _ e; omega))
      have HB_14 : Hid (Chg (fun k => lo ≤ k) w0 w14) := Lib.hid (hch.low HB_13.out (fun k hk => by have := own_lowk HBOOK_13.out k hk; omega))
      have HP4_14 : Hid (w14.heap[P4]? = some (.cells (mcv v (.slice B nb cb)) 36 (0, 0))) := Lib.hid (hch.blk HP4_13.out (by show (36 + 1 : Nat) ≠ _; decide))
      have HP8_14 : Hid (w14.heap[P8]? = some (.cells (mcv u (.slice none 0 0)) 36 (0, 0))) := Lib.hid (hch.blk HP8_13.out (by show (36 + 1 : Nat) ≠ _; decide))
      have HP9_14 : Hid (w14.heap[P9]? = some (.cells #[.int .i64 0, .int .i64 c63, .int .i64 0] 34 (0, 0))) := Lib.hid (hch.blk HP9_13.out (by show (34 + 1 : Nat) ≠ _; decide))
      have HPB_14 : Hid (w14.heap[P]? = some (.cells #[.int .i64 id, .pointer (some ⟨x.gc, 0, none⟩), .pointer (some ⟨x.gs, 0, none⟩), .int .i64 p.ep, .slice x.wA p.way.length x.wc, .slice x.bA p.book.length x.bc, .int .i64 0, .int .i64 c63, .int .i64 0, .slice ((some ⟨x.H, 0, none⟩)) p.heard.length p.heard.length] 54 (0, 0))) := Lib.hid (hch.blk HPB_13.out (by show (54 + 1 : Nat) ≠ _; decide))
      clear hch HC_13 HS_13 HWAY_13 HHD_13 HB_13 HP4_13 HP8_13 HP9_13 HPB_13 HP63_13
      clear HNBOOK_P63
      clear hor
      have HBOOK_14 : Hid (w14.ownsRow (x.H + 1) 3 1 (.slice A24 ((p.book.length + 1)) c25) (p.book.length + 1) ((ints p.book) ++ [.int .i64 (v 16)])) := Lib.hid hown
      clear hown HBOOK_13
      have FP4' : w14.heap[P4]? = some (.cells (mcv v (.slice B nb cb)) 36 (0, 0)) := HP4_14.out
      clear FP4
      have FP4 := FP4'
      clear FP4'
      refine hK.out _ _ ?_ (fun hHeld => ?_)
      · try dsimp only
        (refine ?_ <;> (first | with_reducible assumption))
      clear hK K
      try simp only [Act.put, List.setIfInBounds_toArray, List.set_cons_zero, List.set_cons_succ]
      refine wpAnyH_take (i := 9) (v := ?_) (by (simp only [List.getElem?_toArray, List.getElem?_cons_succ, List.getElem?_cons_zero]; rfl)) (by kernel_rfl) (by kernel_rfl) (by kernel_rfl) (fun _ _ _ h => h) (Or.inl ⟨by rfl, ?_⟩) (by assumption) ?_
      rotate_left
      · (intro w hSw; (try dsimp only at hSw); go_simp; try with_reducible rfl)
      try simp only [Act.put, List.setIfInBounds_toArray, List.set_cons_zero, List.set_cons_succ]
      refine wpAnyH_take (i := 10) (v := ?_) (by (simp only [List.getElem?_toArray, List.getElem?_cons_succ, List.getElem?_cons_zero]; rfl)) (by kernel_rfl) (by kernel_rfl) (by kernel_rfl) (fun _ _ _ h => h) (Or.inl ⟨by rfl, ?_⟩) (by assumption) ?_
      rotate_left
      · (intro w hSw; (try dsimp only at hSw); go_simp; try with_reducible rfl)
      try simp only [Act.put, List.setIfInBounds_toArray, List.set_cons_zero, List.set_cons_succ]
      refine wpAnyH_ready (rs := [11]) (by kernel_rfl) (by simp) ?_
      refine AllReadyH.cons (by (simp only [List.getElem?_toArray, List.getElem?_cons_succ, List.getElem?_cons_zero]; rfl)) (fun K hK => ?_) AllReadyH.nil
      have c0 : w14.cell? ⟨P, 5, none⟩ = some (.slice x.bA p.book.length x.bc) := cellb (i := 5) HPB_14.out rfl
      have f0 : w14.frozen? ⟨P, 5, none⟩ = false := fzb HPB_14.out 5
      go_simp
      clear c0 f0
      obtain ⟨w15, hw26⟩ : ∃ y, y = w14.setCell ⟨P, 5, none⟩ (.slice A24 ((p.book.length + 1)) c25) := ⟨_, rfl⟩
      have hch := Ch.ofCell (i := 5) HPB_14.out (.slice A24 ((p.book.length + 1)) c25)
      rw [← hw26] at hch
      have hnew : w15.heap[P]? = some (.cells #[.int .i64 id, .pointer (some ⟨x.gc, 0, none⟩), .pointer (some ⟨x.gs, 0, none⟩), .int .i64 p.ep, .slice x.wA p.way.length x.wc, .slice A24 ((p.book.length + 1)) c25, .int .i64 0, .int .i64 c63, .int .i64 0, .slice ((some ⟨x.H, 0, none⟩)) p.heard.length p.heard.length] 54 (0, 0)) := by rw [hw26]; exact set_blk HPB_14.out _
      have HC_15 : Hid (CAt w15 x.gc p.s x.cA x.cc) := Lib.hid (hch.cat HC_14.out (by decide) (by decide))
      have HS_15 : Hid (SAt w15 x.gs p.ep x.M x.nn f) := Lib.hid (hch.sat HS_14.out (by decide) (by decide))
      have HWAY_15 : Hid (w15.ownsRow (x.H + 1) 36 21 (.slice x.wA p.way.length x.wc) p.way.length (mgs p.way)) := Lib.hid (hch.own HWAY_14.out (by decide))
      have HHD_15 : Hid (w15.heap[x.H]? = some (.cells (ints p.heard).toArray 3 (0, 0))) := Lib.hid (hch.blk HHD_14.out (by show (3 + 1 : Nat) ≠ _; decide))
      have HB_15 : Hid (Chg (fun k => lo ≤ k) w0 w15) := Lib.hid (hch.low HB_14.out (fun k hk => by injection hk with hk; omega))
      have HP4_15 : Hid (w15.heap[P4]? = some (.cells (mcv v (.slice B nb cb)) 36 (0, 0))) := Lib.hid (hch.blk HP4_14.out (by show (36 + 1 : Nat) ≠ _; decide))
      have HP8_15 : Hid (w15.heap[P8]? = some (.cells (mcv u (.slice none 0 0)) 36 (0, 0))) := Lib.hid (hch.blk HP8_14.out (by show (36 + 1 : Nat) ≠ _; decide))
      have HP9_15 : Hid (w15.heap[P9]? = some (.cells #[.int .i64 0, .int .i64 c63, .int .i64 0] 34 (0, 0))) := Lib.hid (hch.blk HP9_14.out (by show (34 + 1 : Nat) ≠ _; decide))
      have HBOOK_15 : Hid (w15.ownsRow (x.H + 1) 3 1 (.slice A24 ((p.book.length + 1)) c25) (p.book.length + 1) ((ints p.book) ++ [.int .i64 (v 16)])) := Lib.hid (hch.own HBOOK_14.out (by decide))
      clear hch HC_14 HS_14 HWAY_14 HHD_14 HB_14 HP4_14 HP8_14 HP9_14 HBOOK_14
      have HPB_15 := Lib.hid hnew
      clear hnew HPB_14
      rw [← hw26]
      clear hw26
      have FP4' : w15.heap[P4]? = some (.cells (mcv v (.slice B nb cb)) 36 (0, 0)) := HP4_15.out
      clear FP4
      have FP4 := FP4'
      clear FP4'
      refine hK.out _ _ ?_ (fun hHeld => ?_)
      · try dsimp only
        (refine ?_ <;> (first | with_reducible assumption))
      clear hK K
      try simp only [Act.put]
      refine wpAnyH_done (by kernel_rfl) ?_ _
      refine NoPanic.normal ?_
      clear hHeld FP4
      go_upto_region 13 with (fail)
      go_cut [10, 11] from 67 to 81 (fun s10 s11 wc => ∃ (kk : Bool) (uu : Nat → Int) (P10 : Nat), s10 = .pointer (some ⟨P10, 0, none⟩) ∧ s11 = .bool kk ∧ lo ≤ P10 ∧ P4 < P10 ∧ P8 < P10 ∧ Hid ((if kk = true then (#[.int .i64 8, .int .i64 p.ep, .int .i64 0, .int .i64 0, .int .i64 0, .int .i64 0, .int .i64 0, .int .i64 0, .int .i64 0, .int .i64 0, .int .i64 0, .int .i64 0, .int .i64 0, .int .i64 0, .int .i64 0, .int .i64 id, .int .i64 ((v 16)), .slice none 0 0, .int .i64 0, .int .i64 c63, .int .i64 0] : Array Value) else #[.int .i64 0, .int .i64 0, .int .i64 0, .int .i64 0, .int .i64 0, .int .i64 0, .int .i64 0, .int .i64 0, .int .i64 0, .int .i64 0, .int .i64 0, .int .i64 0, .int .i64 0, .int .i64 0, .int .i64 0, .int .i64 0, .int .i64 0, .slice none 0 0, .int .i64 0, .int .i64 0, .int .i64 0]) = #[.int .i64 (uu 0), .int .i64 (uu 1), .int .i64 (uu 2), .int .i64 (uu 3), .int .i64 (uu 4), .int .i64 (uu 5), .int .i64 (uu 6), .int .i64 (uu 7), .int .i64 (uu 8), .int .i64 (uu 9), .int .i64 (uu 10), .int .i64 (uu 11), .int .i64 (uu 12), .int .i64 (uu 13), .int .i64 (uu 14), .int .i64 (uu 15), .int .i64 (uu 16), .slice none 0 0, .int .i64 (uu 18), .int .i64 (uu 19), .int .i64 (uu 20)]) ∧ Hid ((Lit.int .i64 (uu 15)).wf = true) ∧ Hid ((.slice x.wA p.way.length x.wc : Value).ownBlock ≠ some P10) ∧ Hid (CAt wc x.gc p.s x.cA x.cc) ∧ Hid (wc.ownsRow (x.H + 1) 36 21 (.slice x.wA p.way.length x.wc) p.way.length (mgs p.way)) ∧ Hid (wc.heap[x.H]? = some (.cells (ints p.heard).toArray 3 (0, 0))) ∧ Hid (Chg (fun k => lo ≤ k) w0 wc) ∧ Hid (wc.heap[P4]? = some (.cells (mcv v (.slice B nb cb)) 36 (0, 0))) ∧ Hid (wc.heap[P8]? = some (.cells (mcv u (.slice none 0 0)) 36 (0, 0))) ∧ Hid (wc.heap[P9]? = some (.cells #[.int .i64 0, .int .i64 c63, .int .i64 0] 34 (0, 0))) ∧ Hid (wc.ownsRow (x.H + 1) 3 1 (.slice A24 ((p.book.length + 1)) c25) (p.book.length + 1) ((ints p.book) ++ [.int .i64 (v 16)])) ∧ Hid (wc.heap[P]? = some (.cells #[.int .i64 id, .pointer (some ⟨x.gc, 0, none⟩), .pointer (some ⟨x.gs, 0, none⟩), .int .i64 p.ep, .slice x.wA p.way.length x.wc, .slice A24 ((p.book.length + 1)) c25, .int .i64 0, .int .i64 c63, .int .i64 0, .slice ((some ⟨x.H, 0, none⟩)) p.heard.length p.heard.length] 54 (0, 0))) ∧ Hid (SAt wc x.gs p.ep x.M (x.nn + 1) (if kk = true then kput f id ⟨v 16, 0, c63, 0⟩ else f)) ∧ Hid (wc.heap[P10]? = some (.cells (mcv uu (.slice none 0 0)) 36 (0, 0))))
      case first =>
        have HC_16 : Hid (CAt w15.drew x.gc p.s x.cA x.cc) := Lib.hid (HC_15.out.below ((Below.refl w15.heap.size w15).drew))
        have HS_16 : Hid (SAt w15.drew x.gs p.ep x.M x.nn f) := Lib.hid (HS_15.out.below ((Below.refl w15.heap.size w15).drew))
        have HWAY_16 : Hid (w15.drew.ownsRow (x.H + 1) 36 21 (.slice x.wA p.way.length x.wc) p.way.length (mgs p.way)) := Lib.hid ((Chg.of_below (S := fun _ => False) ((Below.refl w15.heap.size w15).drew)).own HWAY_15.out (fun _ _ h => h))
        have HHD_16 : Hid (w15.drew.heap[x.H]? = some (.cells (ints p.heard).toArray 3 (0, 0))) := Lib.hid ((((Below.refl w15.heap.size w15).drew).block x.H (ltb HHD_15.out)).trans HHD_15.out)
        have HB_16 : Hid (Chg (fun k => lo ≤ k) w0 w15.drew) := Lib.hid (HB_15.out.trans (Chg.of_below ((Below.refl w15.heap.size w15).drew)))
        have HP4_16 : Hid (w15.drew.heap[P4]? = some (.cells (mcv v (.slice B nb cb)) 36 (0, 0))) := Lib.hid ((((Below.refl w15.heap.size w15).drew).block P4 (ltb HP4_15.out)).trans HP4_15.out)
        have HP8_16 : Hid (w15.drew.heap[P8]? = some (.cells (mcv u (.slice none 0 0)) 36 (0, 0))) := Lib.hid ((((Below.refl w15.heap.size w15).drew).block P8 (ltb HP8_15.out)).trans HP8_15.out)
        have HP9_16 : Hid (w15.drew.heap[P9]? = some (.cells #[.int .i64 0, .int .i64 c63, .int .i64 0] 34 (0, 0))) := Lib.hid ((((Below.refl w15.heap.size w15).drew).block P9 (ltb HP9_15.out)).trans HP9_15.out)
        have HBOOK_16 : Hid (w15.drew.ownsRow (x.H + 1) 3 1 (.slice A24 ((p.book.length + 1)) c25) (p.book.length + 1) ((ints p.book) ++ [.int .i64 (v 16)])) := Lib.hid ((Chg.of_below (S := fun _ => False) ((Below.refl w15.heap.size w15).drew)).own HBOOK_15.out (fun _ _ h => h))
        have HPB_16 : Hid (w15.drew.heap[P]? = some (.cells #[.int .i64 id, .pointer (some ⟨x.gc, 0, none⟩), .pointer (some ⟨x.gs, 0, none⟩), .int .i64 p.ep, .slice x.wA p.way.length x.wc, .slice A24 ((p.book.length + 1)) c25, .int .i64 0, .int .i64 c63, .int .i64 0, .slice ((some ⟨x.H, 0, none⟩)) p.heard.length p.heard.length] 54 (0, 0))) := Lib.hid ((((Below.refl w15.heap.size w15).drew).block P (ltb HPB_15.out)).trans HPB_15.out)
        clear HC_15 HS_15 HWAY_15 HHD_15 HB_15 HP4_15 HP8_15 HP9_15 HBOOK_15 HPB_15
        have FP : w15.drew.heap[P]? = some (.cells #[.int .i64 id, .pointer (some ⟨x.gc, 0, none⟩), .pointer (some ⟨x.gs, 0, none⟩), .int .i64 p.ep, .slice x.wA p.way.length x.wc, .slice A24 ((p.book.length + 1)) c25, .int .i64 0, .int .i64 c63, .int .i64 0, .slice ((some ⟨x.H, 0, none⟩)) p.heard.length p.heard.length] 54 (0, 0)) := HPB_16.out
        have FP4 : w15.drew.heap[P4]? = some (.cells (mcv v (.slice B nb cb)) 36 (0, 0)) := HP4_16.out
        have FP9 : w15.drew.heap[P9]? = some (.cells #[.int .i64 0, .int .i64 c63, .int .i64 0] 34 (0, 0)) := HP9_16.out
        refine wp_region_noPanic ?_
        refine wp_region_held_drew (S := fun w' => w'.heap[P]? = some (.cells #[.int .i64 id, .pointer (some ⟨x.gc, 0, none⟩), .pointer (some ⟨x.gs, 0, none⟩), .int .i64 p.ep, .slice x.wA p.way.length x.wc, .slice A24 ((p.book.length + 1)) c25, .int .i64 0, .int .i64 c63, .int .i64 0, .slice ((some ⟨x.H, 0, none⟩)) p.heard.length p.heard.length] 54 (0, 0)) ∧ w'.heap[P4]? = some (.cells (mcv v (.slice B nb cb)) 36 (0, 0)) ∧ w'.heap[P9]? = some (.cells #[.int .i64 0, .int .i64 c63, .int .i64 0] 34 (0, 0))) (by kernel_rfl) ?_ (fun hHeld => ?_)
        · try dsimp only
          (refine ⟨?_, ?_, ?_⟩ <;> (first | with_reducible assumption))
        generalize w15.drew = w16 at *
        refine wpAnyH_take (i := 0) (v := ?_) (by (simp only [List.getElem?_toArray, List.getElem?_cons_zero]; rfl)) (by kernel_rfl) (by kernel_rfl) (by kernel_rfl) (fun _ _ _ h => h) (Or.inl ⟨by rfl, ?_⟩) (by assumption) ?_
        rotate_left
        · (intro w hSw; (try dsimp only at hSw); go_simp; try with_reducible rfl)
        try simp only [Act.put, List.setIfInBounds_toArray, List.set_cons_zero, List.set_cons_succ]
        refine wpAnyH_take (i := 1) (v := ?_) (by (simp only [List.getElem?_toArray, List.getElem?_cons_succ, List.getElem?_cons_zero]; rfl)) (by kernel_rfl) (by kernel_rfl) (by kernel_rfl) (fun _ _ _ h => h) (Or.inl ⟨by rfl, ?_⟩) (by assumption) ?_
        rotate_left
        · (intro w hSw; (try dsimp only at hSw); go_simp; try with_reducible rfl)
        try simp only [Act.put, List.setIfInBounds_toArray, List.set_cons_zero, List.set_cons_succ]
        refine wpAnyH_take (i := 2) (v := ?_) (by (simp only [List.getElem?_toArray, List.getElem?_cons_succ, List.getElem?_cons_zero]; rfl)) (by kernel_rfl) (by kernel_rfl) (by kernel_rfl) (fun _ _ _ h => h) (Or.inl ⟨by rfl, ?_⟩) (by assumption) ?_
        rotate_left
        · (intro w hSw; (try dsimp only at hSw); go_simp; try with_reducible rfl)
        try simp only [Act.put, List.setIfInBounds_toArray, List.set_cons_zero, List.set_cons_succ]
        refine wpAnyH_take (i := 3) (v := ?_) (by (simp only [List.getElem?_toArray, List.getElem?_cons_succ, List.getElem?_cons_zero]; rfl)) (by kernel_rfl) (by kernel_rfl) (by kernel_rfl) (fun _ _ _ h => h) (Or.inl ⟨by rfl, ?_⟩) (by assumption) ?_
        rotate_left
        · intro w hSw
          try dsimp only at hSw
          have x0 : w.cell? ⟨P, 2, none⟩ = some (.pointer (some ⟨x.gs, 0, none⟩)) := (cellb (i := 2) hSw.1 rfl)
          go_simp; try with_reducible rfl
        try simp only [Act.put, List.setIfInBounds_toArray, List.set_cons_zero, List.set_cons_succ]
        refine wpAnyH_take (i := 4) (v := ?_) (by (simp only [List.getElem?_toArray, List.getElem?_cons_succ, List.getElem?_cons_zero]; rfl)) (by kernel_rfl) (by kernel_rfl) (by kernel_rfl) (fun _ _ _ h => h) (Or.inl ⟨by rfl, ?_⟩) (by assumption) ?_
        rotate_left
        · (intro w hSw; (try dsimp only at hSw); go_simp; try with_reducible rfl)
        try simp only [Act.put, List.setIfInBounds_toArray, List.set_cons_zero, List.set_cons_succ]
        refine wpAnyH_take (i := 5) (v := ?_) (by (simp only [List.getElem?_toArray, List.getElem?_cons_succ, List.getElem?_cons_zero]; rfl)) (by kernel_rfl) (by kernel_rfl) (by kernel_rfl) (fun _ _ _ h => h) (Or.inl ⟨by rfl, ?_⟩) (by assumption) ?_
        rotate_left
        · (intro w hSw; (try dsimp only at hSw); go_simp; try with_reducible rfl)
        try simp only [Act.put, List.setIfInBounds_toArray, List.set_cons_zero, List.set_cons_succ]
        refine wpAnyH_take (i := 6) (v := ?_) (by (simp only [List.getElem?_toArray, List.getElem?_cons_succ, List.getElem?_cons_zero]; rfl)) (by kernel_rfl) (by kernel_rfl) (by kernel_rfl) (fun _ _ _ h => h) (Or.inl ⟨by rfl, ?_⟩) (by assumption) ?_
        rotate_left
        · (intro w hSw; (try dsimp only at hSw); go_simp; try with_reducible rfl)
        try simp only [Act.put, List.setIfInBounds_toArray, List.set_cons_zero, List.set_cons_succ]
        refine wpAnyH_take (i := 7) (v := ?_) (by (simp only [List.getElem?_toArray, List.getElem?_cons_succ, List.getElem?_cons_zero]; rfl)) (by kernel_rfl) (by kernel_rfl) (by kernel_rfl) (fun _ _ _ h => h) (Or.inl ⟨by rfl, ?_⟩) (by assumption) ?_
        rotate_left
        · intro w hSw
          try dsimp only at hSw
          have x0 : w.cell? ⟨P, 0, none⟩ = some (.int .i64 id) := (cellb (i := 0) hSw.1 rfl)
          go_simp; try with_reducible rfl
        try simp only [Act.put, List.setIfInBounds_toArray, List.set_cons_zero, List.set_cons_succ]
        refine wpAnyH_take (i := 8) (v := ?_) (by (simp only [List.getElem?_toArray, List.getElem?_cons_succ, List.getElem?_cons_zero]; rfl)) (by kernel_rfl) (by kernel_rfl) (by kernel_rfl) (fun _ _ _ h => h) (Or.inl ⟨by rfl, ?_⟩) (by assumption) ?_
        rotate_left
        · (intro w hSw; (try dsimp only at hSw); go_simp; try with_reducible rfl)
        try simp only [Act.put, List.setIfInBounds_toArray, List.set_cons_zero, List.set_cons_succ]
        refine wpAnyH_take (i := 9) (v := ?_) (by (simp only [List.getElem?_toArray, List.getElem?_cons_succ, List.getElem?_cons_zero]; rfl)) (by kernel_rfl) (by kernel_rfl) (by kernel_rfl) (fun _ _ _ h => h) (Or.inl ⟨by rfl, ?_⟩) (by assumption) ?_
        rotate_left
        · intro w hSw
          try dsimp only at hSw
          have x0 : w.cell? ⟨P4, 16, none⟩ = some (.int .i64 (v 16)) := (cellb (i := 16) hSw.2.1 rfl)
          go_simp; try with_reducible rfl
        try simp only [Act.put, List.setIfInBounds_toArray, List.set_cons_zero, List.set_cons_succ]
        refine wpAnyH_take (i := 10) (v := ?_) (by (simp only [List.getElem?_toArray, List.getElem?_cons_succ, List.getElem?_cons_zero]; rfl)) (by kernel_rfl) (by kernel_rfl) (by kernel_rfl) (fun _ _ _ h => h) (Or.inl ⟨by rfl, ?_⟩) (by assumption) ?_
        rotate_left
        · intro w hSw
          try dsimp only at hSw
          refine take_load (x := .tmp 9) (ty := 34) ?_ P9 ?_ 34 _ (0, 0) _ hSw.2.2 Try.underlying34 rfl (by kernel_rfl)
          all_goals rfl
        try simp only [Act.put, List.setIfInBounds_toArray, List.set_cons_zero, List.set_cons_succ]
        refine wpAnyH_ready (rs := [11, 15]) (by kernel_rfl) (by simp) ?_
        refine AllReadyH.cons (by (simp only [List.getElem?_toArray, List.getElem?_cons_succ, List.getElem?_cons_zero]; rfl)) (fun K hK => ?_) (AllReadyH.cons (by (simp only [List.getElem?_toArray, List.getElem?_cons_succ, List.getElem?_cons_zero]; rfl)) (fun K hK => ?_) AllReadyH.nil)
        · skip
          go_simp
          refine (done_any x.gs p.ep x.M x.nn f id (v 16) 0 c63 0 w16 HS_16.out HWI.out (by unfold maxLen; omega)).mono ?_
          rintro e w17 ⟨kk, hk, he, hs, hg⟩
          obtain ⟨uu, hu⟩ : ∃ uu : Nat → Int, (if kk = true then (#[.int .i64 8, .int .i64 p.ep, .int .i64 0, .int .i64 0, .int .i64 0, .int .i64 0, .int .i64 0, .int .i64 0, .int .i64 0, .int .i64 0, .int .i64 0, .int .i64 0, .int .i64 0, .int .i64 0, .int .i64 0, .int .i64 id, .int .i64 ((v 16)), .slice none 0 0, .int .i64 0, .int .i64 c63, .int .i64 0] : Array Value) else #[.int .i64 0, .int .i64 0, .int .i64 0, .int .i64 0, .int .i64 0, .int .i64 0, .int .i64 0, .int .i64 0, .int .i64 0, .int .i64 0, .int .i64 0, .int .i64 0, .int .i64 0, .int .i64 0, .int .i64 0, .int .i64 0, .int .i64 0, .slice none 0 0, .int .i64 0, .int .i64 0, .int .i64 0]) = #[.int .i64 (uu 0), .int .i64 (uu 1), .int .i64 (uu 2), .int .i64 (uu 3), .int .i64 (uu 4), .int .i64 (uu 5), .int .i64 (uu 6), .int .i64 (uu 7), .int .i64 (uu 8), .int .i64 (uu 9), .int .i64 (uu 10), .int .i64 (uu 11), .int .i64 (uu 12), .int .i64 (uu 13), .int .i64 (uu 14), .int .i64 (uu 15), .int .i64 (uu 16), .slice none 0 0, .int .i64 (uu 18), .int .i64 (uu 19), .int .i64 (uu 20)] := by
            cases kk
            · exact ⟨fun _ => 0, rfl⟩
            · exact ⟨repV p.ep id (v 16) 0 c63 0, rfl⟩
          rw [hu] at he
          subst he
          have hmap : ∃ es clock, w16.heap[x.M]? = some (.map es clock) := by
            obtain ⟨D, ⟨es, clock, hb, _⟩, _⟩ := HS_16.out.map
            exact ⟨_, _, hb⟩
          have hch := Ch.ofMap hmap hg
          have HU := Lib.hid hu
          have HS' := Lib.hid hs
          have HWU : Hid ((Lit.int .i64 (uu 15)).wf = true) := Lib.hid (uu_wf hu HWI.out)
          clear hk hu hs hg hmap HS_16
          have HC_17 : Hid (CAt w17 x.gc p.s x.cA x.cc) := Lib.hid (hch.cat HC_16.out (by decide) (by decide))
          have HWAY_17 : Hid (w17.ownsRow (x.H + 1) 36 21 (.slice x.wA p.way.length x.wc) p.way.length (mgs p.way)) := Lib.hid (hch.own HWAY_16.out (by decide))
          have HHD_17 : Hid (w17.heap[x.H]? = some (.cells (ints p.heard).toArray 3 (0, 0))) := Lib.hid (hch.blk HHD_16.out (by show (3 + 1 : Nat) ≠ _; decide))
          have HB_17 : Hid (Chg (fun k => lo ≤ k) w0 w17) := Lib.hid (hch.low HB_16.out (fun k hk => by injection hk with hk; omega))
          have HP4_17 : Hid (w17.heap[P4]? = some (.cells (mcv v (.slice B nb cb)) 36 (0, 0))) := Lib.hid (hch.blk HP4_16.out (by show (36 + 1 : Nat) ≠ _; decide))
          have HP8_17 : Hid (w17.heap[P8]? = some (.cells (mcv u (.slice none 0 0)) 36 (0, 0))) := Lib.hid (hch.blk HP8_16.out (by show (36 + 1 : Nat) ≠ _; decide))
          have HP9_17 : Hid (w17.heap[P9]? = some (.cells #[.int .i64 0, .int .i64 c63, .int .i64 0] 34 (0, 0))) := Lib.hid (hch.blk HP9_16.out (by show (34 + 1 : Nat) ≠ _; decide))
          have HBOOK_17 : Hid (w17.ownsRow (x.H + 1) 3 1 (.slice A24 ((p.book.length + 1)) c25) (p.book.length + 1) ((ints p.book) ++ [.int .i64 (v 16)])) := Lib.hid (hch.own HBOOK_16.out (by decide))
          have HPB_17 : Hid (w17.heap[P]? = some (.cells #[.int .i64 id, .pointer (some ⟨x.gc, 0, none⟩), .pointer (some ⟨x.gs, 0, none⟩), .int .i64 p.ep, .slice x.wA p.way.length x.wc, .slice A24 ((p.book.length + 1)) c25, .int .i64 0, .int .i64 c63, .int .i64 0, .slice ((some ⟨x.H, 0, none⟩)) p.heard.length p.heard.length] 54 (0, 0))) := Lib.hid (hch.blk HPB_16.out (by show (54 + 1 : Nat) ≠ _; decide))
          clear hch HC_16 HWAY_16 HHD_16 HB_16 HP4_16 HP8_16 HP9_16 HBOOK_16 HPB_16
          have HS_17 := HS'
          clear HS'
          have FP' : w17.heap[P]? = some (.cells #[.int .i64 id, .pointer (some ⟨x.gc, 0, none⟩), .pointer (some ⟨x.gs, 0, none⟩), .int .i64 p.ep, .slice x.wA p.way.length x.wc, .slice A24 ((p.book.length + 1)) c25, .int .i64 0, .int .i64 c63, .int .i64 0, .slice ((some ⟨x.H, 0, none⟩)) p.heard.length p.heard.length] 54 (0, 0)) := HPB_17.out
          have FP4' : w17.heap[P4]? = some (.cells (mcv v (.slice B nb cb)) 36 (0, 0)) := HP4_17.out
          have FP9' : w17.heap[P9]? = some (.cells #[.int .i64 0, .int .i64 c63, .int .i64 0] 34 (0, 0)) := HP9_17.out
          clear FP FP4 FP9
          have FP := FP'
          clear FP'
          have FP4 := FP4'
          clear FP4'
          have FP9 := FP9'
          clear FP9'
          refine hK.out _ _ ?_ (fun hHeld => ?_)
          · try dsimp only
            (refine ⟨?_, ?_, ?_⟩ <;> (first | with_reducible assumption))
          clear hK K
          try simp only [Act.put, List.setIfInBounds_toArray, List.set_cons_zero, List.set_cons_succ]
          refine wpAnyH_take (i := 12) (v := ?_) (by (simp only [List.getElem?_toArray, List.getElem?_cons_succ, List.getElem?_cons_zero]; rfl)) (by kernel_rfl) (by kernel_rfl) (by kernel_rfl) (fun _ _ _ h => h) (Or.inl ⟨by rfl, ?_⟩) (by assumption) ?_
          rotate_left
          · (intro w hSw; (try dsimp only at hSw); go_simp; try with_reducible rfl)
          try simp only [Act.put, List.setIfInBounds_toArray, List.set_cons_zero, List.set_cons_succ]
          refine wpAnyH_take (i := 13) (v := ?_) (by (simp only [List.getElem?_toArray, List.getElem?_cons_succ, List.getElem?_cons_zero]; rfl)) (by kernel_rfl) (by kernel_rfl) (by kernel_rfl) (fun _ _ _ h => h) (Or.inl ⟨by rfl, ?_⟩) (by assumption) ?_
          rotate_left
          · (intro w hSw; (try dsimp only at hSw); go_simp; try with_reducible rfl)
          try simp only [Act.put, List.setIfInBounds_toArray, List.set_cons_zero, List.set_cons_succ]
          refine wpAnyH_take (i := 14) (v := ?_) (by (simp only [List.getElem?_toArray, List.getElem?_cons_succ, List.getElem?_cons_zero]; rfl)) (by kernel_rfl) (by kernel_rfl) (by kernel_rfl) (fun _ _ _ h => h) (Or.inl ⟨by rfl, ?_⟩) (by assumption) ?_
          rotate_left
          · (intro w hSw; (try dsimp only at hSw); go_simp; try with_reducible rfl)
          try simp only [Act.put, List.setIfInBounds_toArray, List.set_cons_zero, List.set_cons_succ]
          refine wpAnyH_ready (rs := [15]) (by kernel_rfl) (by simp) ?_
          refine AllReadyH.cons (by (simp only [List.getElem?_toArray, List.getElem?_cons_succ, List.getElem?_cons_zero]; rfl)) (fun K hK => ?_) AllReadyH.nil
          go_simp
          obtain ⟨P10, hP10⟩ : ∃ x, x = w17.heap.size := ⟨_, rfl⟩
          have loP10 : lo ≤ P10 := (by have := ltb HPB_17.out; omega)
          have oP10_P4 : P4 < P10 := (by have := ltb HP4_17.out; omega)
          have oP10_P8 : P8 < P10 := (by have := ltb HP8_17.out; omega)
          obtain ⟨w18, hw27⟩ : ∃ y, y = w17.alloc (.cells #[.int .i64 0, .int .i64 0, .int .i64 0, .int .i64 0, .int .i64 0, .int .i64 0, .int .i64 0, .int .i64 0, .int .i64 0, .int .i64 0, .int .i64 0, .int .i64 0, .int .i64 0, .int .i64 0, .int .i64 0, .int .i64 0, .int .i64 0, .slice none 0 0, .int .i64 0, .int .i64 0, .int .i64 0] 36) := ⟨_, rfl⟩
          have hal : Below w17.heap.size w17 w18 := by rw [hw27]; exact (Below.refl _ _).alloc (Nat.le_refl _) _
          have hnew : w18.heap[P10]? = some (.cells (mcv (fun _ => 0) (.slice none 0 0)) 36 (0, 0)) := by rw [hw27, hP10]; exact heap_alloc_new _ _
          have HNWAY_P10 : Hid ((.slice x.wA p.way.length x.wc : Value).ownBlock ≠ some P10) := Lib.hid (fun e => by have := (HWAY_17.out.lt _ e).2; omega)
          have HC_18 : Hid (CAt w18 x.gc p.s x.cA x.cc) := Lib.hid (HC_17.out.below hal)
          have HWAY_18 : Hid (w18.ownsRow (x.H + 1) 36 21 (.slice x.wA p.way.length x.wc) p.way.length (mgs p.way)) := Lib.hid ((Chg.of_below (S := fun _ => False) hal).own HWAY_17.out (fun _ _ h => h))
          have HHD_18 : Hid (w18.heap[x.H]? = some (.cells (ints p.heard).toArray 3 (0, 0))) := Lib.hid ((hal.block x.H (ltb HHD_17.out)).trans HHD_17.out)
          have HB_18 : Hid (Chg (fun k => lo ≤ k) w0 w18) := Lib.hid (HB_17.out.trans (Chg.of_below hal))
          have HP4_18 : Hid (w18.heap[P4]? = some (.cells (mcv v (.slice B nb cb)) 36 (0, 0))) := Lib.hid ((hal.block P4 (ltb HP4_17.out)).trans HP4_17.out)
          have HP8_18 : Hid (w18.heap[P8]? = some (.cells (mcv u (.slice none 0 0)) 36 (0, 0))) := Lib.hid ((hal.block P8 (ltb HP8_17.out)).trans HP8_17.out)
          have HP9_18 : Hid (w18.heap[P9]? = some (.cells #[.int .i64 0, .int .i64 c63, .int .i64 0] 34 (0, 0))) := Lib.hid ((hal.block P9 (ltb HP9_17.out)).trans HP9_17.out)
          have HBOOK_18 : Hid (w18.ownsRow (x.H + 1) 3 1 (.slice A24 ((p.book.length + 1)) c25) (p.book.length + 1) ((ints p.book) ++ [.int .i64 (v 16)])) := Lib.hid ((Chg.of_below (S := fun _ => False) hal).own HBOOK_17.out (fun _ _ h => h))
          have HPB_18 : Hid (w18.heap[P]? = some (.cells #[.int .i64 id, .pointer (some ⟨x.gc, 0, none⟩), .pointer (some ⟨x.gs, 0, none⟩), .int .i64 p.ep, .slice x.wA p.way.length x.wc, .slice A24 ((p.book.length + 1)) c25, .int .i64 0, .int .i64 c63, .int .i64 0, .slice ((some ⟨x.H, 0, none⟩)) p.heard.length p.heard.length] 54 (0, 0))) := Lib.hid ((hal.block P (ltb HPB_17.out)).trans HPB_17.out)
          have HS_18 : Hid (SAt w18 x.gs p.ep x.M (x.nn + 1) (if kk = true then kput f id ⟨v 16, 0, c63, 0⟩ else f)) := Lib.hid (HS_17.out.below hal)
          clear hal HC_17 HWAY_17 HHD_17 HB_17 HP4_17 HP8_17 HP9_17 HBOOK_17 HPB_17 HS_17
          have HP10_18 := Lib.hid hnew
          clear hnew
          rw [← hw27]
          clear hw27
          rw [← hP10]
          clear hP10
          have FP' : w18.heap[P]? = some (.cells #[.int .i64 id, .pointer (some ⟨x.gc, 0, none⟩), .pointer (some ⟨x.gs, 0, none⟩), .int .i64 p.ep, .slice x.wA p.way.length x.wc, .slice A24 ((p.book.length + 1)) c25, .int .i64 0, .int .i64 c63, .int .i64 0, .slice ((some ⟨x.H, 0, none⟩)) p.heard.length p.heard.length] 54 (0, 0)) := HPB_18.out
          have FP4' : w18.heap[P4]? = some (.cells (mcv v (.slice B nb cb)) 36 (0, 0)) := HP4_18.out
          have FP9' : w18.heap[P9]? = some (.cells #[.int .i64 0, .int .i64 c63, .int .i64 0] 34 (0, 0)) := HP9_18.out
          clear FP FP4 FP9
          have FP := FP'
          clear FP'
          have FP4 := FP4'
          clear FP4'
          have FP9 := FP9'
          clear FP9'
          refine hK.out _ _ ?_ (fun hHeld => ?_)
          · try dsimp only
            (refine ⟨?_, ?_, ?_⟩ <;> (first | with_reducible assumption))
          clear hK K
          try simp only [Act.put, List.setIfInBounds_toArray, List.set_cons_zero, List.set_cons_succ]
          refine wpAnyH_ready (rs := [16]) (by kernel_rfl) (by simp) ?_
          refine AllReadyH.cons (by (simp only [List.getElem?_toArray, List.getElem?_cons_succ, List.getElem?_cons_zero]; rfl)) (fun K hK => ?_) AllReadyH.nil
          refine wp_store_row 36 (.tmp 10) (.tmp 80) rfl P10 _ rfl rfl 36 _ HP10_18.out (by kernel_rfl) rfl (by simp [Value.oneCell']) ?_
          obtain ⟨w19, hw28⟩ : ∃ y, y = w18.setRow P10 #[.int .i64 (uu 0), .int .i64 (uu 1), .int .i64 (uu 2), .int .i64 (uu 3), .int .i64 (uu 4), .int .i64 (uu 5), .int .i64 (uu 6), .int .i64 (uu 7), .int .i64 (uu 8), .int .i64 (uu 9), .int .i64 (uu 10), .int .i64 (uu 11), .int .i64 (uu 12), .int .i64 (uu 13), .int .i64 (uu 14), .int .i64 (uu 15), .int .i64 (uu 16), .slice none 0 0, .int .i64 (uu 18), .int .i64 (uu 19), .int .i64 (uu 20)] := ⟨_, rfl⟩
          have hch := Ch.ofRow HP10_18.out #[.int .i64 (uu 0), .int .i64 (uu 1), .int .i64 (uu 2), .int .i64 (uu 3), .int .i64 (uu 4), .int .i64 (uu 5), .int .i64 (uu 6), .int .i64 (uu 7), .int .i64 (uu 8), .int .i64 (uu 9), .int .i64 (uu 10), .int .i64 (uu 11), .int .i64 (uu 12), .int .i64 (uu 13), .int .i64 (uu 14), .int .i64 (uu 15), .int .i64 (uu 16), .slice none 0 0, .int .i64 (uu 18), .int .i64 (uu 19), .int .i64 (uu 20)]
          rw [← hw28] at hch
          have hnew : w19.heap[P10]? = some (.cells (mcv uu (.slice none 0 0)) 36 (0, 0)) := by rw [hw28]; exact setRow_heap _ _ _ _ _ _ HP10_18.out
          have HC_19 : Hid (CAt w19 x.gc p.s x.cA x.cc) := Lib.hid (hch.cat HC_18.out (by decide) (by decide))
          have HWAY_19 : Hid (w19.ownsRow (x.H + 1) 36 21 (.slice x.wA p.way.length x.wc) p.way.length (mgs p.way)) := Lib.hid (hch.chg.own HWAY_18.out (fun k hk e => HNWAY_P10.out (hk.trans e.symm)))
          have HHD_19 : Hid (w19.heap[x.H]? = some (.cells (ints p.heard).toArray 3 (0, 0))) := Lib.hid (hch.blk HHD_18.out (by show (3 + 1 : Nat) ≠ _; decide))
          have HB_19 : Hid (Chg (fun k => lo ≤ k) w0 w19) := Lib.hid (hch.low HB_18.out (fun k hk => by injection hk with hk; omega))
          have HP4_19 : Hid (w19.heap[P4]? = some (.cells (mcv v (.slice B nb cb)) 36 (0, 0))) := Lib.hid (hch.blkN HP4_18.out (by intro e; injection e with e; omega))
          have HP8_19 : Hid (w19.heap[P8]? = some (.cells (mcv u (.slice none 0 0)) 36 (0, 0))) := Lib.hid (hch.blkN HP8_18.out (by intro e; injection e with e; omega))
          have HP9_19 : Hid (w19.heap[P9]? = some (.cells #[.int .i64 0, .int .i64 c63, .int .i64 0] 34 (0, 0))) := Lib.hid (hch.blk HP9_18.out (by show (34 + 1 : Nat) ≠ _; decide))
          have HBOOK_19 : Hid (w19.ownsRow (x.H + 1) 3 1 (.slice A24 ((p.book.length + 1)) c25) (p.book.length + 1) ((ints p.book) ++ [.int .i64 (v 16)])) := Lib.hid (hch.own HBOOK_18.out (by decide))
          have HPB_19 : Hid (w19.heap[P]? = some (.cells #[.int .i64 id, .pointer (some ⟨x.gc, 0, none⟩), .pointer (some ⟨x.gs, 0, none⟩), .int .i64 p.ep, .slice x.wA p.way.length x.wc, .slice A24 ((p.book.length + 1)) c25, .int .i64 0, .int .i64 c63, .int .i64 0, .slice ((some ⟨x.H, 0, none⟩)) p.heard.length p.heard.length] 54 (0, 0))) := Lib.hid (hch.blk HPB_18.out (by show (54 + 1 : Nat) ≠ _; decide))
          have HS_19 : Hid (SAt w19 x.gs p.ep x.M (x.nn + 1) (if kk = true then kput f id ⟨v 16, 0, c63, 0⟩ else f)) := Lib.hid (hch.sat HS_18.out (by decide) (by decide))
          clear hch HC_18 HWAY_18 HHD_18 HB_18 HP4_18 HP8_18 HP9_18 HBOOK_18 HPB_18 HS_18
          have HP10_19 := Lib.hid hnew
          clear hnew HP10_18
          rw [← hw28]
          clear hw28
          have FP' : w19.heap[P]? = some (.cells #[.int .i64 id, .pointer (some ⟨x.gc, 0, none⟩), .pointer (some ⟨x.gs, 0, none⟩), .int .i64 p.ep, .slice x.wA p.way.length x.wc, .slice A24 ((p.book.length + 1)) c25, .int .i64 0, .int .i64 c63, .int .i64 0, .slice ((some ⟨x.H, 0, none⟩)) p.heard.length p.heard.length] 54 (0, 0)) := HPB_19.out
          have FP4' : w19.heap[P4]? = some (.cells (mcv v (.slice B nb cb)) 36 (0, 0)) := HP4_19.out
          have FP9' : w19.heap[P9]? = some (.cells #[.int .i64 0, .int .i64 c63, .int .i64 0] 34 (0, 0)) := HP9_19.out
          clear FP FP4 FP9
          have FP := FP'
          clear FP'
          have FP4 := FP4'
          clear FP4'
          have FP9 := FP9'
          clear FP9'
          refine hK.out _ _ ?_ (fun hHeld => ?_)
          · try dsimp only
            (refine ⟨?_, ?_, ?_⟩ <;> (first | with_reducible assumption))
          clear hK K
          try simp only [Act.put]
          refine wpAnyH_take (i := 17) (v := ?_) (by (simp only [List.getElem?_toArray, List.getElem?_cons_succ, List.getElem?_cons_zero]; rfl)) (by kernel_rfl) (by kernel_rfl) (by kernel_rfl) (fun _ _ _ h => h) (Or.inl ⟨by rfl, ?_⟩) (by assumption) ?_
          rotate_left
          · (intro w hSw; (try dsimp only at hSw); go_simp; try with_reducible rfl)
          try simp only [Act.put, List.setIfInBounds_toArray, List.set_cons_zero, List.set_cons_succ]
          refine wpAnyH_done (by kernel_rfl) ?_ _
          refine NoPanic.normal ?_
          clear hHeld FP FP4 FP9
          go_wp2_with fail
          go_meet
          case rel => exact ⟨kk, uu, P10, rfl, rfl, loP10, oP10_P4, oP10_P8, HU, HWU, HNWAY_P10, HC_19, HWAY_19, HHD_19, HB_19, HP4_19, HP8_19, HP9_19, HBOOK_19, HPB_19, HS_19, HP10_19⟩
        · skip
          go_simp
          obtain ⟨P10, hP10⟩ : ∃ x, x = w16.heap.size := ⟨_, rfl⟩
          have loP10 : lo ≤ P10 := (by have := ltb HPB_16.out; omega)
          have oP10_P4 : P4 < P10 := (by have := ltb HP4_16.out; omega)
          have oP10_P8 : P8 < P10 := (by have := ltb HP8_16.out; omega)
          obtain ⟨w17, hw27⟩ : ∃ y, y = w16.alloc (.cells #[.int .i64 0, .int .i64 0, .int .i64 0, .int .i64 0, .int .i64 0, .int .i64 0, .int .i64 0, .int .i64 0, .int .i64 0, .int .i64 0, .int .i64 0, .int .i64 0, .int .i64 0, .int .i64 0, .int .i64 0, .int .i64 0, .int .i64 0, .slice none 0 0, .int .i64 0, .int .i64 0, .int .i64 0] 36) := ⟨_, rfl⟩
          have hal : Below w16.heap.size w16 w17 := by rw [hw27]; exact (Below.refl _ _).alloc (Nat.le_refl _) _
          have hnew : w17.heap[P10]? = some (.cells (mcv (fun _ => 0) (.slice none 0 0)) 36 (0, 0)) := by rw [hw27, hP10]; exact heap_alloc_new _ _
          have HNWAY_P10 : Hid ((.slice x.wA p.way.length x.wc : Value).ownBlock ≠ some P10) := Lib.hid (fun e => by have := (HWAY_16.out.lt _ e).2; omega)
          have HC_17 : Hid (CAt w17 x.gc p.s x.cA x.cc) := Lib.hid (HC_16.out.below hal)
          have HS_17 : Hid (SAt w17 x.gs p.ep x.M x.nn f) := Lib.hid (HS_16.out.below hal)
          have HWAY_17 : Hid (w17.ownsRow (x.H + 1) 36 21 (.slice x.wA p.way.length x.wc) p.way.length (mgs p.way)) := Lib.hid ((Chg.of_below (S := fun _ => False) hal).own HWAY_16.out (fun _ _ h => h))
          have HHD_17 : Hid (w17.heap[x.H]? = some (.cells (ints p.heard).toArray 3 (0, 0))) := Lib.hid ((hal.block x.H (ltb HHD_16.out)).trans HHD_16.out)
          have HB_17 : Hid (Chg (fun k => lo ≤ k) w0 w17) := Lib.hid (HB_16.out.trans (Chg.of_below hal))
          have HP4_17 : Hid (w17.heap[P4]? = some (.cells (mcv v (.slice B nb cb)) 36 (0, 0))) := Lib.hid ((hal.block P4 (ltb HP4_16.out)).trans HP4_16.out)
          have HP8_17 : Hid (w17.heap[P8]? = some (.cells (mcv u (.slice none 0 0)) 36 (0, 0))) := Lib.hid ((hal.block P8 (ltb HP8_16.out)).trans HP8_16.out)
          have HP9_17 : Hid (w17.heap[P9]? = some (.cells #[.int .i64 0, .int .i64 c63, .int .i64 0] 34 (0, 0))) := Lib.hid ((hal.block P9 (ltb HP9_16.out)).trans HP9_16.out)
          have HBOOK_17 : Hid (w17.ownsRow (x.H + 1) 3 1 (.slice A24 ((p.book.length + 1)) c25) (p.book.length + 1) ((ints p.book) ++ [.int .i64 (v 16)])) := Lib.hid ((Chg.of_below (S := fun _ => False) hal).own HBOOK_16.out (fun _ _ h => h))
          have HPB_17 : Hid (w17.heap[P]? = some (.cells #[.int .i64 id, .pointer (some ⟨x.gc, 0, none⟩), .pointer (some ⟨x.gs, 0, none⟩), .int .i64 p.ep, .slice x.wA p.way.length x.wc, .slice A24 ((p.book.length + 1)) c25, .int .i64 0, .int .i64 c63, .int .i64 0, .slice ((some ⟨x.H, 0, none⟩)) p.heard.length p.heard.length] 54 (0, 0))) := Lib.hid ((hal.block P (ltb HPB_16.out)).trans HPB_16.out)
          clear hal HC_16 HS_16 HWAY_16 HHD_16 HB_16 HP4_16 HP8_16 HP9_16 HBOOK_16 HPB_16
          have HP10_17 := Lib.hid hnew
          clear hnew
          rw [← hw27]
          clear hw27
          rw [← hP10]
          clear hP10
          have FP' : w17.heap[P]? = some (.cells #[.int .i64 id, .pointer (some ⟨x.gc, 0, none⟩), .pointer (some ⟨x.gs, 0, none⟩), .int .i64 p.ep, .slice x.wA p.way.length x.wc, .slice A24 ((p.book.length + 1)) c25, .int .i64 0, .int .i64 c63, .int .i64 0, .slice ((some ⟨x.H, 0, none⟩)) p.heard.length p.heard.length] 54 (0, 0)) := HPB_17.out
          have FP4' : w17.heap[P4]? = some (.cells (mcv v (.slice B nb cb)) 36 (0, 0)) := HP4_17.out
          have FP9' : w17.heap[P9]? = some (.cells #[.int .i64 0, .int .i64 c63, .int .i64 0] 34 (0, 0)) := HP9_17.out
          clear FP FP4 FP9
          have FP := FP'
          clear FP'
          have FP4 := FP4'
          clear FP4'
          have FP9 := FP9'
          clear FP9'
          refine hK.out _ _ ?_ (fun hHeld => ?_)
          · try dsimp only
            (refine ⟨?_, ?_, ?_⟩ <;> (first | with_reducible assumption))
          clear hK K
          try simp only [Act.put, List.setIfInBounds_toArray, List.set_cons_zero, List.set_cons_succ]
          refine wpAnyH_ready (rs := [11]) (by kernel_rfl) (by simp) ?_
          refine AllReadyH.cons (by (simp only [List.getElem?_toArray, List.getElem?_cons_succ, List.getElem?_cons_zero]; rfl)) (fun K hK => ?_) AllReadyH.nil
          go_simp
          refine (done_any x.gs p.ep x.M x.nn f id (v 16) 0 c63 0 w17 HS_17.out HWI.out (by unfold maxLen; omega)).mono ?_
          rintro e w18 ⟨kk, hk, he, hs, hg⟩
          obtain ⟨uu, hu⟩ : ∃ uu : Nat → Int, (if kk = true then (#[.int .i64 8, .int .i64 p.ep, .int .i64 0, .int .i64 0, .int .i64 0, .int .i64 0, .int .i64 0, .int .i64 0, .int .i64 0, .int .i64 0, .int .i64 0, .int .i64 0, .int .i64 0, .int .i64 0, .int .i64 0, .int .i64 id, .int .i64 ((v 16)), .slice none 0 0, .int .i64 0, .int .i64 c63, .int .i64 0] : Array Value) else #[.int .i64 0, .int .i64 0, .int .i64 0, .int .i64 0, .int .i64 0, .int .i64 0, .int .i64 0, .int .i64 0, .int .i64 0, .int .i64 0, .int .i64 0, .int .i64 0, .int .i64 0, .int .i64 0, .int .i64 0, .int .i64 0, .int .i64 0, .slice none 0 0, .int .i64 0, .int .i64 0, .int .i64 0]) = #[.int .i64 (uu 0), .int .i64 (uu 1), .int .i64 (uu 2), .int .i64 (uu 3), .int .i64 (uu 4), .int .i64 (uu 5), .int .i64 (uu 6), .int .i64 (uu 7), .int .i64 (uu 8), .int .i64 (uu 9), .int .i64 (uu 10), .int .i64 (uu 11), .int .i64 (uu 12), .int .i64 (uu 13), .int .i64 (uu 14), .int .i64 (uu 15), .int .i64 (uu 16), .slice none 0 0, .int .i64 (uu 18), .int .i64 (uu 19), .int .i64 (uu 20)] := by
            cases kk
            · exact ⟨fun _ => 0, rfl⟩
            · exact ⟨repV p.ep id (v 16) 0 c63 0, rfl⟩
          rw [hu] at he
          subst he
          have hmap : ∃ es clock, w17.heap[x.M]? = some (.map es clock) := by
            obtain ⟨D, ⟨es, clock, hb, _⟩, _⟩ := HS_17.out.map
            exact ⟨_, _, hb⟩
          have hch := Ch.ofMap hmap hg
          have HU := Lib.hid hu
          have HS' := Lib.hid hs
          have HWU : Hid ((Lit.int .i64 (uu 15)).wf = true) := Lib.hid (uu_wf hu HWI.out)
          clear hk hu hs hg hmap HS_17
          have HC_18 : Hid (CAt w18 x.gc p.s x.cA x.cc) := Lib.hid (hch.cat HC_17.out (by decide) (by decide))
          have HWAY_18 : Hid (w18.ownsRow (x.H + 1) 36 21 (.slice x.wA p.way.length x.wc) p.way.length (mgs p.way)) := Lib.hid (hch.own HWAY_17.out (by decide))
          have HHD_18 : Hid (w18.heap[x.H]? = some (.cells (ints p.heard).toArray 3 (0, 0))) := Lib.hid (hch.blk HHD_17.out (by show (3 + 1 : Nat) ≠ _; decide))
          have HB_18 : Hid (Chg (fun k => lo ≤ k) w0 w18) := Lib.hid (hch.low HB_17.out (fun k hk => by injection hk with hk; omega))
          have HP4_18 : Hid (w18.heap[P4]? = some (.cells (mcv v (.slice B nb cb)) 36 (0, 0))) := Lib.hid (hch.blk HP4_17.out (by show (36 + 1 : Nat) ≠ _; decide))
          have HP8_18 : Hid (w18.heap[P8]? = some (.cells (mcv u (.slice none 0 0)) 36 (0, 0))) := Lib.hid (hch.blk HP8_17.out (by show (36 + 1 : Nat) ≠ _; decide))
          have HP9_18 : Hid (w18.heap[P9]? = some (.cells #[.int .i64 0, .int .i64 c63, .int .i64 0] 34 (0, 0))) := Lib.hid (hch.blk HP9_17.out (by show (34 + 1 : Nat) ≠ _; decide))
          have HBOOK_18 : Hid (w18.ownsRow (x.H + 1) 3 1 (.slice A24 ((p.book.length + 1)) c25) (p.book.length + 1) ((ints p.book) ++ [.int .i64 (v 16)])) := Lib.hid (hch.own HBOOK_17.out (by decide))
          have HPB_18 : Hid (w18.heap[P]? = some (.cells #[.int .i64 id, .pointer (some ⟨x.gc, 0, none⟩), .pointer (some ⟨x.gs, 0, none⟩), .int .i64 p.ep, .slice x.wA p.way.length x.wc, .slice A24 ((p.book.length + 1)) c25, .int .i64 0, .int .i64 c63, .int .i64 0, .slice ((some ⟨x.H, 0, none⟩)) p.heard.length p.heard.length] 54 (0, 0))) := Lib.hid (hch.blk HPB_17.out (by show (54 + 1 : Nat) ≠ _; decide))
          have HP10_18 : Hid (w18.heap[P10]? = some (.cells (mcv (fun _ => 0) (.slice none 0 0)) 36 (0, 0))) := Lib.hid (hch.blk HP10_17.out (by show (36 + 1 : Nat) ≠ _; decide))
          clear hch HC_17 HWAY_17 HHD_17 HB_17 HP4_17 HP8_17 HP9_17 HBOOK_17 HPB_17 HP10_17
          have HS_18 := HS'
          clear HS'
          have FP' : w18.heap[P]? = some (.cells #[.int .i64 id, .pointer (some ⟨x.gc, 0, none⟩), .pointer (some ⟨x.gs, 0, none⟩), .int .i64 p.ep, .slice x.wA p.way.length x.wc, .slice A24 ((p.book.length + 1)) c25, .int .i64 0, .int .i64 c63, .int .i64 0, .slice ((some ⟨x.H, 0, none⟩)) p.heard.length p.heard.length] 54 (0, 0)) := HPB_18.out
          have FP4' : w18.heap[P4]? = some (.cells (mcv v (.slice B nb cb)) 36 (0, 0)) := HP4_18.out
          have FP9' : w18.heap[P9]? = some (.cells #[.int .i64 0, .int .i64 c63, .int .i64 0] 34 (0, 0)) := HP9_18.out
          clear FP FP4 FP9
          have FP := FP'
          clear FP'
          have FP4 := FP4'
          clear FP4'
          have FP9 := FP9'
          clear FP9'
          refine hK.out _ _ ?_ (fun hHeld => ?_)
          · try dsimp only
            (refine ⟨?_, ?_, ?_⟩ <;> (first | with_reducible assumption))
          clear hK K
          try simp only [Act.put, List.setIfInBounds_toArray, List.set_cons_zero, List.set_cons_succ]
          refine wpAnyH_take (i := 12) (v := ?_) (by (simp only [List.getElem?_toArray, List.getElem?_cons_succ, List.getElem?_cons_zero]; rfl)) (by kernel_rfl) (by kernel_rfl) (by kernel_rfl) (fun _ _ _ h => h) (Or.inl ⟨by rfl, ?_⟩) (by assumption) ?_
          rotate_left
          · (intro w hSw; (try dsimp only at hSw); go_simp; try with_reducible rfl)
          try simp only [Act.put, List.setIfInBounds_toArray, List.set_cons_zero, List.set_cons_succ]
          refine wpAnyH_take (i := 13) (v := ?_) (by (simp only [List.getElem?_toArray, List.getElem?_cons_succ, List.getElem?_cons_zero]; rfl)) (by kernel_rfl) (by kernel_rfl) (by kernel_rfl) (fun _ _ _ h => h) (Or.inl ⟨by rfl, ?_⟩) (by assumption) ?_
          rotate_left
          · (intro w hSw; (try dsimp only at hSw); go_simp; try with_reducible rfl)
          try simp only [Act.put, List.setIfInBounds_toArray, List.set_cons_zero, List.set_cons_succ]
          refine wpAnyH_take (i := 14) (v := ?_) (by (simp only [List.getElem?_toArray, List.getElem?_cons_succ, List.getElem?_cons_zero]; rfl)) (by kernel_rfl) (by kernel_rfl) (by kernel_rfl) (fun _ _ _ h => h) (Or.inl ⟨by rfl, ?_⟩) (by assumption) ?_
          rotate_left
          · (intro w hSw; (try dsimp only at hSw); go_simp; try with_reducible rfl)
          try simp only [Act.put, List.setIfInBounds_toArray, List.set_cons_zero, List.set_cons_succ]
          refine wpAnyH_ready (rs := [16]) (by kernel_rfl) (by simp) ?_
          refine AllReadyH.cons (by (simp only [List.getElem?_toArray, List.getElem?_cons_succ, List.getElem?_cons_zero]; rfl)) (fun K hK => ?_) AllReadyH.nil
          refine wp_store_row 36 (.tmp 10) (.tmp 80) rfl P10 _ rfl rfl 36 _ HP10_18.out (by kernel_rfl) rfl (by simp [Value.oneCell']) ?_
          obtain ⟨w19, hw29⟩ : ∃ y, y = w18.setRow P10 #[.int .i64 (uu 0), .int .i64 (uu 1), .int .i64 (uu 2), .int .i64 (uu 3), .int .i64 (uu 4), .int .i64 (uu 5), .int .i64 (uu 6), .int .i64 (uu 7), .int .i64 (uu 8), .int .i64 (uu 9), .int .i64 (uu 10), .int .i64 (uu 11), .int .i64 (uu 12), .int .i64 (uu 13), .int .i64 (uu 14), .int .i64 (uu 15), .int .i64 (uu 16), .slice none 0 0, .int .i64 (uu 18), .int .i64 (uu 19), .int .i64 (uu 20)] := ⟨_, rfl⟩
          have hch := Ch.ofRow HP10_18.out #[.int .i64 (uu 0), .int .i64 (uu 1), .int .i64 (uu 2), .int .i64 (uu 3), .int .i64 (uu 4), .int .i64 (uu 5), .int .i64 (uu 6), .int .i64 (uu 7), .int .i64 (uu 8), .int .i64 (uu 9), .int .i64 (uu 10), .int .i64 (uu 11), .int .i64 (uu 12), .int .i64 (uu 13), .int .i64 (uu 14), .int .i64 (uu 15), .int .i64 (uu 16), .slice none 0 0, .int .i64 (uu 18), .int .i64 (uu 19), .int .i64 (uu 20)]
          rw [← hw29] at hch
          have hnew : w19.heap[P10]? = some (.cells (mcv uu (.slice none 0 0)) 36 (0, 0)) := by rw [hw29]; exact setRow_heap _ _ _ _ _ _ HP10_18.out
          have HC_19 : Hid (CAt w19 x.gc p.s x.cA x.cc) := Lib.hid (hch.cat HC_18.out (by decide) (by decide))
          have HWAY_19 : Hid (w19.ownsRow (x.H + 1) 36 21 (.slice x.wA p.way.length x.wc) p.way.length (mgs p.way)) := Lib.hid (hch.chg.own HWAY_18.out (fun k hk e => HNWAY_P10.out (hk.trans e.symm)))
          have HHD_19 : Hid (w19.heap[x.H]? = some (.cells (ints p.heard).toArray 3 (0, 0))) := Lib.hid (hch.blk HHD_18.out (by show (3 + 1 : Nat) ≠ _; decide))
          have HB_19 : Hid (Chg (fun k => lo ≤ k) w0 w19) := Lib.hid (hch.low HB_18.out (fun k hk => by injection hk with hk; omega))
          have HP4_19 : Hid (w19.heap[P4]? = some (.cells (mcv v (.slice B nb cb)) 36 (0, 0))) := Lib.hid (hch.blkN HP4_18.out (by intro e; injection e with e; omega))
          have HP8_19 : Hid (w19.heap[P8]? = some (.cells (mcv u (.slice none 0 0)) 36 (0, 0))) := Lib.hid (hch.blkN HP8_18.out (by intro e; injection e with e; omega))
          have HP9_19 : Hid (w19.heap[P9]? = some (.cells #[.int .i64 0, .int .i64 c63, .int .i64 0] 34 (0, 0))) := Lib.hid (hch.blk HP9_18.out (by show (34 + 1 : Nat) ≠ _; decide))
          have HBOOK_19 : Hid (w19.ownsRow (x.H + 1) 3 1 (.slice A24 ((p.book.length + 1)) c25) (p.book.length + 1) ((ints p.book) ++ [.int .i64 (v 16)])) := Lib.hid (hch.own HBOOK_18.out (by decide))
          have HPB_19 : Hid (w19.heap[P]? = some (.cells #[.int .i64 id, .pointer (some ⟨x.gc, 0, none⟩), .pointer (some ⟨x.gs, 0, none⟩), .int .i64 p.ep, .slice x.wA p.way.length x.wc, .slice A24 ((p.book.length + 1)) c25, .int .i64 0, .int .i64 c63, .int .i64 0, .slice ((some ⟨x.H, 0, none⟩)) p.heard.length p.heard.length] 54 (0, 0))) := Lib.hid (hch.blk HPB_18.out (by show (54 + 1 : Nat) ≠ _; decide))
          have HS_19 : Hid (SAt w19 x.gs p.ep x.M (x.nn + 1) (if kk = true then kput f id ⟨v 16, 0, c63, 0⟩ else f)) := Lib.hid (hch.sat HS_18.out (by decide) (by decide))
          clear hch HC_18 HWAY_18 HHD_18 HB_18 HP4_18 HP8_18 HP9_18 HBOOK_18 HPB_18 HS_18
          have HP10_19 := Lib.hid hnew
          clear hnew HP10_18
          rw [← hw29]
          clear hw29
          have FP' : w19.heap[P]? = some (.cells #[.int .i64 id, .pointer (some ⟨x.gc, 0, none⟩), .pointer (some ⟨x.gs, 0, none⟩), .int .i64 p.ep, .slice x.wA p.way.length x.wc, .slice A24 ((p.book.length + 1)) c25, .int .i64 0, .int .i64 c63, .int .i64 0, .slice ((some ⟨x.H, 0, none⟩)) p.heard.length p.heard.length] 54 (0, 0)) := HPB_19.out
          have FP4' : w19.heap[P4]? = some (.cells (mcv v (.slice B nb cb)) 36 (0, 0)) := HP4_19.out
          have FP9' : w19.heap[P9]? = some (.cells #[.int .i64 0, .int .i64 c63, .int .i64 0] 34 (0, 0)) := HP9_19.out
          clear FP FP4 FP9
          have FP := FP'
          clear FP'
          have FP4 := FP4'
          clear FP4'
          have FP9 := FP9'
          clear FP9'
          refine hK.out _ _ ?_ (fun hHeld => ?_)
          · try dsimp only
            (refine ⟨?_, ?_, ?_⟩ <;> (first | with_reducible assumption))
          clear hK K
          try simp only [Act.put]
          refine wpAnyH_take (i := 17) (v := ?_) (by (simp only [List.getElem?_toArray, List.getElem?_cons_succ, List.getElem?_cons_zero]; rfl)) (by kernel_rfl) (by kernel_rfl) (by kernel_rfl) (fun _ _ _ h => h) (Or.inl ⟨by rfl, ?_⟩) (by assumption) ?_
          rotate_left
          · (intro w hSw; (try dsimp only at hSw); go_simp; try with_reducible rfl)
          try simp only [Act.put, List.setIfInBounds_toArray, List.set_cons_zero, List.set_cons_succ]
          refine wpAnyH_done (by kernel_rfl) ?_ _
          refine NoPanic.normal ?_
          clear hHeld FP FP4 FP9
          go_wp2_with fail
          go_meet
          case rel => exact ⟨kk, uu, P10, rfl, rfl, loP10, oP10_P4, oP10_P8, HU, HWU, HNWAY_P10, HC_19, HWAY_19, HHD_19, HB_19, HP4_19, HP8_19, HP9_19, HBOOK_19, HPB_19, HS_19, HP10_19⟩
      case rest =>
      obtain ⟨w19, rfl⟩ : ∃ y : World, y = wc := ⟨_, rfl⟩
      obtain ⟨kk, uu, P10, rfl, rfl, loP10, oP10_P4, oP10_P8, HU, HWU, HNWAY_P10, HC_19, HWAY_19, HHD_19, HB_19, HP4_19, HP8_19, HP9_19, HBOOK_19, HPB_19, HS_19, HP10_19⟩ := hcut
      go_upto_region 14 with (fail)
      have HC_20 : Hid (CAt w19.drew x.gc p.s x.cA x.cc) := Lib.hid (HC_19.out.below ((Below.refl w19.heap.size w19).drew))
      have HWAY_20 : Hid (w19.drew.ownsRow (x.H + 1) 36 21 (.slice x.wA p.way.length x.wc) p.way.length (mgs p.way)) := Lib.hid ((Chg.of_below (S := fun _ => False) ((Below.refl w19.heap.size w19).drew)).own HWAY_19.out (fun _ _ h => h))
      have HHD_20 : Hid (w19.drew.heap[x.H]? = some (.cells (ints p.heard).toArray 3 (0, 0))) := Lib.hid ((((Below.refl w19.heap.size w19).drew).block x.H (ltb HHD_19.out)).trans HHD_19.out)
      have HB_20 : Hid (Chg (fun k => lo ≤ k) w0 w19.drew) := Lib.hid (HB_19.out.trans (Chg.of_below ((Below.refl w19.heap.size w19).drew)))
      have HP4_20 : Hid (w19.drew.heap[P4]? = some (.cells (mcv v (.slice B nb cb)) 36 (0, 0))) := Lib.hid ((((Below.refl w19.heap.size w19).drew).block P4 (ltb HP4_19.out)).trans HP4_19.out)
      have HP8_20 : Hid (w19.drew.heap[P8]? = some (.cells (mcv u (.slice none 0 0)) 36 (0, 0))) := Lib.hid ((((Below.refl w19.heap.size w19).drew).block P8 (ltb HP8_19.out)).trans HP8_19.out)
      have HP9_20 : Hid (w19.drew.heap[P9]? = some (.cells #[.int .i64 0, .int .i64 c63, .int .i64 0] 34 (0, 0))) := Lib.hid ((((Below.refl w19.heap.size w19).drew).block P9 (ltb HP9_19.out)).trans HP9_19.out)
      have HBOOK_20 : Hid (w19.drew.ownsRow (x.H + 1) 3 1 (.slice A24 ((p.book.length + 1)) c25) (p.book.length + 1) ((ints p.book) ++ [.int .i64 (v 16)])) := Lib.hid ((Chg.of_below (S := fun _ => False) ((Below.refl w19.heap.size w19).drew)).own HBOOK_19.out (fun _ _ h => h))
      have HPB_20 : Hid (w19.drew.heap[P]? = some (.cells #[.int .i64 id, .pointer (some ⟨x.gc, 0, none⟩), .pointer (some ⟨x.gs, 0, none⟩), .int .i64 p.ep, .slice x.wA p.way.length x.wc, .slice A24 ((p.book.length + 1)) c25, .int .i64 0, .int .i64 c63, .int .i64 0, .slice ((some ⟨x.H, 0, none⟩)) p.heard.length p.heard.length] 54 (0, 0))) := Lib.hid ((((Below.refl w19.heap.size w19).drew).block P (ltb HPB_19.out)).trans HPB_19.out)
      have HS_20 : Hid (SAt w19.drew x.gs p.ep x.M (x.nn + 1) (if kk = true then kput f id ⟨v 16, 0, c63, 0⟩ else f)) := Lib.hid (HS_19.out.below ((Below.refl w19.heap.size w19).drew))
      have HP10_20 : Hid (w19.drew.heap[P10]? = some (.cells (mcv uu (.slice none 0 0)) 36 (0, 0))) := Lib.hid ((((Below.refl w19.heap.size w19).drew).block P10 (ltb HP10_19.out)).trans HP10_19.out)
      clear HC_19 HWAY_19 HHD_19 HB_19 HP4_19 HP8_19 HP9_19 HBOOK_19 HPB_19 HS_19 HP10_19
      have FP10 : w19.drew.heap[P10]? = some (.cells (mcv uu (.slice none 0 0)) 36 (0, 0)) := HP10_20.out
      refine wp_region_noPanic ?_
      refine wp_region_held_drew (S := fun w' => w'.heap[P10]? = some (.cells (mcv uu (.slice none 0 0)) 36 (0, 0))) (by kernel_rfl) ?_ (fun hHeld => ?_)
      · try dsimp only
        (refine ?_ <;> (first | with_reducible assumption))
      generalize w19.drew = w20 at *
      refine wpAnyH_take (i := 0) (v := ?_) (by (simp only [List.getElem?_toArray, List.getElem?_cons_zero]; rfl)) (by kernel_rfl) (by kernel_rfl) (by kernel_rfl) (fun _ _ _ h => h) (Or.inl ⟨by rfl, ?_⟩) (by assumption) ?_
      rotate_left
      · (intro w hSw; (try dsimp only at hSw); go_simp; try with_reducible rfl)
      try simp only [Act.put, List.setIfInBounds_toArray, List.set_cons_zero, List.set_cons_succ]
      refine wpAnyH_take (i := 1) (v := ?_) (by (simp only [List.getElem?_toArray, List.getElem?_cons_succ, List.getElem?_cons_zero]; rfl)) (by kernel_rfl) (by kernel_rfl) (by kernel_rfl) (fun _ _ _ h => h) (Or.inl ⟨by rfl, ?_⟩) (by assumption) ?_
      rotate_left
      · (intro w hSw; (try dsimp only at hSw); go_simp; try with_reducible rfl)
      try simp only [Act.put, List.setIfInBounds_toArray, List.set_cons_zero, List.set_cons_succ]
      refine wpAnyH_take (i := 2) (v := ?_) (by (simp only [List.getElem?_toArray, List.getElem?_cons_succ, List.getElem?_cons_zero]; rfl)) (by kernel_rfl) (by kernel_rfl) (by kernel_rfl) (fun _ _ _ h => h) (Or.inl ⟨by rfl, ?_⟩) (by assumption) ?_
      rotate_left
      · (intro w hSw; (try dsimp only at hSw); go_simp; try with_reducible rfl)
      try simp only [Act.put, List.setIfInBounds_toArray, List.set_cons_zero, List.set_cons_succ]
      refine wpAnyH_take (i := 3) (v := ?_) (by (simp only [List.getElem?_toArray, List.getElem?_cons_succ, List.getElem?_cons_zero]; rfl)) (by kernel_rfl) (by kernel_rfl) (by kernel_rfl) (fun _ _ _ h => h) (Or.inl ⟨by rfl, ?_⟩) (by assumption) ?_
      rotate_left
      · (intro w hSw; (try dsimp only at hSw); go_simp; try with_reducible rfl)
      try simp only [Act.put, List.setIfInBounds_toArray, List.set_cons_zero, List.set_cons_succ]
      refine wpAnyH_take (i := 5) (v := ?_) (by (simp only [List.getElem?_toArray, List.getElem?_cons_succ, List.getElem?_cons_zero]; rfl)) (by kernel_rfl) (by kernel_rfl) (by kernel_rfl) (fun _ _ _ h => h) (Or.inl ⟨by rfl, ?_⟩) (by assumption) ?_
      rotate_left
      · intro w hSw
        try dsimp only at hSw
        refine take_load (x := .tmp 10) (ty := 36) ?_ P10 ?_ 36 #[.int .i64 (uu 0), .int .i64 (uu 1), .int .i64 (uu 2), .int .i64 (uu 3), .int .i64 (uu 4), .int .i64 (uu 5), .int .i64 (uu 6), .int .i64 (uu 7), .int .i64 (uu 8), .int .i64 (uu 9), .int .i64 (uu 10), .int .i64 (uu 11), .int .i64 (uu 12), .int .i64 (uu 13), .int .i64 (uu 14), .int .i64 (uu 15), .int .i64 (uu 16), .slice none 0 0, .int .i64 (uu 18), .int .i64 (uu 19), .int .i64 (uu 20)] (0, 0) _ hSw Try.underlying36 rfl (by kernel_rfl)
        all_goals rfl
      try simp only [Act.put, List.setIfInBounds_toArray, List.set_cons_zero, List.set_cons_succ]
      apply cutC
      · intro hC
        refine wpAnyH_ready (rs := [4, 6]) (by kernel_rfl) (by simp) ?_
        refine AllReadyH.cons (by (simp only [List.getElem?_toArray, List.getElem?_cons_succ, List.getElem?_cons_zero]; rfl)) (fun K hK => ?_) (AllReadyH.cons (by (simp only [List.getElem?_toArray, List.getElem?_cons_succ, List.getElem?_cons_zero]; rfl)) (fun K hK => ?_) AllReadyH.nil)
        · have c0 : w20.cell? ⟨P, 4, none⟩ = some (.slice x.wA p.way.length x.wc) := cellb (i := 4) HPB_20.out rfl
          go_simp
          clear c0
          refine hK.out _ _ ?_ (fun hHeld => ?_)
          · try dsimp only
            (refine ?_ <;> (first | with_reducible assumption))
          clear hK K
          try simp only [Act.put, List.setIfInBounds_toArray, List.set_cons_zero, List.set_cons_succ]
          refine wpAnyH_ready (rs := [6]) (by kernel_rfl) (by simp) ?_
          refine AllReadyH.cons (by (simp only [List.getElem?_toArray, List.getElem?_cons_succ, List.getElem?_cons_zero]; rfl)) (fun K hK => ?_) AllReadyH.nil
          go_simp
          have GFP10 : (w20.alloc (.cells #[.int .i64 (uu 0), .int .i64 (uu 1), .int .i64 (uu 2), .int .i64 (uu 3), .int .i64 (uu 4), .int .i64 (uu 5), .int .i64 (uu 6), .int .i64 (uu 7), .int .i64 (uu 8), .int .i64 (uu 9), .int .i64 (uu 10), .int .i64 (uu 11), .int .i64 (uu 12), .int .i64 (uu 13), .int .i64 (uu 14), .int .i64 (uu 15), .int .i64 (uu 16), .slice none 0 0, .int .i64 (uu 18), .int .i64 (uu 19), .int .i64 (uu 20)] 36)).heap[P10]? = some (.cells (mcv uu (.slice none 0 0)) 36 (0, 0)) := alloc_blk FP10
          refine hK.out _ _ ?_ (fun hHeld => ?_)
          · try dsimp only
            (refine ?_ <;> (first | with_reducible assumption))
          clear hK K
          try simp only [Act.put, List.setIfInBounds_toArray, List.set_cons_zero, List.set_cons_succ]
          exact hC.out
        · go_simp
          have GFP10 : (w20.alloc (.cells #[.int .i64 (uu 0), .int .i64 (uu 1), .int .i64 (uu 2), .int .i64 (uu 3), .int .i64 (uu 4), .int .i64 (uu 5), .int .i64 (uu 6), .int .i64 (uu 7), .int .i64 (uu 8), .int .i64 (uu 9), .int .i64 (uu 10), .int .i64 (uu 11), .int .i64 (uu 12), .int .i64 (uu 13), .int .i64 (uu 14), .int .i64 (uu 15), .int .i64 (uu 16), .slice none 0 0, .int .i64 (uu 18), .int .i64 (uu 19), .int .i64 (uu 20)] 36)).heap[P10]? = some (.cells (mcv uu (.slice none 0 0)) 36 (0, 0)) := alloc_blk FP10
          refine hK.out _ _ ?_ (fun hHeld => ?_)
          · try dsimp only
            (refine ?_ <;> (first | with_reducible assumption))
          clear hK K
          try simp only [Act.put, List.setIfInBounds_toArray, List.set_cons_zero, List.set_cons_succ]
          refine wpAnyH_ready (rs := [4]) (by kernel_rfl) (by simp) ?_
          refine AllReadyH.cons (by (simp only [List.getElem?_toArray, List.getElem?_cons_succ, List.getElem?_cons_zero]; rfl)) (fun K hK => ?_) AllReadyH.nil
          have c0 : (w20.alloc (.cells #[.int .i64 (uu 0), .int .i64 (uu 1), .int .i64 (uu 2), .int .i64 (uu 3), .int .i64 (uu 4), .int .i64 (uu 5), .int .i64 (uu 6), .int .i64 (uu 7), .int .i64 (uu 8), .int .i64 (uu 9), .int .i64 (uu 10), .int .i64 (uu 11), .int .i64 (uu 12), .int .i64 (uu 13), .int .i64 (uu 14), .int .i64 (uu 15), .int .i64 (uu 16), .slice none 0 0, .int .i64 (uu 18), .int .i64 (uu 19), .int .i64 (uu 20)] 36)).cell? ⟨P, 4, none⟩ = some (.slice x.wA p.way.length x.wc) := keepA (cellb (i := 4) HPB_20.out rfl)
          go_simp
          clear c0
          refine hK.out _ _ ?_ (fun hHeld => ?_)
          · try dsimp only
            (refine ?_ <;> (first | with_reducible assumption))
          clear hK K
          try simp only [Act.put, List.setIfInBounds_toArray, List.set_cons_zero, List.set_cons_succ]
          exact hC.out
      obtain ⟨P88, hP88⟩ : ∃ x, x = w20.heap.size := ⟨_, rfl⟩
      have loP88 : lo ≤ P88 := (by have := ltb HPB_20.out; omega)
      have oP88_P4 : P4 < P88 := (by have := ltb HP4_20.out; omega)
      have oP88_P8 : P8 < P88 := (by have := ltb HP8_20.out; omega)
      have oP88_P10 : P10 < P88 := (by have := ltb HP10_20.out; omega)
      obtain ⟨w21, hw30⟩ : ∃ y, y = w20.alloc (.cells #[.int .i64 (uu 0), .int .i64 (uu 1), .int .i64 (uu 2), .int .i64 (uu 3), .int .i64 (uu 4), .int .i64 (uu 5), .int .i64 (uu 6), .int .i64 (uu 7), .int .i64 (uu 8), .int .i64 (uu 9), .int .i64 (uu 10), .int .i64 (uu 11), .int .i64 (uu 12), .int .i64 (uu 13), .int .i64 (uu 14), .int .i64 (uu 15), .int .i64 (uu 16), .slice none 0 0, .int .i64 (uu 18), .int .i64 (uu 19), .int .i64 (uu 20)] 36) := ⟨_, rfl⟩
      have hal : Below w20.heap.size w20 w21 := by rw [hw30]; exact (Below.refl _ _).alloc (Nat.le_refl _) _
      have hnew : w21.heap[P88]? = some (.cells (mcv uu (.slice none 0 0)) 36 (0, 0)) := by rw [hw30, hP88]; exact heap_alloc_new _ _
      have HNWAY_P88 : Hid ((.slice x.wA p.way.length x.wc : Value).ownBlock ≠ some P88) := Lib.hid (fun e => by have := (HWAY_20.out.lt _ e).2; omega)
      have HC_21 : Hid (CAt w21 x.gc p.s x.cA x.cc) := Lib.hid (HC_20.out.below hal)
      have HWAY_21 : Hid (w21.ownsRow (x.H + 1) 36 21 (.slice x.wA p.way.length x.wc) p.way.length (mgs p.way)) := Lib.hid ((Chg.of_below (S := fun _ => False) hal).own HWAY_20.out (fun _ _ h => h))
      have HHD_21 : Hid (w21.heap[x.H]? = some (.cells (ints p.heard).toArray 3 (0, 0))) := Lib.hid ((hal.block x.H (ltb HHD_20.out)).trans HHD_20.out)
      have HB_21 : Hid (Chg (fun k => lo ≤ k) w0 w21) := Lib.hid (HB_20.out.trans (Chg.of_below hal))
      have HP4_21 : Hid (w21.heap[P4]? = some (.cells (mcv v (.slice B nb cb)) 36 (0, 0))) := Lib.hid ((hal.block P4 (ltb HP4_20.out)).trans HP4_20.out)
      have HP8_21 : Hid (w21.heap[P8]? = some (.cells (mcv u (.slice none 0 0)) 36 (0, 0))) := Lib.hid ((hal.block P8 (ltb HP8_20.out)).trans HP8_20.out)
      have HP9_21 : Hid (w21.heap[P9]? = some (.cells #[.int .i64 0, .int .i64 c63, .int .i64 0] 34 (0, 0))) := Lib.hid ((hal.block P9 (ltb HP9_20.out)).trans HP9_20.out)
      have HBOOK_21 : Hid (w21.ownsRow (x.H + 1) 3 1 (.slice A24 ((p.book.length + 1)) c25) (p.book.length + 1) ((ints p.book) ++ [.int .i64 (v 16)])) := Lib.hid ((Chg.of_below (S := fun _ => False) hal).own HBOOK_20.out (fun _ _ h => h))
      have HPB_21 : Hid (w21.heap[P]? = some (.cells #[.int .i64 id, .pointer (some ⟨x.gc, 0, none⟩), .pointer (some ⟨x.gs, 0, none⟩), .int .i64 p.ep, .slice x.wA p.way.length x.wc, .slice A24 ((p.book.length + 1)) c25, .int .i64 0, .int .i64 c63, .int .i64 0, .slice ((some ⟨x.H, 0, none⟩)) p.heard.length p.heard.length] 54 (0, 0))) := Lib.hid ((hal.block P (ltb HPB_20.out)).trans HPB_20.out)
      have HS_21 : Hid (SAt w21 x.gs p.ep x.M (x.nn + 1) (if kk = true then kput f id ⟨v 16, 0, c63, 0⟩ else f)) := Lib.hid (HS_20.out.below hal)
      have HP10_21 : Hid (w21.heap[P10]? = some (.cells (mcv uu (.slice none 0 0)) 36 (0, 0))) := Lib.hid ((hal.block P10 (ltb HP10_20.out)).trans HP10_20.out)
      clear hal HC_20 HWAY_20 HHD_20 HB_20 HP4_20 HP8_20 HP9_20 HBOOK_20 HPB_20 HS_20 HP10_20
      have HP88_21 := Lib.hid hnew
      clear hnew
      rw [← hw30]
      clear hw30
      rw [← hP88]
      clear hP88
      have FP10' : w21.heap[P10]? = some (.cells (mcv uu (.slice none 0 0)) 36 (0, 0)) := HP10_21.out
      clear FP10
      have FP10 := FP10'
      clear FP10'
      have hHeld := True.intro
      refine wpAnyH_ready (rs := [7]) (by kernel_rfl) (by simp) ?_
      refine AllReadyH.cons (by (simp only [List.getElem?_toArray, List.getElem?_cons_succ, List.getElem?_cons_zero]; rfl)) (fun K hK => ?_) AllReadyH.nil
      refine step_append_row _ rfl (.tmp 86) (.tmp 88) _ rfl (x.H + 1) 36 i36 _ 21 184 Try.underlying52 HI36.out HZ36.out HY36.out HX36.out rfl (by omega) x.wA p.way.length x.wc (mgs p.way) rfl HWAY_21.out _ (some ⟨P88, 0, none⟩) 1 1 [.int .i64 (uu 0), .int .i64 (uu 1), .int .i64 (uu 2), .int .i64 (uu 3), .int .i64 (uu 4), .int .i64 (uu 5), .int .i64 (uu 6), .int .i64 (uu 7), .int .i64 (uu 8), .int .i64 (uu 9), .int .i64 (uu 10), .int .i64 (uu 11), .int .i64 (uu 12), .int .i64 (uu 13), .int .i64 (uu 14), .int .i64 (uu 15), .int .i64 (uu 16), .slice none 0 0, .int .i64 (uu 18), .int .i64 (uu 19), .int .i64 (uu 20)] rfl (cellsIn_blk HP88_21.out 21 1 rfl) (by simp [Value.oneCell']) (by unfold maxLen; omega) (by omega) (by have := ltb HHD_21.out; omega) ?_
      intro A31 c32 w22 hown hg hor
      have hch := Ch.ofOwn HWAY_21.out hg
      clear hg
      have HNWAY_P4' : Hid ((.slice A31 ((p.way.length + 1)) c32 : Value).ownBlock ≠ some P4) := Lib.hid (row_new2 HNWAY_P4.out hor (ltb HP4_21.out))
      have HNWAY_P8' : Hid ((.slice A31 ((p.way.length + 1)) c32 : Value).ownBlock ≠ some P8) := Lib.hid (row_new2 HNWAY_P8.out hor (ltb HP8_21.out))
      have HNWAY_P10' : Hid ((.slice A31 ((p.way.length + 1)) c32 : Value).ownBlock ≠ some P10) := Lib.hid (row_new2 HNWAY_P10.out hor (ltb HP10_21.out))
      have HNWAY_P88' : Hid ((.slice A31 ((p.way.length + 1)) c32 : Value).ownBlock ≠ some P88) := Lib.hid (row_new2 HNWAY_P88.out hor (ltb HP88_21.out))
      clear HNWAY_P88'
      have HC_22 : Hid (CAt w22 x.gc p.s x.cA x.cc) := Lib.hid (hch.cat HC_21.out (by decide) (by decide))
      have HHD_22 : Hid (w22.heap[x.H]? = some (.cells (ints p.heard).toArray 3 (0, 0))) := Lib.hid (hch.blk HHD_21.out (by show (3 + 1 : Nat) ≠ _; decide))
      have HB_22 : Hid (Chg (fun k => lo ≤ k) w0 w22) := Lib.hid (hch.low HB_21.out (fun k hk => by have := own_lowk HWAY_21.out k hk; omega))
      have HP4_22 : Hid (w22.heap[P4]? = some (.cells (mcv v (.slice B nb cb)) 36 (0, 0))) := Lib.hid (hch.blkN HP4_21.out HNWAY_P4.out)
      have HP8_22 : Hid (w22.heap[P8]? = some (.cells (mcv u (.slice none 0 0)) 36 (0, 0))) := Lib.hid (hch.blkN HP8_21.out HNWAY_P8.out)
      have HP9_22 : Hid (w22.heap[P9]? = some (.cells #[.int .i64 0, .int .i64 c63, .int .i64 0] 34 (0, 0))) := Lib.hid (hch.blk HP9_21.out (by show (34 + 1 : Nat) ≠ _; decide))
      have HBOOK_22 : Hid (w22.ownsRow (x.H + 1) 3 1 (.slice A24 ((p.book.length + 1)) c25) (p.book.length + 1) ((ints p.book) ++ [.int .i64 (v 16)])) := Lib.hid (hch.own HBOOK_21.out (by decide))
      have HPB_22 : Hid (w22.heap[P]? = some (.cells #[.int .i64 id, .pointer (some ⟨x.gc, 0, none⟩), .pointer (some ⟨x.gs, 0, none⟩), .int .i64 p.ep, .slice x.wA p.way.length x.wc, .slice A24 ((p.book.length + 1)) c25, .int .i64 0, .int .i64 c63, .int .i64 0, .slice ((some ⟨x.H, 0, none⟩)) p.heard.length p.heard.length] 54 (0, 0))) := Lib.hid (hch.blk HPB_21.out (by show (54 + 1 : Nat) ≠ _; decide))
      have HS_22 : Hid (SAt w22 x.gs p.ep x.M (x.nn + 1) (if kk = true then kput f id ⟨v 16, 0, c63, 0⟩ else f)) := Lib.hid (hch.sat HS_21.out (by decide) (by decide))
      have HP10_22 : Hid (w22.heap[P10]? = some (.cells (mcv uu (.slice none 0 0)) 36 (0, 0))) := Lib.hid (hch.blkN HP10_21.out HNWAY_P10.out)
      clear hch HC_21 HHD_21 HB_21 HP4_21 HP8_21 HP9_21 HBOOK_21 HPB_21 HS_21 HP10_21 HP88_21
      clear HNWAY_P4
      clear HNWAY_P8
      clear HNWAY_P10
      clear HNWAY_P88
      clear hor
      have HWAY_22 : Hid (w22.ownsRow (x.H + 1) 36 21 (.slice A31 ((p.way.length + 1)) c32) (p.way.length + 1) ((mgs p.way) ++ [.int .i64 (uu 0), .int .i64 (uu 1), .int .i64 (uu 2), .int .i64 (uu 3), .int .i64 (uu 4), .int .i64 (uu 5), .int .i64 (uu 6), .int .i64 (uu 7), .int .i64 (uu 8), .int .i64 (uu 9), .int .i64 (uu 10), .int .i64 (uu 11), .int .i64 (uu 12), .int .i64 (uu 13), .int .i64 (uu 14), .int .i64 (uu 15), .int .i64 (uu 16), .slice none 0 0, .int .i64 (uu 18), .int .i64 (uu 19), .int .i64 (uu 20)])) := Lib.hid hown
      clear hown HWAY_21
      have FP10' : w22.heap[P10]? = some (.cells (mcv uu (.slice none 0 0)) 36 (0, 0)) := HP10_22.out
      clear FP10
      have FP10 := FP10'
      clear FP10'
      refine hK.out _ _ ?_ (fun hHeld => ?_)
      · try dsimp only
        (refine ?_ <;> (first | with_reducible assumption))
      clear hK K
      try simp only [Act.put, List.setIfInBounds_toArray, List.set_cons_zero, List.set_cons_succ]
      refine wpAnyH_take (i := 8) (v := ?_) (by (simp only [List.getElem?_toArray, List.getElem?_cons_succ, List.getElem?_cons_zero]; rfl)) (by kernel_rfl) (by kernel_rfl) (by kernel_rfl) (fun _ _ _ h => h) (Or.inl ⟨by rfl, ?_⟩) (by assumption) ?_
      rotate_left
      · (intro w hSw; (try dsimp only at hSw); go_simp; try with_reducible rfl)
      try simp only [Act.put, List.setIfInBounds_toArray, List.set_cons_zero, List.set_cons_succ]
      refine wpAnyH_take (i := 9) (v := ?_) (by (simp only [List.getElem?_toArray, List.getElem?_cons_succ, List.getElem?_cons_zero]; rfl)) (by kernel_rfl) (by kernel_rfl) (by kernel_rfl) (fun _ _ _ h => h) (Or.inl ⟨by rfl, ?_⟩) (by assumption) ?_
      rotate_left
      · (intro w hSw; (try dsimp only at hSw); go_simp; try with_reducible rfl)
      try simp only [Act.put, List.setIfInBounds_toArray, List.set_cons_zero, List.set_cons_succ]
      refine wpAnyH_ready (rs := [10]) (by kernel_rfl) (by simp) ?_
      refine AllReadyH.cons (by (simp only [List.getElem?_toArray, List.getElem?_cons_succ, List.getElem?_cons_zero]; rfl)) (fun K hK => ?_) AllReadyH.nil
      have c0 : w22.cell? ⟨P, 4, none⟩ = some (.slice x.wA p.way.length x.wc) := cellb (i := 4) HPB_22.out rfl
      have f0 : w22.frozen? ⟨P, 4, none⟩ = false := fzb HPB_22.out 4
      go_simp
      clear c0 f0
      obtain ⟨w23, hw33⟩ : ∃ y, y = w22.setCell ⟨P, 4, none⟩ (.slice A31 ((p.way.length + 1)) c32) := ⟨_, rfl⟩
      have hch := Ch.ofCell (i := 4) HPB_22.out (.slice A31 ((p.way.length + 1)) c32)
      rw [← hw33] at hch
      have hnew : w23.heap[P]? = some (.cells #[.int .i64 id, .pointer (some ⟨x.gc, 0, none⟩), .pointer (some ⟨x.gs, 0, none⟩), .int .i64 p.ep, .slice A31 ((p.way.length + 1)) c32, .slice A24 ((p.book.length + 1)) c25, .int .i64 0, .int .i64 c63, .int .i64 0, .slice ((some ⟨x.H, 0, none⟩)) p.heard.length p.heard.length] 54 (0, 0)) := by rw [hw33]; exact set_blk HPB_22.out _
      have HC_23 : Hid (CAt w23 x.gc p.s x.cA x.cc) := Lib.hid (hch.cat HC_22.out (by decide) (by decide))
      have HHD_23 : Hid (w23.heap[x.H]? = some (.cells (ints p.heard).toArray 3 (0, 0))) := Lib.hid (hch.blk HHD_22.out (by show (3 + 1 : Nat) ≠ _; decide))
      have HB_23 : Hid (Chg (fun k => lo ≤ k) w0 w23) := Lib.hid (hch.low HB_22.out (fun k hk => by injection hk with hk; omega))
      have HP4_23 : Hid (w23.heap[P4]? = some (.cells (mcv v (.slice B nb cb)) 36 (0, 0))) := Lib.hid (hch.blk HP4_22.out (by show (36 + 1 : Nat) ≠ _; decide))
      have HP8_23 : Hid (w23.heap[P8]? = some (.cells (mcv u (.slice none 0 0)) 36 (0, 0))) := Lib.hid (hch.blk HP8_22.out (by show (36 + 1 : Nat) ≠ _; decide))
      have HP9_23 : Hid (w23.heap[P9]? = some (.cells #[.int .i64 0, .int .i64 c63, .int .i64 0] 34 (0, 0))) := Lib.hid (hch.blk HP9_22.out (by show (34 + 1 : Nat) ≠ _; decide))
      have HBOOK_23 : Hid (w23.ownsRow (x.H + 1) 3 1 (.slice A24 ((p.book.length + 1)) c25) (p.book.length + 1) ((ints p.book) ++ [.int .i64 (v 16)])) := Lib.hid (hch.own HBOOK_22.out (by decide))
      have HS_23 : Hid (SAt w23 x.gs p.ep x.M (x.nn + 1) (if kk = true then kput f id ⟨v 16, 0, c63, 0⟩ else f)) := Lib.hid (hch.sat HS_22.out (by decide) (by decide))
      have HP10_23 : Hid (w23.heap[P10]? = some (.cells (mcv uu (.slice none 0 0)) 36 (0, 0))) := Lib.hid (hch.blk HP10_22.out (by show (36 + 1 : Nat) ≠ _; decide))
      have HWAY_23 : Hid (w23.ownsRow (x.H + 1) 36 21 (.slice A31 ((p.way.length + 1)) c32) (p.way.length + 1) ((mgs p.way) ++ [.int .i64 (uu 0), .int .i64 (uu 1), .int .i64 (uu 2), .int .i64 (uu 3), .int .i64 (uu 4), .int .i64 (uu 5), .int .i64 (uu 6), .int .i64 (uu 7), .int .i64 (uu 8), .int .i64 (uu 9), .int .i64 (uu 10), .int .i64 (uu 11), .int .i64 (uu 12), .int .i64 (uu 13), .int .i64 (uu 14), .int .i64 (uu 15), .int .i64 (uu 16), .slice none 0 0, .int .i64 (uu 18), .int .i64 (uu 19), .int .i64 (uu 20)])) := Lib.hid (hch.own HWAY_22.out (by decide))
      clear hch HC_22 HHD_22 HB_22 HP4_22 HP8_22 HP9_22 HBOOK_22 HS_22 HP10_22 HWAY_22
      have HPB_23 := Lib.hid hnew
      clear hnew HPB_22
      rw [← hw33]
      clear hw33
      have FP10' : w23.heap[P10]? = some (.cells (mcv uu (.slice none 0 0)) 36 (0, 0)) := HP10_23.out
      clear FP10
      have FP10 := FP10'
      clear FP10'
      refine hK.out _ _ ?_ (fun hHeld => ?_)
      · try dsimp only
        (refine ?_ <;> (first | with_reducible assumption))
      clear hK K
      try simp only [Act.put]
      refine wpAnyH_done (by kernel_rfl) ?_ _
      refine NoPanic.normal ?_
      clear hHeld FP10
      go_wp2_with fail
      go_ret
      have hI := HI.out
      have e : (p.way ++ [(⟨uu, none, 0, 0⟩ : Mg)]).length = p.way.length + 1 := by simp
      have e2 : (p.book ++ [v 16]).length = p.book.length + 1 := by simp
      have hP : w23.heap[P]? = some (.cells #[.int .i64 id, .pointer (some ⟨x.gc, 0, none⟩), .pointer (some ⟨x.gs, 0, none⟩), .int .i64 p.ep, .slice A31 ((p.way ++ [(⟨uu, none, 0, 0⟩ : Mg)]).length) c32, .slice A24 ((p.book ++ [v 16]).length) c25, .int .i64 0, .int .i64 c63, .int .i64 0, .slice ((some ⟨x.H, 0, none⟩)) p.heard.length p.heard.length] 54 (0, 0)) := by rw [e, e2]; exact HPB_23.out
      have hR : w23.ownsRow (x.H + 1) 36 21 (.slice A31 (p.way ++ [(⟨uu, none, 0, 0⟩ : Mg)]).length c32) (p.way ++ [(⟨uu, none, 0, 0⟩ : Mg)]).length (mgs (p.way ++ [(⟨uu, none, 0, 0⟩ : Mg)])) := by rw [e, mgs_snoc]; exact HWAY_23.out
      have hK : w23.ownsRow (x.H + 1) 3 1 (.slice A24 (p.book ++ [v 16]).length c25) (p.book ++ [v 16]).length (ints (p.book ++ [v 16])) := by rw [e2, ints_snoc]; exact HBOOK_23.out
      have hD := hI.doneRep ⟨v, B, nb, cb⟩ HM.out HDO.out.1 HDO.out.2.1 HB2.out.1 HB2.out.2.1 true 0 c63 0 rfl kk uu HU.out p.way HSUB.out 0 rfl
      refine ⟨rfl, { x with wA := A31, wc := c32, bA := A24, bc := c25, t1 := c63, t2 := 0, nn := x.nn + 1 }, (if kk = true then kput f id ⟨v 16, 0, c63, 0⟩ else f), { p with way := p.way ++ [(⟨uu, none, 0, 0⟩ : Mg)], book := (p.book ++ [v 16]), told := 0, k := (if kk = true then ⟨v 16, 0, c63, 0⟩ else p.k) }, ⟨hP, HC_23.out, HS_23.out, hR, hK, HHD_23.out, ?_, l1, l2, l3, l4⟩, hD, fun h m hm => ?_, by show (p.way ++ [(⟨uu, none, 0, 0⟩ : Mg)]).length ≤ _; omega, by show (p.book ++ [v 16]).length ≤ _; omega, by simp, rfl, ⟨by show p.ep ≤ p.ep + 1; omega, hat, hbd⟩, HB_23.out⟩
      · cases kk
        · exact HKF.out
        · show (⟨v 16, 0, c63, 0⟩ : Kp) = kput f id ⟨v 16, 0, c63, 0⟩ id
          simp [kput]
      · rcases List.mem_append.1 hm with h2 | h2
        · exact h m h2
        · rw [List.mem_singleton.1 h2]; exact HWU.out
end Go.Proofs.Ytlcbpodjmafoeaa
