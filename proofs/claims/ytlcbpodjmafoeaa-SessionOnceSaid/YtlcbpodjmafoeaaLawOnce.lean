/- The law SessionOnce: the walk. -/
import Derived.Test.YtlcbpodjmafoeaaOnce6
import Derived.Test.YtlcbpodjmafoeaaMvs
import Derived.Laws.MakeOwn
import Derived.Deep.LoopGhost
namespace Go.Proofs.Ytlcbpodjmafoeaa
open Go.RowKit

theorem step_make_ints {P : Program} (w : World) {ops : Array Oper} {o : Oper} {a : Act} {K : Act → World → Prop} {Q : Exit → Act → World → Prop} {E : Prop}
    (hg : o.guard = none) (l c : Operand) (t : TypeId) (hop : o.op = Op.makeSlice t l c) (i : TypeInfo) (h1 : P.underlying t = some (.slice 3)) (h2 : P.info? 3 = some i) (h3 : i.zero = some (.int .i64 0)) (h4 : i.size = 1) (h5 : i.bytes = 8)
    (L : Int) (n : Nat) (hl : a.eval l = .int .i64 L) (hc : a.eval c = .int .i64 L) (hL : L = (n : Int)) (hm : n ≤ 1000000)
    (hK : K (a.put o.dst (.slice (some ⟨w.heap.size, 0, none⟩) n n)) (w.alloc (.cells (ints (List.replicate n 0)).toArray 3))) : if Region.wanted o (yielded ops a.tmps) = true then Oper.wp P o a w K Q else E := by
  have hw : Region.wanted o (yielded ops a.tmps) = true := by simp [Region.wanted, hg]
  rw [if_pos hw]
  subst hL
  have hr := run_make (P := P) w t 3 i _ h1 h2 h3 .i64 .i64 (n : Int) (n : Int) (by omega) (by omega) (by rw [h5]; omega) (by omega)
  have e1 : madeCells (Value.int .i64 0).cells ((n : Int).toNat * i.size) = (ints (List.replicate n 0)).toArray := by
    apply Array.ext'
    have : (Value.int .i64 0).cells = #[.int .i64 0] := rfl
    rw [this, toList_madeCells_one, h4]
    simp [ints]
  rw [e1] at hr
  simp only [Int.toNat_natCast] at hr
  unfold Oper.wp
  have e2 : (ints (List.replicate n 0)).toArray = Array.replicate n (.int .i64 0) := by simp [ints]
  rw [e2] at hK
  simp [execOp, hop, hl, hc, hr, Result.andThen]
  exact hK
theorem book_cells {w : World} {bs n c : Nat} {A : Option Addr} {l : List Int} (h : w.ownsRow bs 3 1 (.slice A n c) n (ints l)) : ∃ g, ∀ j y, l[j]? = some y → A = some ⟨g, 0, none⟩ ∧ w.cell? ⟨g, j, none⟩ = some (.int .i64 y) := by
  rcases h.2 with ⟨he, h0⟩ | ⟨g, cap, cur, he, _, hcur, _, _, _, htk⟩
  · refine ⟨0, fun j y hy => ?_⟩
    have hl := h.1
    have hj := (List.getElem?_eq_some_iff.1 hy).1
    simp [ints] at hl
    omega
  · injection he with e1 e2 e3
    refine ⟨g, fun j y hy => ⟨e1, cellb hcur ?_⟩⟩
    have h1 : (cur.toList.take (n * 1))[j]? = some (.int .i64 y) := by rw [htk]; simp [ints, hy]
    rw [List.getElem?_take] at h1
    split at h1
    · simpa using h1
    · cases h1
set_option maxRecDepth 100000 in
theorem once_out (id : Int) (A0 : Option Addr) (len cap : Nat) (w : World) (h : id < 1 ∨ 16 < id ∨ 120 < len) :
    Calls Try.prog 4 #[.int .i64 id, .slice A0 len cap] w fun e w' => e = .returned (.bool true) ∧ Below w.heap.size w w' := by
  have key : id < 1 ∨ (¬ id < 1 ∧ 16 < id) ∨ (¬ id < 1 ∧ ¬ 16 < id ∧ (120 : Int) < (len : Int)) := by omega
  clear h
  rcases key with h1 | ⟨h1, h2⟩ | ⟨h1, h2, h3⟩
  all_goals
    go_enter Try.func4, Try.ntmps4
    go_wp2_with fail
    refine (awake_any w).mono ?_
    rintro e w1 ⟨rfl, hb⟩
    have HB := Lib.hid hb
    clear hb
    go_wp2_with fail
    go_ret
    exact ⟨rfl, HB.out⟩
set_option maxRecDepth 100000 in
set_option maxHeartbeats 16000000 in
theorem once_in (id : Int) (A0 : Option Addr) (len cap : Nat) (gs : List Mv) (w : World) (i1 : 1 ≤ id) (i2 : id ≤ 16) (hlen : len = gs.length) (h120 : len ≤ 120) (hp : MvIn w w.heap.size A0 gs) :
    Calls Try.prog 4 #[.int .i64 id, .slice A0 len cap] w fun e w' => e = .returned (.bool true) ∧ Below w.heap.size w w' := by
  have g1 : ¬ id < 1 := by omega
  have g2 : ¬ 16 < id := by omega
  have g3 : ¬ (120 : Int) < (len : Int) := by omega
  have qw : IntKind.i64.wrap ((len : Int) + 2) = (len : Int) + 2 := IntWalk.i64_in _ (by omega)
  have HP0 := Lib.hid hp
  have HLEN := Lib.hid hlen
  obtain ⟨i3, hj, hk0, hk1, hk2⟩ := i3p
  have HI3 := Lib.hid hj
  have HZ3 := Lib.hid hk0
  have HY3 := Lib.hid hk1
  have HX3 := Lib.hid hk2
  clear hp hlen hj hk0 hk1 hk2
  go_enter Try.func4, Try.ntmps4
  go_wp2_with fail
  refine (awake_any w).mono ?_
  rintro e w1 ⟨rfl, hb⟩
  have HB_1 := Lib.hid hb
  clear hb
  go_upto_region 6 with (fail)
  go_cut [6] from 26 to 35 (fun s6 wc => ∃ (gc : Nat) (M : Nat) (H : Nat) (P35 : Nat), s6 = .pointer (some ⟨P35, 0, none⟩) ∧ w.heap.size ≤ gc ∧ w.heap.size ≤ M ∧ w.heap.size ≤ H ∧ w.heap.size ≤ P35 ∧ Hid (Below w.heap.size w wc) ∧ Hid (CAt wc gc ⟨id, 0, 0, false, false, 0, []⟩ none 0) ∧ Hid (SAt wc (M + 1) 1 M 0 (fun _ => ⟨0, 0, 0, 0⟩)) ∧ Hid (wc.heap[H]? = some (.cells (ints (List.replicate (len + 2) 0)).toArray 3 (0, 0))) ∧ Hid (wc.heap[P35]? = some (.cells #[.int .i64 id, .pointer (some ⟨gc, 0, none⟩), .pointer (some ⟨(M + 1), 0, none⟩), .int .i64 1, .slice none 0 0, .slice none 0 0, .int .i64 0, .int .i64 0, .int .i64 0, .slice ((some ⟨H, 0, none⟩)) ((len + 2)) ((len + 2))] 54 (0, 0))))
  case first =>
    have HB_2 : Hid (Below w.heap.size w w1.drew) := Lib.hid (HB_1.out.trans (((Below.refl w1.heap.size w1).drew).mono HB_1.out.size))
    clear HB_1
    refine wp_region_noPanic ?_
    refine wp_region_held_drew (S := fun w' => True) (by kernel_rfl) ?_ (fun hHeld => ?_)
    · trivial
    generalize w1.drew = w2 at *
    refine wpAnyH_take (i := 0) (v := ?_) (by (simp only [List.getElem?_toArray, List.getElem?_cons_zero]; rfl)) (by kernel_rfl) (by kernel_rfl) (by kernel_rfl) (fun _ _ _ h => h) (Or.inl ⟨by rfl, ?_⟩) (by assumption) ?_
    rotate_left
    · (intro w hSw; (try dsimp only at hSw); go_simp; try with_reducible rfl)
    try simp only [Act.put, List.setIfInBounds_toArray, List.set_cons_zero, List.set_cons_succ]
    refine wpAnyH_take (i := 1) (v := ?_) (by (simp only [List.getElem?_toArray, List.getElem?_cons_succ, List.getElem?_cons_zero]; rfl)) (by kernel_rfl) (by kernel_rfl) (by kernel_rfl) (fun _ _ _ h => h) (Or.inl ⟨by rfl, ?_⟩) (by assumption) ?_
    rotate_left
    · (intro w hSw; (try dsimp only at hSw); go_simp; try with_reducible rfl)
    try simp only [Act.put, List.setIfInBounds_toArray, List.set_cons_zero, List.set_cons_succ]
    refine wpAnyH_take (i := 4) (v := ?_) (by (simp only [List.getElem?_toArray, List.getElem?_cons_succ, List.getElem?_cons_zero]; rfl)) (by kernel_rfl) (by kernel_rfl) (by kernel_rfl) (fun _ _ _ h => h) (Or.inl ⟨by rfl, ?_⟩) (by assumption) ?_
    rotate_left
    · (intro w hSw; (try dsimp only at hSw); go_simp; try with_reducible rfl)
    try simp only [Act.put, List.setIfInBounds_toArray, List.set_cons_zero, List.set_cons_succ]
    refine wpAnyH_take (i := 5) (v := ?_) (by (simp only [List.getElem?_toArray, List.getElem?_cons_succ, List.getElem?_cons_zero]; rfl)) (by kernel_rfl) (by kernel_rfl) (by kernel_rfl) (fun _ _ _ h => h) (Or.inl ⟨by rfl, ?_⟩) (by assumption) ?_
    rotate_left
    · (intro w hSw; (try dsimp only at hSw); go_simp; try with_reducible rfl)
    try simp only [Act.put, List.setIfInBounds_toArray, List.set_cons_zero, List.set_cons_succ]
    refine wpAnyH_take (i := 6) (v := ?_) (by (simp only [List.getElem?_toArray, List.getElem?_cons_succ, List.getElem?_cons_zero]; rfl)) (by kernel_rfl) (by kernel_rfl) (by kernel_rfl) (fun _ _ _ h => h) (Or.inl ⟨by rfl, ?_⟩) (by assumption) ?_
    rotate_left
    · (intro w hSw; (try dsimp only at hSw); go_simp; try with_reducible rfl)
    try simp only [Act.put, List.setIfInBounds_toArray, List.set_cons_zero, List.set_cons_succ]
    refine wpAnyH_ready (rs := [2, 7]) (by kernel_rfl) (by simp) ?_
    refine AllReadyH.cons (by (simp only [List.getElem?_toArray, List.getElem?_cons_succ, List.getElem?_cons_zero]; rfl)) (fun K hK => ?_) (AllReadyH.cons (by (simp only [List.getElem?_toArray, List.getElem?_cons_succ, List.getElem?_cons_zero]; rfl)) (fun K hK => ?_) AllReadyH.nil)
    · skip
      go_simp
      obtain ⟨gc, hgc⟩ : ∃ y, y = w2.heap.size := ⟨_, rfl⟩
      have hns := newc_any id w2 i1 i2
      rw [← hgc] at hns
      have log : w.heap.size ≤ gc := by have := HB_2.out.size; omega
      refine hns.mono ?_
      clear hns
      rintro e w3 ⟨rfl, hc, hb⟩
      rw [hgc] at hb
      clear hgc
      have HB_3 : Hid (Below w.heap.size w w3) := Lib.hid (HB_2.out.trans (hb.mono HB_2.out.size))
      clear hb HB_2
      have HC_3 : Hid (CAt w3 gc ⟨id, 0, 0, false, false, 0, []⟩ none 0) := Lib.hid hc
      clear hc
      refine hK.out _ _ ?_ (fun hHeld => ?_)
      · trivial
      clear hK K
      try simp only [Act.put, List.setIfInBounds_toArray, List.set_cons_zero, List.set_cons_succ]
      refine wpAnyH_ready (rs := [3, 7]) (by kernel_rfl) (by simp) ?_
      refine AllReadyH.cons (by (simp only [List.getElem?_toArray, List.getElem?_cons_succ, List.getElem?_cons_zero]; rfl)) (fun K hK => ?_) (AllReadyH.cons (by (simp only [List.getElem?_toArray, List.getElem?_cons_succ, List.getElem?_cons_zero]; rfl)) (fun K hK => ?_) AllReadyH.nil)
      · skip
        go_simp
        obtain ⟨M, hM⟩ : ∃ y, y = w3.heap.size := ⟨_, rfl⟩
        have hns := news_any 1 w3 (by omega) (by omega)
        rw [← hM] at hns
        have loM : w.heap.size ≤ M := by have := HB_3.out.size; omega
        refine hns.mono ?_
        clear hns
        rintro e w4 ⟨rfl, hs, hb⟩
        rw [hM] at hb
        clear hM
        have HB_4 : Hid (Below w.heap.size w w4) := Lib.hid (HB_3.out.trans (hb.mono HB_3.out.size))
        have HC_4 : Hid (CAt w4 gc ⟨id, 0, 0, false, false, 0, []⟩ none 0) := Lib.hid (HC_3.out.below hb)
        clear hb HB_3 HC_3
        have HS_4 : Hid (SAt w4 (M + 1) 1 M 0 (fun _ => ⟨0, 0, 0, 0⟩)) := Lib.hid hs
        clear hs
        refine hK.out _ _ ?_ (fun hHeld => ?_)
        · trivial
        clear hK K
        try simp only [Act.put, List.setIfInBounds_toArray, List.set_cons_zero, List.set_cons_succ]
        refine wpAnyH_ready (rs := [7]) (by kernel_rfl) (by simp) ?_
        refine AllReadyH.cons (by (simp only [List.getElem?_toArray, List.getElem?_cons_succ, List.getElem?_cons_zero]; rfl)) (fun K hK => ?_) AllReadyH.nil
        refine step_make_ints _ rfl (.tmp 32) (.tmp 32) _ rfl i3 Try.underlying51 HI3.out HZ3.out HY3.out HX3.out ((len : Int) + 2) (len + 2) rfl rfl (by omega) (by omega) ?_
        obtain ⟨H, hH⟩ : ∃ x, x = w4.heap.size := ⟨_, rfl⟩
        have loH : w.heap.size ≤ H := by have := HB_4.out.size; omega
        have hal : Below w4.heap.size w4 (w4.alloc (.cells (ints (List.replicate (len + 2) 0)).toArray 3)) := (Below.refl _ _).alloc (Nat.le_refl _) _
        have hnew : (w4.alloc (.cells (ints (List.replicate (len + 2) 0)).toArray 3)).heap[H]? = some (.cells (ints (List.replicate (len + 2) 0)).toArray 3 (0, 0)) := by rw [hH]; exact heap_alloc_new _ _
        have HB_5 : Hid (Below w.heap.size w (w4.alloc (.cells (ints (List.replicate (len + 2) 0)).toArray 3))) := Lib.hid (HB_4.out.trans (hal.mono HB_4.out.size))
        have HC_5 : Hid (CAt (w4.alloc (.cells (ints (List.replicate (len + 2) 0)).toArray 3)) gc ⟨id, 0, 0, false, false, 0, []⟩ none 0) := Lib.hid (HC_4.out.below hal)
        have HS_5 : Hid (SAt (w4.alloc (.cells (ints (List.replicate (len + 2) 0)).toArray 3)) (M + 1) 1 M 0 (fun _ => ⟨0, 0, 0, 0⟩)) := Lib.hid (HS_4.out.below hal)
        clear hal HB_4 HC_4 HS_4
        have HHD_5 : Hid ((w4.alloc (.cells (ints (List.replicate (len + 2) 0)).toArray 3)).heap[H]? = some (.cells (ints (List.replicate (len + 2) 0)).toArray 3 (0, 0))) := Lib.hid hnew
        clear hnew
        rw [← hH]
        clear hH
        generalize w4.alloc (.cells (ints (List.replicate (len + 2) 0)).toArray 3) = w5 at HB_5 HC_5 HS_5 HHD_5 ⊢
        refine hK.out _ _ ?_ (fun hHeld => ?_)
        · trivial
        clear hK K
        try simp only [Act.put, List.setIfInBounds_toArray, List.set_cons_zero, List.set_cons_succ]
        refine wpAnyH_take (i := 8) (v := ?_) (by (simp only [List.getElem?_toArray, List.getElem?_cons_succ, List.getElem?_cons_zero]; rfl)) (by kernel_rfl) (by kernel_rfl) (by kernel_rfl) (fun _ _ _ h => h) (Or.inl ⟨by rfl, ?_⟩) (by assumption) ?_
        rotate_left
        · (intro w hSw; (try dsimp only at hSw); go_simp; try with_reducible rfl)
        try simp only [Act.put, List.setIfInBounds_toArray, List.set_cons_zero, List.set_cons_succ]
        refine wpAnyH_ready (rs := [9]) (by kernel_rfl) (by simp) ?_
        refine AllReadyH.cons (by (simp only [List.getElem?_toArray, List.getElem?_cons_succ, List.getElem?_cons_zero]; rfl)) (fun K hK => ?_) AllReadyH.nil
        go_simp
        obtain ⟨P35, hP35⟩ : ∃ x, x = w5.heap.size := ⟨_, rfl⟩
        have loP35 : w.heap.size ≤ P35 := (by have := HB_5.out.size; omega)
        obtain ⟨w6, hw1⟩ : ∃ y, y = w5.alloc (.cells #[.int .i64 id, .pointer (some ⟨gc, 0, none⟩), .pointer (some ⟨(M + 1), 0, none⟩), .int .i64 1, .slice none 0 0, .slice none 0 0, .int .i64 0, .int .i64 0, .int .i64 0, .slice ((some ⟨H, 0, none⟩)) ((len + 2)) ((len + 2))] 54) := ⟨_, rfl⟩
        have hal : Below w5.heap.size w5 w6 := by rw [hw1]; exact (Below.refl _ _).alloc (Nat.le_refl _) _
        have hnew : w6.heap[P35]? = some (.cells #[.int .i64 id, .pointer (some ⟨gc, 0, none⟩), .pointer (some ⟨(M + 1), 0, none⟩), .int .i64 1, .slice none 0 0, .slice none 0 0, .int .i64 0, .int .i64 0, .int .i64 0, .slice ((some ⟨H, 0, none⟩)) ((len + 2)) ((len + 2))] 54 (0, 0)) := by rw [hw1, hP35]; exact heap_alloc_new _ _
        have HB_6 : Hid (Below w.heap.size w w6) := Lib.hid (HB_5.out.trans (hal.mono HB_5.out.size))
        have HC_6 : Hid (CAt w6 gc ⟨id, 0, 0, false, false, 0, []⟩ none 0) := Lib.hid (HC_5.out.below hal)
        have HS_6 : Hid (SAt w6 (M + 1) 1 M 0 (fun _ => ⟨0, 0, 0, 0⟩)) := Lib.hid (HS_5.out.below hal)
        have HHD_6 : Hid (w6.heap[H]? = some (.cells (ints (List.replicate (len + 2) 0)).toArray 3 (0, 0))) := Lib.hid ((hal.block H (ltb HHD_5.out)).trans HHD_5.out)
        clear hal HB_5 HC_5 HS_5 HHD_5
        have HP35_6 := Lib.hid hnew
        clear hnew
        rw [← hw1]
        clear hw1
        rw [← hP35]
        clear hP35
        refine hK.out _ _ ?_ (fun hHeld => ?_)
        · trivial
        clear hK K
        try simp only [Act.put, List.setIfInBounds_toArray, List.set_cons_zero, List.set_cons_succ]
        refine wpAnyH_take (i := 10) (v := ?_) (by (simp only [List.getElem?_toArray, List.getElem?_cons_succ, List.getElem?_cons_zero]; rfl)) (by kernel_rfl) (by kernel_rfl) (by kernel_rfl) (fun _ _ _ h => h) (Or.inl ⟨by rfl, ?_⟩) (by assumption) ?_
        rotate_left
        · (intro w hSw; (try dsimp only at hSw); go_simp; try with_reducible rfl)
        try simp only [Act.put, List.setIfInBounds_toArray, List.set_cons_zero, List.set_cons_succ]
        refine wpAnyH_done (by kernel_rfl) ?_ _
        refine NoPanic.normal ?_
        clear hHeld 
        go_wp2_with fail
        go_meet
        case rel => exact ⟨gc, M, H, P35, rfl, log, loM, loH, loP35, HB_6, HC_6, HS_6, HHD_6, HP35_6⟩
      · skip
        refine step_make_ints _ rfl (.tmp 32) (.tmp 32) _ rfl i3 Try.underlying51 HI3.out HZ3.out HY3.out HX3.out ((len : Int) + 2) (len + 2) rfl rfl (by omega) (by omega) ?_
        obtain ⟨H, hH⟩ : ∃ x, x = w3.heap.size := ⟨_, rfl⟩
        have loH : w.heap.size ≤ H := by have := HB_3.out.size; omega
        have hal : Below w3.heap.size w3 (w3.alloc (.cells (ints (List.replicate (len + 2) 0)).toArray 3)) := (Below.refl _ _).alloc (Nat.le_refl _) _
        have hnew : (w3.alloc (.cells (ints (List.replicate (len + 2) 0)).toArray 3)).heap[H]? = some (.cells (ints (List.replicate (len + 2) 0)).toArray 3 (0, 0)) := by rw [hH]; exact heap_alloc_new _ _
        have HB_4 : Hid (Below w.heap.size w (w3.alloc (.cells (ints (List.replicate (len + 2) 0)).toArray 3))) := Lib.hid (HB_3.out.trans (hal.mono HB_3.out.size))
        have HC_4 : Hid (CAt (w3.alloc (.cells (ints (List.replicate (len + 2) 0)).toArray 3)) gc ⟨id, 0, 0, false, false, 0, []⟩ none 0) := Lib.hid (HC_3.out.below hal)
        clear hal HB_3 HC_3
        have HHD_4 : Hid ((w3.alloc (.cells (ints (List.replicate (len + 2) 0)).toArray 3)).heap[H]? = some (.cells (ints (List.replicate (len + 2) 0)).toArray 3 (0, 0))) := Lib.hid hnew
        clear hnew
        rw [← hH]
        clear hH
        generalize w3.alloc (.cells (ints (List.replicate (len + 2) 0)).toArray 3) = w4 at HB_4 HC_4 HHD_4 ⊢
        refine hK.out _ _ ?_ (fun hHeld => ?_)
        · trivial
        clear hK K
        try simp only [Act.put, List.setIfInBounds_toArray, List.set_cons_zero, List.set_cons_succ]
        refine wpAnyH_ready (rs := [3]) (by kernel_rfl) (by simp) ?_
        refine AllReadyH.cons (by (simp only [List.getElem?_toArray, List.getElem?_cons_succ, List.getElem?_cons_zero]; rfl)) (fun K hK => ?_) AllReadyH.nil
        go_simp
        obtain ⟨M, hM⟩ : ∃ y, y = w4.heap.size := ⟨_, rfl⟩
        have hns := news_any 1 w4 (by omega) (by omega)
        rw [← hM] at hns
        have loM : w.heap.size ≤ M := by have := HB_4.out.size; omega
        refine hns.mono ?_
        clear hns
        rintro e w5 ⟨rfl, hs, hb⟩
        rw [hM] at hb
        clear hM
        have HB_5 : Hid (Below w.heap.size w w5) := Lib.hid (HB_4.out.trans (hb.mono HB_4.out.size))
        have HC_5 : Hid (CAt w5 gc ⟨id, 0, 0, false, false, 0, []⟩ none 0) := Lib.hid (HC_4.out.below hb)
        have HHD_5 : Hid (w5.heap[H]? = some (.cells (ints (List.replicate (len + 2) 0)).toArray 3 (0, 0))) := Lib.hid ((hb.block H (ltb HHD_4.out)).trans HHD_4.out)
        clear hb HB_4 HC_4 HHD_4
        have HS_5 : Hid (SAt w5 (M + 1) 1 M 0 (fun _ => ⟨0, 0, 0, 0⟩)) := Lib.hid hs
        clear hs
        refine hK.out _ _ ?_ (fun hHeld => ?_)
        · trivial
        clear hK K
        try simp only [Act.put, List.setIfInBounds_toArray, List.set_cons_zero, List.set_cons_succ]
        refine wpAnyH_take (i := 8) (v := ?_) (by (simp only [List.getElem?_toArray, List.getElem?_cons_succ, List.getElem?_cons_zero]; rfl)) (by kernel_rfl) (by kernel_rfl) (by kernel_rfl) (fun _ _ _ h => h) (Or.inl ⟨by rfl, ?_⟩) (by assumption) ?_
        rotate_left
        · (intro w hSw; (try dsimp only at hSw); go_simp; try with_reducible rfl)
        try simp only [Act.put, List.setIfInBounds_toArray, List.set_cons_zero, List.set_cons_succ]
        refine wpAnyH_ready (rs := [9]) (by kernel_rfl) (by simp) ?_
        refine AllReadyH.cons (by (simp only [List.getElem?_toArray, List.getElem?_cons_succ, List.getElem?_cons_zero]; rfl)) (fun K hK => ?_) AllReadyH.nil
        go_simp
        obtain ⟨P35, hP35⟩ : ∃ x, x = w5.heap.size := ⟨_, rfl⟩
        have loP35 : w.heap.size ≤ P35 := (by have := HB_5.out.size; omega)
        obtain ⟨w6, hw2⟩ : ∃ y, y = w5.alloc (.cells #[.int .i64 id, .pointer (some ⟨gc, 0, none⟩), .pointer (some ⟨(M + 1), 0, none⟩), .int .i64 1, .slice none 0 0, .slice none 0 0, .int .i64 0, .int .i64 0, .int .i64 0, .slice ((some ⟨H, 0, none⟩)) ((len + 2)) ((len + 2))] 54) := ⟨_, rfl⟩
        have hal : Below w5.heap.size w5 w6 := by rw [hw2]; exact (Below.refl _ _).alloc (Nat.le_refl _) _
        have hnew : w6.heap[P35]? = some (.cells #[.int .i64 id, .pointer (some ⟨gc, 0, none⟩), .pointer (some ⟨(M + 1), 0, none⟩), .int .i64 1, .slice none 0 0, .slice none 0 0, .int .i64 0, .int .i64 0, .int .i64 0, .slice ((some ⟨H, 0, none⟩)) ((len + 2)) ((len + 2))] 54 (0, 0)) := by rw [hw2, hP35]; exact heap_alloc_new _ _
        have HB_6 : Hid (Below w.heap.size w w6) := Lib.hid (HB_5.out.trans (hal.mono HB_5.out.size))
        have HC_6 : Hid (CAt w6 gc ⟨id, 0, 0, false, false, 0, []⟩ none 0) := Lib.hid (HC_5.out.below hal)
        have HHD_6 : Hid (w6.heap[H]? = some (.cells (ints (List.replicate (len + 2) 0)).toArray 3 (0, 0))) := Lib.hid ((hal.block H (ltb HHD_5.out)).trans HHD_5.out)
        have HS_6 : Hid (SAt w6 (M + 1) 1 M 0 (fun _ => ⟨0, 0, 0, 0⟩)) := Lib.hid (HS_5.out.below hal)
        clear hal HB_5 HC_5 HHD_5 HS_5
        have HP35_6 := Lib.hid hnew
        clear hnew
        rw [← hw2]
        clear hw2
        rw [← hP35]
        clear hP35
        refine hK.out _ _ ?_ (fun hHeld => ?_)
        · trivial
        clear hK K
        try simp only [Act.put, List.setIfInBounds_toArray, List.set_cons_zero, List.set_cons_succ]
        refine wpAnyH_take (i := 10) (v := ?_) (by (simp only [List.getElem?_toArray, List.getElem?_cons_succ, List.getElem?_cons_zero]; rfl)) (by kernel_rfl) (by kernel_rfl) (by kernel_rfl) (fun _ _ _ h => h) (Or.inl ⟨by rfl, ?_⟩) (by assumption) ?_
        rotate_left
        · (intro w hSw; (try dsimp only at hSw); go_simp; try with_reducible rfl)
        try simp only [Act.put, List.setIfInBounds_toArray, List.set_cons_zero, List.set_cons_succ]
        refine wpAnyH_done (by kernel_rfl) ?_ _
        refine NoPanic.normal ?_
        clear hHeld 
        go_wp2_with fail
        go_meet
        case rel => exact ⟨gc, M, H, P35, rfl, log, loM, loH, loP35, HB_6, HC_6, HS_6, HHD_6, HP35_6⟩
    · skip
      refine step_make_ints _ rfl (.tmp 32) (.tmp 32) _ rfl i3 Try.underlying51 HI3.out HZ3.out HY3.out HX3.out ((len : Int) + 2) (len + 2) rfl rfl (by omega) (by omega) ?_
      obtain ⟨H, hH⟩ : ∃ x, x = w2.heap.size := ⟨_, rfl⟩
      have loH : w.heap.size ≤ H := by have := HB_2.out.size; omega
      have hal : Below w2.heap.size w2 (w2.alloc (.cells (ints (List.replicate (len + 2) 0)).toArray 3)) := (Below.refl _ _).alloc (Nat.le_refl _) _
      have hnew : (w2.alloc (.cells (ints (List.replicate (len + 2) 0)).toArray 3)).heap[H]? = some (.cells (ints (List.replicate (len + 2) 0)).toArray 3 (0, 0)) := by rw [hH]; exact heap_alloc_new _ _
      have HB_3 : Hid (Below w.heap.size w (w2.alloc (.cells (ints (List.replicate (len + 2) 0)).toArray 3))) := Lib.hid (HB_2.out.trans (hal.mono HB_2.out.size))
      clear hal HB_2
      have HHD_3 : Hid ((w2.alloc (.cells (ints (List.replicate (len + 2) 0)).toArray 3)).heap[H]? = some (.cells (ints (List.replicate (len + 2) 0)).toArray 3 (0, 0))) := Lib.hid hnew
      clear hnew
      rw [← hH]
      clear hH
      generalize w2.alloc (.cells (ints (List.replicate (len + 2) 0)).toArray 3) = w3 at HB_3 HHD_3 ⊢
      refine hK.out _ _ ?_ (fun hHeld => ?_)
      · trivial
      clear hK K
      try simp only [Act.put, List.setIfInBounds_toArray, List.set_cons_zero, List.set_cons_succ]
      refine wpAnyH_ready (rs := [2]) (by kernel_rfl) (by simp) ?_
      refine AllReadyH.cons (by (simp only [List.getElem?_toArray, List.getElem?_cons_succ, List.getElem?_cons_zero]; rfl)) (fun K hK => ?_) AllReadyH.nil
      go_simp
      obtain ⟨gc, hgc⟩ : ∃ y, y = w3.heap.size := ⟨_, rfl⟩
      have hns := newc_any id w3 i1 i2
      rw [← hgc] at hns
      have log : w.heap.size ≤ gc := by have := HB_3.out.size; omega
      refine hns.mono ?_
      clear hns
      rintro e w4 ⟨rfl, hc, hb⟩
      rw [hgc] at hb
      clear hgc
      have HB_4 : Hid (Below w.heap.size w w4) := Lib.hid (HB_3.out.trans (hb.mono HB_3.out.size))
      have HHD_4 : Hid (w4.heap[H]? = some (.cells (ints (List.replicate (len + 2) 0)).toArray 3 (0, 0))) := Lib.hid ((hb.block H (ltb HHD_3.out)).trans HHD_3.out)
      clear hb HB_3 HHD_3
      have HC_4 : Hid (CAt w4 gc ⟨id, 0, 0, false, false, 0, []⟩ none 0) := Lib.hid hc
      clear hc
      refine hK.out _ _ ?_ (fun hHeld => ?_)
      · trivial
      clear hK K
      try simp only [Act.put, List.setIfInBounds_toArray, List.set_cons_zero, List.set_cons_succ]
      refine wpAnyH_ready (rs := [3]) (by kernel_rfl) (by simp) ?_
      refine AllReadyH.cons (by (simp only [List.getElem?_toArray, List.getElem?_cons_succ, List.getElem?_cons_zero]; rfl)) (fun K hK => ?_) AllReadyH.nil
      go_simp
      obtain ⟨M, hM⟩ : ∃ y, y = w4.heap.size := ⟨_, rfl⟩
      have hns := news_any 1 w4 (by omega) (by omega)
      rw [← hM] at hns
      have loM : w.heap.size ≤ M := by have := HB_4.out.size; omega
      refine hns.mono ?_
      clear hns
      rintro e w5 ⟨rfl, hs, hb⟩
      rw [hM] at hb
      clear hM
      have HB_5 : Hid (Below w.heap.size w w5) := Lib.hid (HB_4.out.trans (hb.mono HB_4.out.size))
      have HHD_5 : Hid (w5.heap[H]? = some (.cells (ints (List.replicate (len + 2) 0)).toArray 3 (0, 0))) := Lib.hid ((hb.block H (ltb HHD_4.out)).trans HHD_4.out)
      have HC_5 : Hid (CAt w5 gc ⟨id, 0, 0, false, false, 0, []⟩ none 0) := Lib.hid (HC_4.out.below hb)
      clear hb HB_4 HHD_4 HC_4
      have HS_5 : Hid (SAt w5 (M + 1) 1 M 0 (fun _ => ⟨0, 0, 0, 0⟩)) := Lib.hid hs
      clear hs
      refine hK.out _ _ ?_ (fun hHeld => ?_)
      · trivial
      clear hK K
      try simp only [Act.put, List.setIfInBounds_toArray, List.set_cons_zero, List.set_cons_succ]
      refine wpAnyH_take (i := 8) (v := ?_) (by (simp only [List.getElem?_toArray, List.getElem?_cons_succ, List.getElem?_cons_zero]; rfl)) (by kernel_rfl) (by kernel_rfl) (by kernel_rfl) (fun _ _ _ h => h) (Or.inl ⟨by rfl, ?_⟩) (by assumption) ?_
      rotate_left
      · (intro w hSw; (try dsimp only at hSw); go_simp; try with_reducible rfl)
      try simp only [Act.put, List.setIfInBounds_toArray, List.set_cons_zero, List.set_cons_succ]
      refine wpAnyH_ready (rs := [9]) (by kernel_rfl) (by simp) ?_
      refine AllReadyH.cons (by (simp only [List.getElem?_toArray, List.getElem?_cons_succ, List.getElem?_cons_zero]; rfl)) (fun K hK => ?_) AllReadyH.nil
      go_simp
      obtain ⟨P35, hP35⟩ : ∃ x, x = w5.heap.size := ⟨_, rfl⟩
      have loP35 : w.heap.size ≤ P35 := (by have := HB_5.out.size; omega)
      obtain ⟨w6, hw3⟩ : ∃ y, y = w5.alloc (.cells #[.int .i64 id, .pointer (some ⟨gc, 0, none⟩), .pointer (some ⟨(M + 1), 0, none⟩), .int .i64 1, .slice none 0 0, .slice none 0 0, .int .i64 0, .int .i64 0, .int .i64 0, .slice ((some ⟨H, 0, none⟩)) ((len + 2)) ((len + 2))] 54) := ⟨_, rfl⟩
      have hal : Below w5.heap.size w5 w6 := by rw [hw3]; exact (Below.refl _ _).alloc (Nat.le_refl _) _
      have hnew : w6.heap[P35]? = some (.cells #[.int .i64 id, .pointer (some ⟨gc, 0, none⟩), .pointer (some ⟨(M + 1), 0, none⟩), .int .i64 1, .slice none 0 0, .slice none 0 0, .int .i64 0, .int .i64 0, .int .i64 0, .slice ((some ⟨H, 0, none⟩)) ((len + 2)) ((len + 2))] 54 (0, 0)) := by rw [hw3, hP35]; exact heap_alloc_new _ _
      have HB_6 : Hid (Below w.heap.size w w6) := Lib.hid (HB_5.out.trans (hal.mono HB_5.out.size))
      have HHD_6 : Hid (w6.heap[H]? = some (.cells (ints (List.replicate (len + 2) 0)).toArray 3 (0, 0))) := Lib.hid ((hal.block H (ltb HHD_5.out)).trans HHD_5.out)
      have HC_6 : Hid (CAt w6 gc ⟨id, 0, 0, false, false, 0, []⟩ none 0) := Lib.hid (HC_5.out.below hal)
      have HS_6 : Hid (SAt w6 (M + 1) 1 M 0 (fun _ => ⟨0, 0, 0, 0⟩)) := Lib.hid (HS_5.out.below hal)
      clear hal HB_5 HHD_5 HC_5 HS_5
      have HP35_6 := Lib.hid hnew
      clear hnew
      rw [← hw3]
      clear hw3
      rw [← hP35]
      clear hP35
      refine hK.out _ _ ?_ (fun hHeld => ?_)
      · trivial
      clear hK K
      try simp only [Act.put, List.setIfInBounds_toArray, List.set_cons_zero, List.set_cons_succ]
      refine wpAnyH_take (i := 10) (v := ?_) (by (simp only [List.getElem?_toArray, List.getElem?_cons_succ, List.getElem?_cons_zero]; rfl)) (by kernel_rfl) (by kernel_rfl) (by kernel_rfl) (fun _ _ _ h => h) (Or.inl ⟨by rfl, ?_⟩) (by assumption) ?_
      rotate_left
      · (intro w hSw; (try dsimp only at hSw); go_simp; try with_reducible rfl)
      try simp only [Act.put, List.setIfInBounds_toArray, List.set_cons_zero, List.set_cons_succ]
      refine wpAnyH_done (by kernel_rfl) ?_ _
      refine NoPanic.normal ?_
      clear hHeld 
      go_wp2_with fail
      go_meet
      case rel => exact ⟨gc, M, H, P35, rfl, log, loM, loH, loP35, HB_6, HC_6, HS_6, HHD_6, HP35_6⟩
  case rest =>
  obtain ⟨w6, rfl⟩ : ∃ y : World, y = wc := ⟨_, rfl⟩
  obtain ⟨gc, M, H, P35, rfl, log, loM, loH, loP35, HB_6, HC_6, HS_6, HHD_6, HP35_6⟩ := hcut
  have HPA : Hid (PAt w.heap.size id w6 P35 ⟨gc, M + 1, H, M, 0, none, 0, none, 0, none, 0, 0, 0⟩ (fun _ => ⟨0, 0, 0, 0⟩) ⟨⟨id, 0, 0, false, false, 0, []⟩, 1, ⟨0, 0, 0, 0⟩, [], [], 0, List.replicate (len + 2) 0⟩) := Lib.hid ⟨by simp only [List.length_replicate]; exact HP35_6.out, HC_6.out, HS_6.out, World.ownsRow_nil _ _ _ _, World.ownsRow_nil _ _ _ _, HHD_6.out, rfl, log, loP35, loH, loM⟩
  have HI0 : Hid (Inv id ⟨⟨id, 0, 0, false, false, 0, []⟩, 1, ⟨0, 0, 0, 0⟩, [], [], 0, List.replicate (len + 2) 0⟩) := Lib.hid (Inv.start id (len + 2))
  clear HP35_6 HC_6 HS_6 HHD_6
  go_wp2_with fail
  go_loopg [7] len (fun gk s7 wr => ∃ (i : Nat) (x : Px) (f : Int → Kp) (p : Pst), i ≤ len ∧ gk = len - i ∧ s7 = .int .i64 i ∧ p.way.length ≤ i ∧ p.book.length ≤ i ∧ x.nn ≤ i ∧ p.ep ≤ (i : Int) + 1 ∧ p.heard.length = len + 2 ∧ p.s.at_ < 1099511627776 ∧ p.s.body.length ≤ 5000 ∧ Hid (PAt w.heap.size id wr P35 x f p) ∧ Hid (Inv id p) ∧ Hid (WfM p.way) ∧ Hid (Below w.heap.size w wr))
  case atStart => exact ⟨0, _, _, _, Nat.zero_le _, rfl, rfl, Nat.le_refl _, Nat.le_refl _, Nat.le_refl _, Int.le_refl _, by simp, by simp, by simp, HPA, HI0, Lib.hid (fun m hm => by cases hm), HB_6⟩
  case round =>
    clear HPA HI0 HB_6
    obtain ⟨w7, rfl⟩ : ∃ y : World, y = wr := ⟨_, rfl⟩
    obtain ⟨i, x, f, p, hi, rfl, rfl, n1, n2, n3, n4, n5, n6, n7, HPA, HI, HW, HB⟩ := hrel
    by_cases hil : i < len
    · have q1 : (i : Int) < (len : Int) := by omega
      have q0 : (0 : Int) ≤ (i : Int) := by omega
      have qm : IntKind.i64.wrap (10 * (i : Int)) = 10 * (i : Int) := IntWalk.i64_in _ (by omega)
      obtain ⟨b0, off, s, rfl, hrg⟩ : ∃ b0 off s, A0 = some ⟨b0, off, none⟩ ∧ w7.rangeAt b0 (off + i * 3) (mvc s) := by
        have hig : i < gs.length := by rw [← HLEN.out]; exact hil
        rcases HP0.out.below HB.out (Nat.le_refl _) with e | ⟨b, off, e, hb, hr⟩
        · rw [e] at hig; simp at hig
        · exact ⟨b, off, gs[i], e, hr i _ (List.getElem?_eq_getElem hig)⟩
      have HRG : Hid (w7.rangeAt b0 (off + i * 3) [.int .i64 s.kd, .int .i64 s.pick, .bool s.well]) := Lib.hid hrg
      clear hrg
      go_wp2_with (refine wpList_load_mid rfl 57 (.tmp 45) rfl b0 (off + i * 3) rfl [.int .i64 s.kd, .int .i64 s.pick, .bool s.well] _ HRG.out Try.underlying57 rfl (by kernel_rfl) ?_)
      refine (move_any w.heap.size id w7 P35 x f p s.kd s.pick s.well (10 * (i : Int)) HPA.out i1 i2 (by omega) (by omega) (by omega) (by omega) n6 n7 (by omega) HI.out HW.out).mono ?_
      rintro e w8 ⟨rfl, x', f', p', h1, h2, h3, h4, h5, h6, h7, ⟨h8, h9, h10⟩, hg⟩
      have HPA' := Lib.hid h1
      have HI' := Lib.hid h2
      have HW' := Lib.hid (h3 HW.out)
      have HB' : Hid (Below w.heap.size w w8) := Lib.hid (HB.out.trans (hg.below HB.out.size (fun k hk h => by omega)))
      clear h1 h2 h3 hg HRG HPA HI HW HB
      go_wp2_with fail
      go_roundg (len - (i + 1))
      case measure => omega
      case rel => exact ⟨i + 1, x', f', p', by omega, rfl, by go_num, by omega, by omega, by omega, by omega, by omega, h9, h10, HPA', HI', HW', HB'⟩
    have q1 : ¬ (i : Int) < (len : Int) := by omega
    obtain ⟨g, hg⟩ := book_cells HPA.out.book
    have HGC := Lib.hid hg
    have HPB := Lib.hid HPA.out.blk
    have HHD := Lib.hid HPA.out.hrd
    clear hg HPA HW
    have c9 : w7.cell? ⟨P35, 9, none⟩ = some (.slice (some ⟨x.H, 0, none⟩) p.heard.length p.heard.length) := cellb (i := 9) HPB.out rfl
    rw [n5] at c9
    go_wp2_with fail
    clear c9
    go_loopg [9] (len + 1) (fun gk s9 wr => ∃ q : Nat, 1 ≤ q ∧ q ≤ len + 2 ∧ gk = len + 2 - q ∧ s9 = .int .i64 q ∧ wr = w7)
    case atStart => exact ⟨1, by omega, by omega, by omega, rfl, rfl⟩
    case round =>
      obtain ⟨q, hq1, hq2, rfl, rfl, rfl⟩ := hrel
      obtain ⟨w7, rfl⟩ : ∃ y : World, y = wr := ⟨_, rfl⟩
      have c9 : w7.cell? ⟨P35, 9, none⟩ = some (.slice (some ⟨x.H, 0, none⟩) (len + 2) (len + 2)) := by rw [← n5]; exact cellb (i := 9) HPB.out rfl
      by_cases hq : q < len + 2
      rotate_left
      · have r1 : ¬ (q : Int) < ((len + 2 : Nat) : Int) := by omega
        go_wp2_with fail
        go_ret
        exact ⟨rfl, HB.out⟩
      have r1 : (q : Int) < ((len + 2 : Nat) : Int) := by omega
      have r0 : (0 : Int) ≤ (q : Int) := by omega
      have c5 : w7.cell? ⟨P35, 5, none⟩ = some (.slice x.bA p.book.length x.bc) := cellb (i := 5) HPB.out rfl
      go_wp2_with fail
      clear c9
      go_loopg [10, 11] (p.book.length) (fun gk s10 s11 wr => ∃ j : Nat, j ≤ p.book.length ∧ gk = p.book.length - j ∧ s11 = .int .i64 j ∧ s10 = .bool (decide ((q : Int) ∈ p.book.take j)) ∧ wr = w7)
      case atStart => exact ⟨0, Nat.zero_le _, rfl, rfl, by simp, rfl⟩
      case round =>
        obtain ⟨j, hj, rfl, rfl, rfl, rfl⟩ := hrel
        obtain ⟨w7, rfl⟩ : ∃ y : World, y = wr := ⟨_, rfl⟩
        by_cases hjl : j < p.book.length
        · have j1 : (j : Int) < (p.book.length : Int) := by omega
          have j0 : (0 : Int) ≤ (j : Int) := by omega
          obtain ⟨y, hy⟩ : ∃ y, p.book[j]? = some y := ⟨p.book[j], List.getElem?_eq_getElem hjl⟩
          have htk : p.book.take (j + 1) = p.book.take j ++ [y] := by rw [List.take_add_one, hy]; rfl
          have HT := Lib.hid htk
          obtain ⟨hA, hc⟩ := HGC.out j y hy
          have HY := Lib.hid hy
          rw [hA] at c5
          clear hA htk hy
          by_cases hm : (q : Int) ∈ p.book.take j
          · have hd : decide ((q : Int) ∈ p.book.take j) = true := decide_eq_true hm
            rw [hd]
            have HD : Hid (decide ((q : Int) ∈ p.book.take (j + 1)) = true) := Lib.hid (by rw [HT.out]; exact decide_eq_true (List.mem_append_left _ hm))
            clear hd hm hc
            go_wp2_with fail
            go_roundg (p.book.length - (j + 1))
            case measure => omega
            case rel => exact ⟨j + 1, by omega, rfl, by go_num, by rw [HD.out], rfl⟩
          · have hd : decide ((q : Int) ∈ p.book.take j) = false := decide_eq_false hm
            rw [hd]
            have HD : Hid (decide ((q : Int) ∈ p.book.take (j + 1)) = (y == (q : Int))) := Lib.hid (by
              rw [HT.out]
              by_cases e : (q : Int) = y
              · rw [decide_eq_true (List.mem_append_right _ (by simp [e]))]; simp [e]
              · rw [decide_eq_false (fun h => by
                  rcases List.mem_append.1 h with h | h
                  · exact hm h
                  · exact e (List.mem_singleton.1 h))]
                have e' : ¬ y = (q : Int) := fun h => e h.symm
                simp [e'])
            clear hd hm
            go_wp2_with fail
            go_roundg (p.book.length - (j + 1))
            case measure => omega
            case rel => exact ⟨j + 1, by omega, rfl, by go_num, by rw [HD.out], rfl⟩
        have j1 : ¬ (j : Int) < (p.book.length : Int) := by omega
        have hje : j = p.book.length := by omega
        subst hje
        have c9 : w7.cell? ⟨P35, 9, none⟩ = some (.slice (some ⟨x.H, 0, none⟩) (len + 2) (len + 2)) := by rw [← n5]; exact cellb (i := 9) HPB.out rfl
        obtain ⟨y, hy⟩ : ∃ y, p.heard[q]? = some y := ⟨p.heard[q]'(by omega), List.getElem?_eq_getElem (by omega)⟩
        have ch : w7.cell? ⟨x.H, q, none⟩ = some (.int .i64 y) := by
          have h := hd_cell HHD.out (q := q) (by omega)
          have e : p.heard.getD q 0 = y := by simp [List.getD, hy]
          rw [e] at h; exact h
        have hh := HI.out.heard q
        rw [List.take_length]
        have HH : Hid ((y = 1 → (q : Int) ∈ p.book) ∧ (y = 2 → (q : Int) ∉ p.book)) := Lib.hid ⟨fun e => hh.1 (by rw [hy, e]), fun e => (hh.2 (by rw [hy, e])).1⟩
        clear hy hh
        by_cases hm : (q : Int) ∈ p.book
        · have hd : decide ((q : Int) ∈ p.book) = true := decide_eq_true hm
          rw [hd]
          have y2 : (y == 2) = false := by rw [beq_eq_false_iff_ne]; exact fun e => HH.out.2 e hm
          clear hd hm
          by_cases y1 : (y == 1) = true
          all_goals
            (try rw [Bool.not_eq_true] at y1)
            go_wp2_with fail
            go_roundg (len + 2 - (q + 1))
            case measure => omega
            case rel => exact ⟨q + 1, by omega, by omega, rfl, by go_num, rfl⟩
        · have hd : decide ((q : Int) ∈ p.book) = false := decide_eq_false hm
          rw [hd]
          have y1 : (y == 1) = false := by rw [beq_eq_false_iff_ne]; exact fun e => hm (HH.out.1 e)
          clear hd hm
          by_cases y2 : (y == 2) = true
          all_goals
            (try rw [Bool.not_eq_true] at y2)
            go_wp2_with fail
            go_roundg (len + 2 - (q + 1))
            case measure => omega
            case rel => exact ⟨q + 1, by omega, by omega, rfl, by go_num, rfl⟩
theorem law_once (id : Int) (A0 : Option Addr) (len cap : Nat) (gs : List Mv) (w : World) (hlen : len = gs.length) (hp : MvIn w w.heap.size A0 gs) :
    Calls Try.prog 4 #[.int .i64 id, .slice A0 len cap] w fun e w' => e = .returned (.bool true) ∧ Below w.heap.size w w' := by
  by_cases h1 : 1 ≤ id
  · by_cases h2 : id ≤ 16
    · by_cases h3 : len ≤ 120
      · exact once_in id A0 len cap gs w h1 h2 hlen h3 hp
      · exact once_out id A0 len cap w (.inr (.inr (by omega)))
    · exact once_out id A0 len cap w (.inr (.inl (by omega)))
  · exact once_out id A0 len cap w (.inl (by omega))
end Go.Proofs.Ytlcbpodjmafoeaa
