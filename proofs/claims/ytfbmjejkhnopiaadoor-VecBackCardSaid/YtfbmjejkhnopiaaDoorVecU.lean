/- The document's amount of a text. -/
import Derived.Test.YtfbmjejkhnopiaaDoorVecS
namespace Go.Proofs.YtfbmjejkhnopiaaDoor
open Go.RowKit

theorem okv_out {d : Nat → Int} {j : Nat} (hj : j < 4) (h : d j < 0 ∨ 1073741824 < d j) : okv d = false := by
  cases e : okv d with
  | false => rfl
  | true => have := okv_bd e hj; omega
theorem okv_all {d : Nat → Int} (h : ∀ i, i < 4 → 0 ≤ d i ∧ d i ≤ 1073741824) : okv d = true := by
  have k : ∀ i, i < 4 → okb (d i) = true := fun i hi => by have := h i hi; simp [okb]; omega
  simp only [okv, k 0 (by decide), k 1 (by decide), k 2 (by decide), k 3 (by decide), Bool.and_self]
set_option maxRecDepth 100000 in
set_option maxHeartbeats 4000000 in
theorem rread_any (s : ByteArray) (w : World) (hs : s.size ≤ 1000) :
    Calls Tryd.prog 23 #[.string s] w fun e w' => e = .returned (.tuple #[.agg #[.int .i64 (readV s.data.toList 0), .int .i64 (readV s.data.toList 1), .int .i64 (readV s.data.toList 2), .int .i64 (readV s.data.toList 3)], .int .i64 (readE s.data.toList)]) ∧ Below w.heap.size w w' := by
  obtain ⟨P2, hP2⟩ : ∃ x, x = w.heap.size := ⟨_, rfl⟩
  have hb1 : Below w.heap.size w (w.alloc (.cells #[.int .i64 0, .int .i64 0, .int .i64 0, .int .i64 0] 23)) := (Below.refl w.heap.size w).alloc (Nat.le_refl _) _
  have hv1 : VAt (w.alloc (.cells #[.int .i64 0, .int .i64 0, .int .i64 0, .int .i64 0] 23)) P2 (fun _ => 0) := by rw [hP2]; exact VAt.new w (fun _ => 0)
  have HB_1 := Lib.hid hb1
  have HV_1 := Lib.hid hv1
  have HP := Lib.hid hP2
  clear hb1 hv1
  obtain ⟨l, hl⟩ : ∃ l, l = s.data.toList := ⟨_, rfl⟩
  have HLE := Lib.hid hl
  have HLL : Hid (l.length ≤ 1000) := Lib.hid (by rw [hl]; simpa using hs)
  rw [← hl]
  go_enter Tryd.func23, Tryd.ntmps23
  go_upto_region 1 with (fail)
  rw [← hP2]
  clear hP2
  generalize w.alloc (.cells #[.int .i64 0, .int .i64 0, .int .i64 0, .int .i64 0] 23) = w1 at HB_1 HV_1 ⊢
  go_wp2_with fail
  refine (rcut_any s w1 hs).mono ?_
  rintro e w2 ⟨A, n, c, rfl, hn, ho, hb⟩
  rw [← hl] at hn ho
  have HN := Lib.hid hn
  have HO_2 := Lib.hid ho
  have HB_2 := Lib.hid (HB_1.out.trans (hb.mono HB_1.out.size))
  have HV_2 := Lib.hid (HV_1.out.below hb (ltb HV_1.out))
  clear hn ho hb HB_1 HV_1 hl
  by_cases h4 : n = 4
  rotate_left
  · have HNL : Hid ((parts l).length ≠ 4) := Lib.hid (by rw [← HN.out]; exact h4)
    have t1 : ((n : Int) == 4) = false := by have : ¬ (n : Int) = 4 := by omega
                                             simpa using this
    have t2 : ((n : Int) != 4) = true := by have : ¬ (n : Int) = 4 := by omega
                                            simpa using this
    clear h4
    have HST : Hid (VAt (w2.setRow P2 #[.int .i64 0, .int .i64 0, .int .i64 0, .int .i64 0]) P2 (fun _ => 0)) := Lib.hid (setRow_heap w2 P2 _ _ _ _ HV_2.out)
    have HBF : Hid (Below w.heap.size w (w2.setRow P2 #[.int .i64 0, .int .i64 0, .int .i64 0, .int .i64 0])) := Lib.hid (HB_2.out.trans (((Chg.refl (fun k => k = P2) w2).setRow (.inr rfl) _).below HB_2.out.size (fun k hk e => by have := HP.out; omega)))
    go_wp2_with (refine wpList_store_row rfl 23 (.tmp 2) (.tmp 13) rfl P2 _ rfl rfl 23 _ HV_2.out (by kernel_rfl) rfl (by simp [Value.oneCell']) ?_)
    refine bodyPost_ret (v := .tuple #[.agg #[.int .i64 0, .int .i64 0, .int .i64 0, .int .i64 0], .int .i64 11]) (results_vece Tryd.results23 _ _ P2 (fun _ => 0) rfl HST.out) rfl ⟨?_, HBF.out⟩
    simp [readV, readE, HNL.out]
  · have HNL : Hid ((parts l).length = 4) := Lib.hid (by rw [← HN.out]; exact h4)
    subst h4
    obtain ⟨P5, hP5⟩ : ∃ x, x = w2.heap.size := ⟨_, rfl⟩
    have hal : Below w2.heap.size w2 (w2.alloc (.cells #[.int .i64 0, .int .i64 0, .int .i64 0, .int .i64 0] 23)) := (Below.refl _ _).alloc (Nat.le_refl _) _
    have hV5 : VAt (w2.alloc (.cells #[.int .i64 0, .int .i64 0, .int .i64 0, .int .i64 0] 23)) P5 (fun _ => 0) := by rw [hP5]; exact VAt.new w2 (fun _ => 0)
    have hP25 : P2 < P5 := by have := ltb HV_2.out; omega
    have HO_3 : Hid ((w2.alloc (.cells #[.int .i64 0, .int .i64 0, .int .i64 0, .int .i64 0] 23)).ownsRow w1.heap.size 9 1 (.slice A 4 c) 4 ((parts l).map sv)) := Lib.hid ((Chg.of_below (S := fun _ => False) hal).own HO_2.out (fun _ _ h => h))
    have HB_3 := Lib.hid (HB_2.out.trans (hal.mono HB_2.out.size))
    have HV_3 := Lib.hid (HV_2.out.below hal (ltb HV_2.out))
    have HV5_3 := Lib.hid hV5
    have HOP : Hid (∀ k, (Value.slice A 4 c).ownBlock = some k → k < P5) := Lib.hid (fun k hk => by rw [hP5]; exact (HO_2.out.lt k hk).2)
    clear hal hV5 HO_2 HB_2 HV_2
    go_upto_region 5 with (fail)
    rw [← hP5]
    clear hP5
    generalize w2.alloc (.cells #[.int .i64 0, .int .i64 0, .int .i64 0, .int .i64 0] 23) = w3 at HO_3 HB_3 HV_3 HV5_3 ⊢
    go_wp2_with fail
    go_loopw [6] (fun i wr => ∃ (j : Nat) (d : Nat → Int), j ≤ 4 ∧ i = .int .i64 j ∧ Hid (∀ i, i < j → d i = pv l i ∧ 0 ≤ pv l i ∧ pv l i ≤ 1073741824) ∧ Hid (wr.ownsRow w1.heap.size 9 1 (.slice A 4 c) 4 ((parts l).map sv)) ∧ Hid (Below w.heap.size w wr) ∧ Hid (VAt wr P2 (fun _ => 0)) ∧ Hid (VAt wr P5 d)) (fun i _ => 4 - (intOf i).toNat)
    case atStart => exact ⟨0, fun _ => 0, by omega, rfl, Lib.hid (fun i hi => by omega), HO_3, HB_3, HV_3, HV5_3⟩
    case round =>
      clear HO_3 HB_3 HV_3 HV5_3
      obtain ⟨j, d, hj, rfl, HD, HO_4, HB_4, HV_4, HV5_4⟩ := hrel
      by_cases hj4 : j < 4
      · have hj' : (j : Int) < 4 := by omega
        have hj0 : (0 : Int) ≤ (j : Int) := by omega
        obtain ⟨x, hx⟩ : ∃ x, x = (parts l).getD j [] := ⟨_, rfl⟩
        have hxi : (parts l)[j]? = some x := by
          have hlt : j < (parts l).length := by rw [HNL.out]; exact hj4
          rw [hx, List.getElem?_eq_getElem hlt]; simp [List.getD, List.getElem?_eq_getElem hlt]
        have hxl : x.length ≤ 1000 := by
          have := sp_len l [] x (by obtain ⟨h, e⟩ := List.getElem?_eq_some_iff.1 hxi; rw [← e]; exact List.getElem_mem _)
          have := HLL.out; simp at *; omega
        obtain ⟨g, hA, hcell, _, hglt⟩ := own_cell HO_4.out (i := j) (v := sv x) (by rw [List.getElem?_map, hxi]; rfl)
        have HXE : Hid (pv l j = numB x 10) := Lib.hid (by unfold pv; rw [hx])
        have hcell' : wr.cell? ⟨g, j, none⟩ = some (.string (str x)) := hcell
        clear hx hxi hcell
        have hA' : A = some ⟨g, 0, none⟩ := hA
        subst hA'
        have hxs : (str x).size ≤ 1000 := by rw [str_size]; exact hxl
        clear hA
        go_wp2_with fail
        refine (rnumber_any (str x) wr hxs).mono ?_
        rintro e w' ⟨rfl, rfl⟩
        obtain ⟨y, hy⟩ : ∃ y, y = pv l j := ⟨_, rfl⟩
        rw [show numB (str x).data.toList 10 = y from by rw [hy, HXE.out]; rfl]
        have HY := Lib.hid hy
        clear hy hcell'
        by_cases hbad : y < 0 ∨ 1073741824 < y
        · have HOUT := Lib.hid (okv_out (d := pv l) hj4 (by rw [← HY.out]; exact hbad))
          have key : y < 0 ∨ (¬ y < 0 ∧ 1073741824 < y) := by omega
          clear hbad
          rcases key with hb | ⟨hb, hb'⟩
          · skip
            have HST : Hid (VAt (wr.setRow P2 #[.int .i64 0, .int .i64 0, .int .i64 0, .int .i64 0]) P2 (fun _ => 0)) := Lib.hid (setRow_heap wr P2 _ _ _ _ HV_4.out)
            have HBF : Hid (Below w.heap.size w (wr.setRow P2 #[.int .i64 0, .int .i64 0, .int .i64 0, .int .i64 0])) := Lib.hid (HB_4.out.trans (((Chg.refl (fun k => k = P2) wr).setRow (.inr rfl) _).below HB_4.out.size (fun k hk e => by have := HP.out; omega)))
            go_wp2_with (refine wpList_store_row rfl 23 (.tmp 2) (.tmp 29) rfl P2 _ rfl rfl 23 _ HV_4.out (by kernel_rfl) rfl (by simp [Value.oneCell']) ?_)
            refine bodyPost_ret (v := .tuple #[.agg #[.int .i64 0, .int .i64 0, .int .i64 0, .int .i64 0], .int .i64 11]) (results_vece Tryd.results23 _ _ P2 (fun _ => 0) rfl HST.out) rfl ⟨?_, HBF.out⟩
            simp [readV, readE, HNL.out, toldV, toldE, HOUT.out]
          · skip
            have HST : Hid (VAt (wr.setRow P2 #[.int .i64 0, .int .i64 0, .int .i64 0, .int .i64 0]) P2 (fun _ => 0)) := Lib.hid (setRow_heap wr P2 _ _ _ _ HV_4.out)
            have HBF : Hid (Below w.heap.size w (wr.setRow P2 #[.int .i64 0, .int .i64 0, .int .i64 0, .int .i64 0])) := Lib.hid (HB_4.out.trans (((Chg.refl (fun k => k = P2) wr).setRow (.inr rfl) _).below HB_4.out.size (fun k hk e => by have := HP.out; omega)))
            go_wp2_with (refine wpList_store_row rfl 23 (.tmp 2) (.tmp 29) rfl P2 _ rfl rfl 23 _ HV_4.out (by kernel_rfl) rfl (by simp [Value.oneCell']) ?_)
            refine bodyPost_ret (v := .tuple #[.agg #[.int .i64 0, .int .i64 0, .int .i64 0, .int .i64 0], .int .i64 11]) (results_vece Tryd.results23 _ _ P2 (fun _ => 0) rfl HST.out) rfl ⟨?_, HBF.out⟩
            simp [readV, readE, HNL.out, toldV, toldE, HOUT.out]
        · have y0 : ¬ y < 0 := by omega
          have y1 : ¬ 1073741824 < y := by omega
          have HYB : Hid (0 ≤ y ∧ y ≤ 1073741824) := Lib.hid (by omega)
          have hcc : wr.cell? ⟨P5, j, none⟩ = some (.int .i64 (d j)) := HV5_4.out.cell hj4
          have hfz : wr.frozen? ⟨P5, j, none⟩ = false := fzb HV5_4.out j
          have hch : Chg (fun k => k = P5) wr (wr.setCell ⟨P5, j, none⟩ (.int .i64 y)) := (Chg.refl (fun k => k = P5) wr).setCell (.inr rfl) _
          have HQ5 : Hid (VAt (wr.setCell ⟨P5, j, none⟩ (.int .i64 y)) P5 (put1 d j y)) := Lib.hid (HV5_4.out.set hj4 y)
          have HQ2 : Hid (VAt (wr.setCell ⟨P5, j, none⟩ (.int .i64 y)) P2 (fun _ => 0)) := Lib.hid ((hch.block P2 (ltb HV_4.out) (by omega)).trans HV_4.out)
          have HQB : Hid (Below w.heap.size w (wr.setCell ⟨P5, j, none⟩ (.int .i64 y))) := Lib.hid (HB_4.out.trans (hch.below HB_4.out.size (fun k hk e => by have := HP.out; omega)))
          have HQO : Hid ((wr.setCell ⟨P5, j, none⟩ (.int .i64 y)).ownsRow w1.heap.size 9 1 (.slice (some ⟨g, 0, none⟩) 4 c) 4 ((parts l).map sv)) := Lib.hid (hch.own HO_4.out (fun k hk e => by have := HOP.out k hk; omega))
          clear hbad hch HV5_4 HV_4 HB_4 HO_4
          go_wp2_with fail
          go_roundw
          case rel => exact ⟨j + 1, put1 d j y, by omega, by go_num, Lib.hid (fun i hi => by
            unfold put1
            by_cases e : i = j
            · rw [if_pos e, e, ← HY.out]; exact ⟨rfl, HYB.out⟩
            · rw [if_neg e]; exact HD.out i (by omega)), HQO, HQB, HQ2, HQ5⟩
          case measure => simp [intOf]; omega
      · have hj4' : j = 4 := by omega
        have hj5 : ¬ (j : Int) < 4 := by omega
        have HDD : Hid (∀ i, i < 4 → d i = pv l i ∧ 0 ≤ pv l i ∧ pv l i ≤ 1073741824) := Lib.hid (fun i hi => HD.out i (by omega))
        clear hj4' HD
        have HST : Hid (VAt (wr.setRow P2 #[.int .i64 (d 0), .int .i64 (d 1), .int .i64 (d 2), .int .i64 (d 3)]) P2 d) := Lib.hid (setRow_heap wr P2 _ _ _ _ HV_4.out)
        have HBF : Hid (Below w.heap.size w (wr.setRow P2 #[.int .i64 (d 0), .int .i64 (d 1), .int .i64 (d 2), .int .i64 (d 3)])) := Lib.hid (HB_4.out.trans (((Chg.refl (fun k => k = P2) wr).setRow (.inr rfl) _).below HB_4.out.size (fun k hk e => by have := HP.out; omega)))
        go_wp2_with (first | (refine wpList_load_row rfl 23 _ rfl P5 rfl 23 _ (0, 0) _ HV5_4.out Tryd.underlying23 rfl (by kernel_rfl) ?_) | (refine wpList_store_row rfl 23 (.tmp 2) (.tmp 33) rfl P2 _ rfl rfl 23 _ HV_4.out (by kernel_rfl) rfl (by simp [Value.oneCell']) ?_))
        refine bodyPost_ret (v := .tuple #[.agg #[.int .i64 (d 0), .int .i64 (d 1), .int .i64 (d 2), .int .i64 (d 3)], .int .i64 0]) (results_vece Tryd.results23 _ _ P2 d rfl HST.out) rfl ⟨?_, HBF.out⟩
        have hok := okv_all (fun i hi => (HDD.out i hi).2)
        have hd := fun i (hi : i < 4) => (HDD.out i hi).1
        simp [readV, readE, HNL.out, toldV, toldE, hok, hd 0 (by decide), hd 1 (by decide), hd 2 (by decide), hd 3 (by decide)]
end Go.Proofs.YtfbmjejkhnopiaaDoor
