/- An amount of a text. -/
import Derived.Test.YtfbmjejkhnopiaaDoorVecQ
namespace Go.Proofs.YtfbmjejkhnopiaaDoor
open Go.RowKit

def pv (l : List UInt8) : Nat → Int := fun i => numB ((parts l).getD i []) 10
def readE (l : List UInt8) : Int := if (parts l).length = 4 then toldE true (pv l) 11 else 11
def readV (l : List UInt8) : Nat → Int := fun i => if (parts l).length = 4 then toldV true (pv l) i else 0
theorem okv_congr4 {d e : Nat → Int} (h : ∀ i, i < 4 → d i = e i) : okv d = okv e := by
  unfold okv; rw [h 0 (by decide), h 1 (by decide), h 2 (by decide), h 3 (by decide)]
theorem ba_list (s : ByteArray) : (⟨s.data.toList.toArray⟩ : ByteArray) = s := by cases s; simp
set_option maxRecDepth 100000 in
set_option maxHeartbeats 2000000 in
theorem read_any (s : ByteArray) (m : Int) (w : World) (hs : s.size ≤ 1000) (h0w : 0 < w.heap.size) (hm : w.cell? ⟨0, 0, none⟩ = some (.int .i64 m)) :
    Calls Tryd.prog 22 #[.string s] w fun e w' => e = .returned (.tuple #[.agg #[.int .i64 (readV s.data.toList 0), .int .i64 (readV s.data.toList 1), .int .i64 (readV s.data.toList 2), .int .i64 (readV s.data.toList 3)], .int .i64 (readE s.data.toList)]) ∧ Below w.heap.size w w' := by
  obtain ⟨P2, hP2⟩ : ∃ x, x = w.heap.size := ⟨_, rfl⟩
  have hb2 : Below w.heap.size w ((w.alloc (.cells #[.int .i64 0, .int .i64 0, .int .i64 0, .int .i64 0] 23)).alloc (.cells #[.int .i64 0, .int .i64 0, .int .i64 0, .int .i64 0] 23)) := ((Below.refl w.heap.size w).alloc (Nat.le_refl _) _).alloc (by simp) _
  have hv3 : VAt ((w.alloc (.cells #[.int .i64 0, .int .i64 0, .int .i64 0, .int .i64 0] 23)).alloc (.cells #[.int .i64 0, .int .i64 0, .int .i64 0, .int .i64 0] 23)) (P2 + 1) (fun _ => 0) := by rw [hP2]; have := VAt.new (w.alloc (.cells #[.int .i64 0, .int .i64 0, .int .i64 0, .int .i64 0] 23)) (fun _ => 0); simpa using this
  have hv2 : VAt ((w.alloc (.cells #[.int .i64 0, .int .i64 0, .int .i64 0, .int .i64 0] 23)).alloc (.cells #[.int .i64 0, .int .i64 0, .int .i64 0, .int .i64 0] 23)) P2 (fun _ => 0) := by rw [hP2]; exact (Below.heap_alloc _ _ _ (by simp)).trans (VAt.new w (fun _ => 0))
  have HB := Lib.hid hb2
  have HV2 := Lib.hid hv2
  have HV4 := Lib.hid hv3
  have HP := Lib.hid hP2
  have HM := Lib.hid hm
  have H0W := Lib.hid h0w
  clear hb2 hv2 hv3 hm h0w
  obtain ⟨l, hl⟩ : ∃ l, l = s.data.toList := ⟨_, rfl⟩
  have HLE := Lib.hid hl
  rw [← hl]
  clear hl
  have HPL : Hid (parts s.data.toList = parts l) := Lib.hid (by rw [HLE.out])
  go_enter Tryd.func22, Tryd.ntmps22
  go_wp2_with fail
  rw [← hP2]
  clear hP2
  generalize (w.alloc (.cells #[.int .i64 0, .int .i64 0, .int .i64 0, .int .i64 0] 23)).alloc (.cells #[.int .i64 0, .int .i64 0, .int .i64 0, .int .i64 0] 23) = w1 at HB HV2 HV4 ⊢
  go_loopw [0, 9] (fun t i wr => ∃ (j : Nat) (r : ByteArray) (done : List (List UInt8)) (d : Nat → Int), j ≤ 4 ∧ i = .int .i64 j ∧ t = .string r ∧ r.size ≤ 1000 ∧ Hid (parts l = done ++ (if j < 4 then parts r.data.toList else [])) ∧ Hid (done.length = j) ∧ Hid (∀ i, i < j → d i = numB (done.getD i []) 10) ∧ Hid (Below w.heap.size w wr) ∧ Hid (VAt wr P2 (fun _ => 0)) ∧ Hid (VAt wr (P2 + 1) d)) (fun _ i _ => 4 - (intOf i).toNat)
  case atStart => exact ⟨0, s, [], fun _ => 0, by omega, rfl, rfl, hs, Lib.hid (by rw [← HPL.out]; rfl), Lib.hid rfl, Lib.hid (fun i hi => by omega), HB, HV2, HV4⟩
  case round =>
    clear HB HV2 HV4 HPL
    obtain ⟨j, r, done, d, hj, rfl, rfl, hr, HPT, HDL, HDN, HB, HV2, HV4⟩ := hrel
    by_cases hj4 : j < 4
    · have hj' : (j : Int) < 4 := by omega
      have hj0 : (0 : Int) ≤ (j : Int) := by omega
      have HPT' : Hid (parts l = done ++ parts r.data.toList) := Lib.hid (by have := HPT.out; rw [if_pos hj4] at this; exact this)
      have hcell : wr.cell? ⟨0, 0, none⟩ = some (.int .i64 m) := (HB.out.cell (p := ⟨0, 0, none⟩) H0W.out).trans HM.out
      have HCALL := Lib.hid (Tryd.strings_Cut r ⟨#[44]⟩ m wr (by omega) hcell)
      clear HPT hcell
      go_wp2_with fail
      refine HCALL.out.mono ?_
      clear HCALL
      rintro e w' ⟨rfl, n, rfl⟩
      have HB' : Hid (Below w.heap.size w (wr.drewN n)) := Lib.hid (below_drewN HB.out n)
      have HP2' : Hid (VAt (wr.drewN n) P2 (fun _ => 0)) := Lib.hid (HV2.out.drewN n)
      have HP4' : Hid (VAt (wr.drewN n) (P2 + 1) d) := Lib.hid (HV4.out.drewN n)
      have HP2'' := HP2'
      clear HB HV2 HV4
      rcases cut_parts r.data.toList with ⟨hc, hp⟩ | ⟨a, b, hc, hp, hl⟩
      · rw [show Lib.cut r.data.toList (⟨#[44]⟩ : ByteArray).data.toList = (r.data.toList, [], false) from hc]
        simp only [ba_list]
        have HPR := Lib.hid hp
        clear hc hp
        by_cases hj3 : j < 3
        · have hj3' : (j : Int) < 3 := by omega
          have HNL : Hid ((parts l).length ≠ 4) := Lib.hid (by rw [HPT'.out, HPR.out, List.length_append, HDL.out]; simp; omega)
          have HST : Hid (VAt ((wr.drewN n).setRow P2 #[.int .i64 0, .int .i64 0, .int .i64 0, .int .i64 0]) P2 (fun _ => 0)) := Lib.hid (setRow_heap (wr.drewN n) P2 _ _ _ _ HP2'.out)
          have HBF : Hid (Below w.heap.size w ((wr.drewN n).setRow P2 #[.int .i64 0, .int .i64 0, .int .i64 0, .int .i64 0])) := Lib.hid (HB'.out.trans (((Chg.refl (fun k => k = P2) (wr.drewN n)).setRow (.inr rfl) _).below HB'.out.size (fun k hk e => by have := HP.out; omega)))
          clear HB' HP2' HP4'
          go_wp2_with (refine wpList_store_row rfl 23 (.tmp 2) (.tmp 22) rfl P2 _ rfl rfl 23 _ HP2''.out (by kernel_rfl) rfl (by simp [Value.oneCell']) ?_)
          refine bodyPost_ret (v := .tuple #[.agg #[.int .i64 0, .int .i64 0, .int .i64 0, .int .i64 0], .int .i64 11]) (results_vece Tryd.results22 _ _ P2 (fun _ => 0) rfl HST.out) rfl ⟨?_, HBF.out⟩
          simp [readV, readE, HNL.out]
        · have hj3' : ¬ (j : Int) < 3 := by omega
          have HJ : Hid (j = 3) := Lib.hid (by omega)
          go_wp2_with fail
          refine (number_any r (wr.drewN n) hr).mono ?_
          rintro e w' ⟨rfl, rfl⟩
          obtain ⟨x, hx⟩ : ∃ x, x = numB r.data.toList 10 := ⟨_, rfl⟩
          rw [← hx]
          have HX := Lib.hid hx
          clear hx
          have hcell : (wr.drewN n).cell? ⟨P2 + 1, j, none⟩ = some (.int .i64 (d j)) := HP4'.out.cell hj4
          have hfz : (wr.drewN n).frozen? ⟨P2 + 1, j, none⟩ = false := fzb HP4'.out j
          have HQ4 : Hid (VAt ((wr.drewN n).setCell ⟨P2 + 1, j, none⟩ (.int .i64 x)) (P2 + 1) (put1 d j x)) := Lib.hid (HP4'.out.set hj4 x)
          have HQ2 : Hid (VAt ((wr.drewN n).setCell ⟨P2 + 1, j, none⟩ (.int .i64 x)) P2 (fun _ => 0)) := Lib.hid ((Below.heap_setCell _ _ _ P2 (by show P2 ≠ P2 + 1; omega)).trans HP2'.out)
          have HQB : Hid (Below w.heap.size w ((wr.drewN n).setCell ⟨P2 + 1, j, none⟩ (.int .i64 x))) := Lib.hid (HB'.out.setCell (by show w.heap.size ≤ P2 + 1; rw [HP.out]; omega) _)
          clear HP4' HP2' HB' HP2''
          go_wp2_with fail
          go_roundw
          case rel => exact ⟨j + 1, ⟨#[]⟩, done ++ [r.data.toList], put1 d j x, by omega, by go_num, rfl, by decide, Lib.hid (by rw [if_neg (by have := HJ.out; omega), HPT'.out, HPR.out, List.append_nil]), Lib.hid (by rw [List.length_append, HDL.out]; rfl), Lib.hid (fun i hi => by
            unfold put1
            by_cases e : i = j
            · rw [if_pos e, HX.out, e, ← HDL.out]; simp
            · rw [if_neg e, HDN.out i (by omega)]
              have : i < done.length := by rw [HDL.out]; omega
              simp [List.getD, List.getElem?_append_left this]), HQB, HQ2, HQ4⟩
          case measure => simp [intOf]; omega
      · rw [show Lib.cut r.data.toList (⟨#[44]⟩ : ByteArray).data.toList = (a, b, true) from hc]
        have HPR := Lib.hid hp
        have hab : a.length ≤ 1000 ∧ b.length ≤ 1000 := by
          have := congrArg List.length hl
          rw [List.length_append, List.length_cons] at this
          have h2 : r.data.toList.length = r.size := by simp
          omega
        obtain ⟨ha, hb⟩ := hab
        clear hc hp hl
        obtain ⟨sa, hsa⟩ : ∃ sa : ByteArray, sa = ⟨a.toArray⟩ := ⟨_, rfl⟩
        obtain ⟨sb, hsb⟩ : ∃ sb : ByteArray, sb = ⟨b.toArray⟩ := ⟨_, rfl⟩
        simp only [← hsa, ← hsb]
        have hsa1 : sa.size ≤ 1000 := by rw [hsa]; show a.toArray.size ≤ 1000; simpa using ha
        have hsb1 : sb.size ≤ 1000 := by rw [hsb]; show b.toArray.size ≤ 1000; simpa using hb
        have HSA : Hid (sa.data.toList = a) := Lib.hid (by rw [hsa])
        have HSB : Hid (sb.data.toList = b) := Lib.hid (by rw [hsb])
        clear hsa hsb
        by_cases hj3 : j < 3
        · have hj3' : (j : Int) < 3 := by omega
          go_wp2_with fail
          refine (number_any sa (wr.drewN n) hsa1).mono ?_
          rintro e w' ⟨rfl, rfl⟩
          obtain ⟨x, hx⟩ : ∃ x, x = numB sa.data.toList 10 := ⟨_, rfl⟩
          rw [← hx]
          have HX := Lib.hid hx
          clear hx
          have hcell : (wr.drewN n).cell? ⟨P2 + 1, j, none⟩ = some (.int .i64 (d j)) := HP4'.out.cell hj4
          have hfz : (wr.drewN n).frozen? ⟨P2 + 1, j, none⟩ = false := fzb HP4'.out j
          have HQ4 : Hid (VAt ((wr.drewN n).setCell ⟨P2 + 1, j, none⟩ (.int .i64 x)) (P2 + 1) (put1 d j x)) := Lib.hid (HP4'.out.set hj4 x)
          have HQ2 : Hid (VAt ((wr.drewN n).setCell ⟨P2 + 1, j, none⟩ (.int .i64 x)) P2 (fun _ => 0)) := Lib.hid ((Below.heap_setCell _ _ _ P2 (by show P2 ≠ P2 + 1; omega)).trans HP2'.out)
          have HQB : Hid (Below w.heap.size w ((wr.drewN n).setCell ⟨P2 + 1, j, none⟩ (.int .i64 x))) := Lib.hid (HB'.out.setCell (by show w.heap.size ≤ P2 + 1; rw [HP.out]; omega) _)
          clear HP4' HP2' HB' HP2''
          go_wp2_with fail
          go_roundw
          case rel => exact ⟨j + 1, sb, done ++ [a], put1 d j x, by omega, by go_num, rfl, hsb1, Lib.hid (by rw [if_pos (by omega), HPT'.out, HPR.out, HSB.out]; simp), Lib.hid (by rw [List.length_append, HDL.out]; rfl), Lib.hid (fun i hi => by
            unfold put1
            by_cases e : i = j
            · rw [if_pos e, HX.out, e, ← HDL.out, HSA.out]; simp
            · rw [if_neg e, HDN.out i (by omega)]
              have : i < done.length := by rw [HDL.out]; omega
              simp [List.getD, List.getElem?_append_left this]), HQB, HQ2, HQ4⟩
          case measure => simp [intOf]; omega
        · have hj3' : ¬ (j : Int) < 3 := by omega
          have HNL : Hid ((parts l).length ≠ 4) := Lib.hid (by
            rw [HPT'.out, HPR.out, List.length_append, List.length_cons, HDL.out]
            have := sp_ne b []
            show j + ((sp [] b).length + 1) ≠ 4
            omega)
          have HST : Hid (VAt ((wr.drewN n).setRow P2 #[.int .i64 0, .int .i64 0, .int .i64 0, .int .i64 0]) P2 (fun _ => 0)) := Lib.hid (setRow_heap (wr.drewN n) P2 _ _ _ _ HP2'.out)
          have HBF : Hid (Below w.heap.size w ((wr.drewN n).setRow P2 #[.int .i64 0, .int .i64 0, .int .i64 0, .int .i64 0])) := Lib.hid (HB'.out.trans (((Chg.refl (fun k => k = P2) (wr.drewN n)).setRow (.inr rfl) _).below HB'.out.size (fun k hk e => by have := HP.out; omega)))
          clear HB' HP2' HP4'
          go_wp2_with (refine wpList_store_row rfl 23 (.tmp 2) (.tmp 22) rfl P2 _ rfl rfl 23 _ HP2''.out (by kernel_rfl) rfl (by simp [Value.oneCell']) ?_)
          refine bodyPost_ret (v := .tuple #[.agg #[.int .i64 0, .int .i64 0, .int .i64 0, .int .i64 0], .int .i64 11]) (results_vece Tryd.results22 _ _ P2 (fun _ => 0) rfl HST.out) rfl ⟨?_, HBF.out⟩
          simp [readV, readE, HNL.out]
    · have hj4' : j = 4 := by omega
      have hj5 : ¬ (j : Int) < 4 := by omega
      have HE : Hid (parts l = done ∧ (parts l).length = 4) := Lib.hid (by
        have := HPT.out
        rw [if_neg hj4, List.append_nil] at this
        exact ⟨this, by rw [this, HDL.out, hj4']⟩)
      have HDV : Hid (∀ i, i < 4 → d i = pv l i) := Lib.hid (fun i hi => by unfold pv; rw [HE.out.1]; exact HDN.out i (by omega))
      clear hj4' HPT HDN HDL
      go_wp2_with (refine wpList_load_row rfl 23 _ rfl (P2 + 1) rfl 23 _ (0, 0) _ HV4.out Tryd.underlying23 rfl (by kernel_rfl) ?_)
      refine (told_any d 11 wr).mono ?_
      rintro e w2 ⟨rfl, hb⟩
      have HB2 := Lib.hid (HB.out.trans (hb.mono HB.out.size))
      have HV22 := Lib.hid (HV2.out.below hb (ltb HV2.out))
      clear hb HB HV2 HV4
      have HST : Hid (VAt (w2.setRow P2 #[.int .i64 (toldV true d 0), .int .i64 (toldV true d 1), .int .i64 (toldV true d 2), .int .i64 (toldV true d 3)]) P2 (toldV true d)) := Lib.hid (setRow_heap w2 P2 _ _ _ _ HV22.out)
      have HBF : Hid (Below w.heap.size w (w2.setRow P2 #[.int .i64 (toldV true d 0), .int .i64 (toldV true d 1), .int .i64 (toldV true d 2), .int .i64 (toldV true d 3)])) := Lib.hid (HB2.out.trans (((Chg.refl (fun k => k = P2) w2).setRow (.inr rfl) _).below HB2.out.size (fun k hk e => by have := HP.out; omega)))
      go_wp2_with (refine wpList_store_row rfl 23 (.tmp 2) (.tmp 31) rfl P2 _ rfl rfl 23 _ HV22.out (by kernel_rfl) rfl (by simp [Value.oneCell']) ?_)
      refine bodyPost_ret (v := .tuple #[.agg #[.int .i64 (toldV true d 0), .int .i64 (toldV true d 1), .int .i64 (toldV true d 2), .int .i64 (toldV true d 3)], .int .i64 (toldE true d 11)]) (results_vece Tryd.results22 _ _ P2 (toldV true d) rfl HST.out) rfl ⟨?_, HBF.out⟩
      have hok := okv_congr4 HDV.out
      have hd := HDV.out
      simp [readV, readE, HE.out.2, toldV, toldE, hok, hd 0 (by decide), hd 1 (by decide), hd 2 (by decide), hd 3 (by decide)]
end Go.Proofs.YtfbmjejkhnopiaaDoor
