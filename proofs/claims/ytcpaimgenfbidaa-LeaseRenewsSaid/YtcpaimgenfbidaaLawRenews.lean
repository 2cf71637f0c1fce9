/- The law LeaseRenews: the walk. -/
import Derived.Test.YtcpaimgenfbidaaLawTakes
import Derived.Test.YtcpaimgenfbidaaRenew
import Derived.Deep.RegionHeld3
namespace Go.Proofs.Ytcpaimgenfbidaa
open Go.RowKit

set_option maxHeartbeats 4000000 in
theorem law_renews (o c : Cl) (n : Int) (w : World) (b2 : -9223372036854775808 ≤ c.u) :
    Calls Try.prog 5 #[.agg #[.int .i64 o.e, .int .i64 o.h, .int .i64 o.u], .agg #[.int .i64 c.e, .int .i64 c.h, .int .i64 c.u], .int .i64 n] w fun e w' => e = .returned (.bool true) ∧ Below w.heap.size w w' := by
  have hba : Below w.heap.size w ((w.alloc (.cells #[.int .i64 o.e, .int .i64 o.h, .int .i64 o.u] 23)).alloc (.cells #[.int .i64 c.e, .int .i64 c.h, .int .i64 c.u] 23)) := ((Below.refl _ _).alloc (Nat.le_refl _) _).alloc (by simp) _
  have HBA := Lib.hid hba; clear hba
  have HO0 := Lib.hid ((C3.new w o).chg ((Chg.refl NoBlk _).alloc (.cells #[.int .i64 c.e, .int .i64 c.h, .int .i64 c.u] 23)) (fun h => h))
  have HC0 : Hid (C3 ((w.alloc (.cells #[.int .i64 o.e, .int .i64 o.h, .int .i64 o.u] 23)).alloc (.cells #[.int .i64 c.e, .int .i64 c.h, .int .i64 c.u] 23)) (w.heap.size + 1) c) := Lib.hid (by simpa using C3.new (w.alloc (.cells #[.int .i64 o.e, .int .i64 o.h, .int .i64 o.u] 23)) c)
  go_enter Try.func5, Try.ntmps5
  go_wp2_with fail
  refine (awake_any _).mono ?_
  rintro e w1 ⟨rfl, hb1⟩
  have HB1 := Lib.hid (HBA.out.trans (hb1.mono (by simp <;> omega)))
  have HC1 := Lib.hid (HC0.out.chg (Chg.of_below (S := NoBlk) hb1) (fun h => h))
  have HO1 := Lib.hid (HO0.out.chg (Chg.of_below (S := NoBlk) hb1) (fun h => h))
  have hs1 : w.heap.size + 2 ≤ w1.heap.size := by have := hb1.size; simpa using this
  clear hb1
  go_wp2_with fail
  refine (new_any 9 w1).mono ?_
  rintro e w2 ⟨rfl, hd2, hb2⟩
  obtain ⟨g, hg⟩ : ∃ g, g = w1.heap.size := ⟨_, rfl⟩
  rw [← hg] at hd2 ⊢
  have hgw : w.heap.size + 2 ≤ g := by omega
  have HB2 := Lib.hid (HB1.out.trans (hb2.mono (by omega)))
  have HC2 := Lib.hid (HC1.out.chg (Chg.of_below (S := NoBlk) hb2) (fun h => h))
  have HO2 := Lib.hid (HO1.out.chg (Chg.of_below (S := NoBlk) hb2) (fun h => h))
  have HD2 := Lib.hid hd2
  have hg2 : g < w2.heap.size := hd2.lt
  obtain ⟨_, k0, k1, k2⟩ := HO2.out
  clear hb2 hd2 hg HO0 HO1 HO2
  go_wp2_with fail
  refine (swap_any g ⟨0, 0, 0⟩ ⟨0, 0, 0⟩ o w2 HD2.out).mono ?_
  rintro e w3 ⟨rfl, hd3, hch3⟩
  have HC3 := Lib.hid (HC2.out.chg hch3 (by omega))
  have HB3 := Lib.hid (HB2.out.trans (hch3.below (B := w.heap.size) (by omega) (fun k hk e => by omega)))
  clear k0 k1 k2
  obtain ⟨s, hs⟩ : ∃ s, s = swapC ⟨0, 0, 0⟩ ⟨0, 0, 0⟩ o := ⟨_, rfl⟩
  rw [← hs] at hd3
  have hg3 : g < w3.heap.size := hd3.lt
  have HD3 := Lib.hid hd3
  generalize swapE ⟨0, 0, 0⟩ ⟨0, 0, 0⟩ o = E
  clear hd3 hch3 hs
  go_wp2_with fail
  refine (claim_any g s w3 HD3.out).mono ?_
  rintro e w' ⟨rfl, rfl⟩
  have hn4 : Chg NoBlk w3 ((w3.alloc (.cells #[.int .i64 s.e, .int .i64 s.h, .int .i64 s.u] 23)).alloc (.cells #[.int .i64 s.e, .int .i64 s.h, .int .i64 s.u] 23)) := ((Chg.refl _ _).alloc _).alloc _
  have hb4 : Below w.heap.size w ((w3.alloc (.cells #[.int .i64 s.e, .int .i64 s.h, .int .i64 s.u] 23)).alloc (.cells #[.int .i64 s.e, .int .i64 s.h, .int .i64 s.u] 23)) := (HB3.out.alloc (by omega) _).alloc (by simp; omega) _
  have hc4 : C3 ((w3.alloc (.cells #[.int .i64 s.e, .int .i64 s.h, .int .i64 s.u] 23)).alloc (.cells #[.int .i64 s.e, .int .i64 s.h, .int .i64 s.u] 23)) (w3.heap.size + 1) s := by
    have := C3.new (w3.alloc (.cells #[.int .i64 s.e, .int .i64 s.h, .int .i64 s.u] 23)) s
    simpa using this
  have HD4 := Lib.hid (HD3.out.chg hn4 (fun h => h))
  have HP4 := Lib.hid (HC3.out.chg hn4 (fun h => h))
  have HB4 := Lib.hid hb4
  have HC4 := Lib.hid hc4
  obtain ⟨_, k0, k1, k2⟩ := HP4.out
  clear hn4 hb4 hc4
  go_wp2_with fail
  generalize (w3.alloc (.cells #[.int .i64 s.e, .int .i64 s.h, .int .i64 s.u] 23)).alloc (.cells #[.int .i64 s.e, .int .i64 s.h, .int .i64 s.u] 23) = w4 at HD4 HB4 HC4 HP4 k0 k1 k2 ⊢
  refine (renew_any g s c n w4 HD4.out).mono ?_
  rintro e w5 ⟨rfl, hd5, hch5⟩
  obtain ⟨X, hX⟩ : ∃ X, X = renewC s c n := ⟨_, rfl⟩
  obtain ⟨F, hF⟩ : ∃ F, F = renewE s c n := ⟨_, rfl⟩
  have hr := rrenew_any s c n (w5.alloc (.cells #[.int .i64 X.e, .int .i64 X.h, .int .i64 X.u] 23)) b2
  rw [← hX, ← hF] at hr ⊢
  have HR := Lib.hid hr
  have HX := Lib.hid hX
  have HF := Lib.hid hF
  have h45 : w4.heap.size ≤ w5.heap.size := hch5.size
  have h4s : w3.heap.size + 1 < w4.heap.size := HC4.out.1
  have hg5 : g < w5.heap.size := hd5.lt
  have HC5 := Lib.hid (HC4.out.chg hch5 (by omega))
  have HP5 := Lib.hid (HP4.out.chg hch5 (by omega))
  have HB5 := Lib.hid (HB4.out.trans (hch5.below (B := w.heap.size) (by have := HB4.out.size; omega) (fun k hk e => by omega)))
  have HD5 := Lib.hid hd5
  obtain ⟨_, m0, m1, m2⟩ := HC5.out
  clear k0 k1 k2
  obtain ⟨_, k0, k1, k2⟩ := HP5.out
  clear hr hX hF hd5 hch5
  go_wp2_with fail
  refine HR.out.mono ?_
  rintro e w6 ⟨rfl, hb6⟩
  have hch6 : Chg NoBlk w5 w6 := ((Chg.refl NoBlk w5).alloc _).trans (Chg.of_below hb6)
  have h56 : w5.heap.size + 1 ≤ w6.heap.size := by have := hb6.size; simpa using this
  have hn7 : Chg NoBlk w6 (w6.alloc (.cells #[.int .i64 X.e, .int .i64 X.h, .int .i64 X.u] 23)) := (Chg.refl _ _).alloc _
  have HX7 := Lib.hid (((C3.new w5 X).chg (Chg.of_below (S := NoBlk) hb6) (fun h => h)).chg hn7 (fun h => h))
  have HY7 := Lib.hid (C3.new w6 X)
  have HC7 := Lib.hid ((HC5.out.chg hch6 (fun h => h)).chg hn7 (fun h => h))
  have HP7 := Lib.hid ((HP5.out.chg hch6 (fun h => h)).chg hn7 (fun h => h))
  have HD7 := Lib.hid ((HD5.out.chg hch6 (fun h => h)).chg hn7 (fun h => h))
  have HB7 := Lib.hid ((HB5.out.trans (hch6.below (B := w.heap.size) (by have := HB5.out.size; omega) (fun k hk e => e))).trans (hn7.below (B := w.heap.size) (by have := HB5.out.size; omega) (fun k hk e => e)))
  clear m0 m1 m2 k0 k1 k2 HR hb6 hch6 hn7
  have hf1 : (F != F) = false := by simp
  have hl1 : (leadsS c n != leadsS c n) = false := by simp
  go_wp2_with fail
  have hp6 : w5.heap.size < w6.heap.size := by omega
  generalize w6.alloc (.cells #[.int .i64 X.e, .int .i64 X.h, .int .i64 X.u] 23) = w7 at HX7 HY7 HC7 HP7 HD7 HB7 ⊢
  obtain ⟨_, x0, x1, x2⟩ := HX7.out
  obtain ⟨_, y0, y1, y2⟩ := HY7.out
  obtain ⟨_, p0, p1, p2⟩ := HP7.out
  go_region_held3 (fun w' => w'.cell? ⟨w5.heap.size, 0, none⟩ = some (.int .i64 X.e) ∧ w'.cell? ⟨w5.heap.size, 1, none⟩ = some (.int .i64 X.h) ∧ w'.cell? ⟨w5.heap.size, 2, none⟩ = some (.int .i64 X.u) ∧
      w'.cell? ⟨w6.heap.size, 0, none⟩ = some (.int .i64 X.e) ∧ w'.cell? ⟨w6.heap.size, 1, none⟩ = some (.int .i64 X.h) ∧ w'.cell? ⟨w6.heap.size, 2, none⟩ = some (.int .i64 X.u) ∧
      w'.cell? ⟨w.heap.size + 1, 0, none⟩ = some (.int .i64 c.e) ∧ w'.cell? ⟨w.heap.size + 1, 1, none⟩ = some (.int .i64 c.h) ∧ w'.cell? ⟨w.heap.size + 1, 2, none⟩ = some (.int .i64 c.u))
    (refine ⟨?_, ?_, ?_, ?_, ?_, ?_, ?_, ?_, ?_⟩ <;> (repeat (first | with_reducible exact x0 | with_reducible exact x1 | with_reducible exact x2 | with_reducible exact y0 | with_reducible exact y1 | with_reducible exact y2 | with_reducible exact p0 | with_reducible exact p1 | with_reducible exact p2 | with_reducible apply keepD | with_reducible apply keepA)))
    (first
      | (go_at_call 14; refine (leads_any c n _).mono ?_; rintro e w' ⟨rfl, rfl⟩)
      | (go_at_call 23; refine (rleads_any c n _).mono ?_; rintro e w' ⟨rfl, rfl⟩))
  have hn8 : Chg NoBlk w7 ((w7.alloc (.cells #[.int .i64 c.e, .int .i64 c.h, .int .i64 c.u] 23)).alloc (.cells #[.int .i64 c.e, .int .i64 c.h, .int .i64 c.u] 23)).drew := (((Chg.refl NoBlk w7).alloc _).alloc _).drewN 1
  have HX8 := Lib.hid (HX7.out.chg hn8 (fun h => h))
  have HC8 := Lib.hid (HC7.out.chg hn8 (fun h => h))
  have HD8 := Lib.hid (HD7.out.chg hn8 (fun h => h))
  have HB8 := Lib.hid (HB7.out.trans (hn8.below (B := w.heap.size) HB7.out.size (fun k hk e => e)))
  clear hn8 x0 x1 x2 y0 y1 y2 p0 p1 p2
  generalize ((w7.alloc (.cells #[.int .i64 c.e, .int .i64 c.h, .int .i64 c.u] 23)).alloc (.cells #[.int .i64 c.e, .int .i64 c.h, .int .i64 c.u] 23)).drew = w8 at HX8 HC8 HD8 HB8 ⊢
  have hB8s := HB8.out.size
  by_cases hF0 : F = 0
  · have q : (F != 0) = false := by rw [hF0]; rfl
    have eD : renewD s c n = X := by unfold renewD; rw [if_pos (by rw [← HF.out]; exact hF0)]; exact HX.out.symm
    rw [eD] at HD8
    clear eD hF0
    obtain ⟨_, x0, x1, x2⟩ := HX8.out
    go_wp2_with fail
    go_region_held3 (fun w' => w'.cell? ⟨w5.heap.size, 0, none⟩ = some (.int .i64 X.e) ∧ w'.cell? ⟨w5.heap.size, 1, none⟩ = some (.int .i64 X.h) ∧ w'.cell? ⟨w5.heap.size, 2, none⟩ = some (.int .i64 X.u))
      (refine ⟨?_, ?_, ?_⟩ <;> (repeat (first | with_reducible exact x0 | with_reducible exact x1 | with_reducible exact x2 | with_reducible apply keepD | with_reducible apply keepA)))
      ((go_at_call 11; refine (claim_any g X _ HD8.out.drew).mono ?_; rintro e w' ⟨rfl, rfl⟩))
    go_wp2_with fail
    go_ret
    exact ⟨rfl, by repeat (first | exact HB8.out | apply Below.drew | refine Below.alloc ?_ (by first | exact hB8s | (simp; omega)) _)⟩
  · have q : (F != 0) = true := by rw [bne_iff_ne]; exact hF0
    have eD : renewD s c n = s := by unfold renewD; rw [if_neg (by rw [← HF.out]; exact hF0)]
    rw [eD] at HD8
    clear eD hF0
    obtain ⟨_, x0, x1, x2⟩ := HC8.out
    go_wp2_with fail
    go_region_held3 (fun w' => w'.cell? ⟨w3.heap.size + 1, 0, none⟩ = some (.int .i64 s.e) ∧ w'.cell? ⟨w3.heap.size + 1, 1, none⟩ = some (.int .i64 s.h) ∧ w'.cell? ⟨w3.heap.size + 1, 2, none⟩ = some (.int .i64 s.u))
      (refine ⟨?_, ?_, ?_⟩ <;> (repeat (first | with_reducible exact x0 | with_reducible exact x1 | with_reducible exact x2 | with_reducible apply keepD | with_reducible apply keepA)))
      ((go_at_call 11; refine (claim_any g s _ HD8.out.drew).mono ?_; rintro e w' ⟨rfl, rfl⟩))
    go_wp2_with fail
    go_ret
    exact ⟨rfl, by repeat (first | exact HB8.out | apply Below.drew | refine Below.alloc ?_ (by first | exact hB8s | (simp; omega)) _)⟩
end Go.Proofs.Ytcpaimgenfbidaa
