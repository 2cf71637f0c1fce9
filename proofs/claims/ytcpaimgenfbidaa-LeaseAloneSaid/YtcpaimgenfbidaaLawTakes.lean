/- The law LeaseTakes: the walk. -/
import Derived.Test.YtcpaimgenfbidaaAwake
import Derived.Deep.RegionHeld3
namespace Go.Proofs.Ytcpaimgenfbidaa
open Go.RowKit

theorem keepA {w : World} {o : Obj} {p : Addr} {v : Value} (h : w.cell? p = some v) : (w.alloc o).cell? p = some v := ((Chg.refl NoBlk w).alloc o).cell h (fun h => h)
theorem keepD {w : World} {p : Addr} {v : Value} (h : w.cell? p = some v) : w.drew.cell? p = some v := h
theorem DiskAt.drew {w : World} {g : Nat} {c : Cl} (h : DiskAt w g c) : DiskAt w.drew g c := h

set_option maxHeartbeats 4000000 in
theorem law_takes (c : Cl) (h n : Int) (w : World) (b1 : -9223372036854775808 ≤ c.e) (b2 : -9223372036854775808 ≤ c.u) :
    Calls Try.prog 3 #[.agg #[.int .i64 c.e, .int .i64 c.h, .int .i64 c.u], .int .i64 h, .int .i64 n] w fun e w' => e = .returned (.bool true) ∧ Below w.heap.size w w' := by
  obtain ⟨N, hN⟩ : ∃ N, N = w.heap.size := ⟨_, rfl⟩
  have HN := Lib.hid hN; clear hN
  have hba : Below w.heap.size w (w.alloc (.cells #[.int .i64 c.e, .int .i64 c.h, .int .i64 c.u] 23)) := (Below.refl _ _).alloc (Nat.le_refl _) _
  have HBA := Lib.hid hba; clear hba
  have HC0 := Lib.hid (C3.new w c)
  go_enter Try.func3, Try.ntmps3
  go_wp2_with fail
  refine (awake_any _).mono ?_
  rintro e w1 ⟨rfl, hb1⟩
  have HB1 := Lib.hid (HBA.out.trans (hb1.mono (by simp)))
  have HC1 := Lib.hid (HC0.out.chg (Chg.of_below (S := NoBlk) hb1) (fun h => h))
  have hs1 : w.heap.size + 1 ≤ w1.heap.size := by have := hb1.size; simpa using this
  clear hb1
  go_wp2_with fail
  refine (new_any 9 w1).mono ?_
  rintro e w2 ⟨rfl, hd2, hb2⟩
  obtain ⟨g, hg⟩ : ∃ g, g = w1.heap.size := ⟨_, rfl⟩
  rw [← hg] at hd2 ⊢
  have hgw : w.heap.size + 1 ≤ g := by omega
  have HB2 := Lib.hid (HB1.out.trans (hb2.mono (by omega)))
  have HC2 := Lib.hid (HC1.out.chg (Chg.of_below (S := NoBlk) hb2) (fun h => h))
  have HD2 := Lib.hid hd2
  have hg2 : g < w2.heap.size := hd2.lt
  obtain ⟨_, k0, k1, k2⟩ := HC2.out
  clear hb2 hd2 hg
  go_wp2_with fail
  refine (swap_any g ⟨0, 0, 0⟩ ⟨0, 0, 0⟩ c w2 HD2.out).mono ?_
  rintro e w3 ⟨rfl, hd3, hch3⟩
  have HC3 := Lib.hid (HC2.out.chg hch3 (by omega))
  have HB3 := Lib.hid (HB2.out.trans (hch3.below (B := w.heap.size) (by omega) (fun k hk e => by omega)))
  clear k0 k1 k2
  obtain ⟨_, k0, k1, k2⟩ := HC3.out
  obtain ⟨s, hs⟩ : ∃ s, s = swapC ⟨0, 0, 0⟩ ⟨0, 0, 0⟩ c := ⟨_, rfl⟩
  rw [← hs] at hd3
  have hsb : 0 ≤ s.e ∧ -9223372036854775808 ≤ s.u := by
    rw [hs]; unfold swapC swapE
    by_cases h1 : c.e < 0 ∨ 1099511627776 < c.e
    · rw [if_pos h1, if_neg (by decide)]; exact ⟨by decide, by decide⟩
    · rw [if_neg h1, if_pos rfl, if_pos rfl]; exact ⟨by omega, b2⟩
  obtain ⟨sb1, sb2⟩ := hsb
  have hg3 : g < w3.heap.size := hd3.lt
  have hE : swapE ⟨0, 0, 0⟩ ⟨0, 0, 0⟩ c = 0 ∨ (swapE ⟨0, 0, 0⟩ ⟨0, 0, 0⟩ c = 1 ∧ (c.e < 0 ∨ 1099511627776 < c.e)) := by
    unfold swapE
    by_cases h1 : c.e < 0 ∨ 1099511627776 < c.e
    · rw [if_pos h1]; exact .inr ⟨rfl, h1⟩
    · rw [if_neg h1, if_pos rfl]; exact .inl rfl
  have HD3 := Lib.hid hd3
  have HE := Lib.hid hE
  clear hd3 hch3 hs hE
  go_wp2_with fail
  refine (claim_any g s w3 HD3.out).mono ?_
  rintro e w' ⟨rfl, rfl⟩
  have hn4 : Chg NoBlk w3 ((w3.alloc (.cells #[.int .i64 s.e, .int .i64 s.h, .int .i64 s.u] 23)).alloc (.cells #[.int .i64 s.e, .int .i64 s.h, .int .i64 s.u] 23)) := ((Chg.refl _ _).alloc _).alloc _
  have hb4 : Below w.heap.size w ((w3.alloc (.cells #[.int .i64 s.e, .int .i64 s.h, .int .i64 s.u] 23)).alloc (.cells #[.int .i64 s.e, .int .i64 s.h, .int .i64 s.u] 23)) := (HB3.out.alloc (by omega) _).alloc (by simp; omega) _
  have hc4 : C3 ((w3.alloc (.cells #[.int .i64 s.e, .int .i64 s.h, .int .i64 s.u] 23)).alloc (.cells #[.int .i64 s.e, .int .i64 s.h, .int .i64 s.u] 23)) (w3.heap.size + 1) s := by
    have := C3.new (w3.alloc (.cells #[.int .i64 s.e, .int .i64 s.h, .int .i64 s.u] 23)) s
    simpa using this
  have HD4 := Lib.hid (HD3.out.chg hn4 (fun h => h))
  have HB4 := Lib.hid hb4
  have HC4 := Lib.hid hc4
  clear hn4 hb4 hc4
  have key : ∀ E : Int, (E = 0 ∨ (E = 1 ∧ (c.e < 0 ∨ 1099511627776 < c.e))) → ((E != 0) = false ∨ ((E != 0) = true ∧ (c.e < 0 ∨ 1099511627776 < c.e))) := by
    rintro E (rfl | ⟨rfl, h⟩)
    · exact .inl rfl
    · exact .inr ⟨rfl, h⟩
  have hK := key _ HE.out
  clear key
  generalize swapE ⟨0, 0, 0⟩ ⟨0, 0, 0⟩ c = E at hK ⊢
  clear HE
  rcases hK with hE0 | ⟨hE1, hbad | hbad⟩
  all_goals
    go_wp2_with fail
    generalize (w3.alloc (.cells #[.int .i64 s.e, .int .i64 s.h, .int .i64 s.u] 23)).alloc (.cells #[.int .i64 s.e, .int .i64 s.h, .int .i64 s.u] 23) = w4 at HD4 HB4 HC4 ⊢
    refine (take_any g s h n w4 HD4.out (by omega) sb2).mono ?_
    rintro e w5 ⟨rfl, hd5, hch5⟩
    obtain ⟨X, hX⟩ : ∃ X, X = takeC s h n := ⟨_, rfl⟩
    obtain ⟨F, hF⟩ : ∃ F, F = takeE s h n := ⟨_, rfl⟩
    have hr := rtake_any s h n (w5.alloc (.cells #[.int .i64 X.e, .int .i64 X.h, .int .i64 X.u] 23)) (by omega) sb2
    rw [← hX, ← hF] at hr ⊢
    have HR := Lib.hid hr
    have HX := Lib.hid hX
    have HF := Lib.hid hF
    have h45 : w4.heap.size ≤ w5.heap.size := hch5.size
    have h4s : w3.heap.size + 1 < w4.heap.size := HC4.out.1
    have hg5 : g < w5.heap.size := hd5.lt
    have HC5 := Lib.hid (HC4.out.chg hch5 (by omega))
    have HB5 := Lib.hid (HB4.out.trans (hch5.below (B := w.heap.size) (by have := HB4.out.size; omega) (fun k hk e => by omega)))
    have HD5 := Lib.hid hd5
    obtain ⟨_, m0, m1, m2⟩ := HC5.out
    clear hr hX hF hd5 hch5 k0 k1 k2
    go_wp2_with fail
    refine HR.out.mono ?_
    rintro e w6 ⟨rfl, hb6⟩
    have hch6 : Chg NoBlk w5 w6 := ((Chg.refl NoBlk w5).alloc _).trans (Chg.of_below hb6)
    have h56 : w5.heap.size + 1 ≤ w6.heap.size := by have := hb6.size; simpa using this
    have HX6 := Lib.hid ((C3.new w5 X).chg (Chg.of_below (S := NoBlk) hb6) (fun h => h))
    have HC6 := Lib.hid (HC5.out.chg hch6 (fun h => h))
    have HD6 := Lib.hid (HD5.out.chg hch6 (fun h => h))
    have HB6 := Lib.hid (HB5.out.trans (hch6.below (B := w.heap.size) (by have := HB5.out.size; omega) (fun k hk e => e)))
    obtain ⟨_, x0, x1, x2⟩ := HX6.out
    have hg6 : g < w6.heap.size := by omega
    clear m0 m1 m2 HR hb6 hch6
    have hf1 : (F != F) = false := by simp
    have hlt1 : w5.heap.size < w6.heap.size := by omega
    have hlt2 : w5.heap.size < w6.heap.size + 1 := by omega
    have hlt3 : w5.heap.size < w6.heap.size + 1 + 1 := by omega
    have hw6 : w.heap.size ≤ w6.heap.size := HB6.out.size
    have hn7 : Chg NoBlk w6 (w6.alloc (.cells #[.int .i64 X.e, .int .i64 X.h, .int .i64 X.u] 23)) := (Chg.refl _ _).alloc _
    have HD7 := Lib.hid (HD6.out.chg hn7 (fun h => h))
    have HX7 := Lib.hid (HX6.out.chg hn7 (fun h => h))
    have HC7 := Lib.hid (HC6.out.chg hn7 (fun h => h))
    have HB7 := Lib.hid (HB6.out.trans (hn7.below (B := w.heap.size) (by omega) (fun k hk e => e)))
    clear hn7
    by_cases hF0 : F = 0
    · have q : (F != 0) = false := by rw [hF0]; rfl
      have eD : takeD s h n = X := by unfold takeD; rw [if_pos (by rw [← HF.out]; exact hF0)]; exact HX.out.symm
      have eX : X = ⟨s.e + 1, h, n + 40⟩ := by rw [HX.out]; unfold takeC; rw [if_pos (by rw [← HF.out]; exact hF0)]
      have eL : leadsS X n = true := by rw [eX]; simp [leadsS]; omega
      rw [eD] at HD7
      have EL := Lib.hid eL
      clear eD eX eL hF0
      go_wp2_with fail
      go_region_held3 (fun w' => w'.cell? ⟨w5.heap.size, 0, none⟩ = some (.int .i64 X.e) ∧ w'.cell? ⟨w5.heap.size, 1, none⟩ = some (.int .i64 X.h) ∧ w'.cell? ⟨w5.heap.size, 2, none⟩ = some (.int .i64 X.u)) (refine ⟨?_, ?_, ?_⟩ <;> (repeat (first | with_reducible exact x0 | with_reducible exact x1 | with_reducible exact x2 | with_reducible apply keepD | with_reducible apply keepA)))
        (first
          | (go_at_call 11; refine (claim_any g X _ HD7.out.drew).mono ?_; rintro e w' ⟨rfl, rfl⟩)
          | (go_at_call 14; refine (leads_any X n _).mono ?_; rintro e w' ⟨rfl, rfl⟩; rw [EL.out]))
      go_wp2_with fail
      go_ret
      exact ⟨rfl, by repeat (first | exact HB7.out | apply Below.drew | refine Below.alloc ?_ (by simp <;> omega) _)⟩
    · have q : (F != 0) = true := by rw [bne_iff_ne]; exact hF0
      have eD : takeD s h n = s := by unfold takeD; rw [if_neg (by rw [← HF.out]; exact hF0)]
      rw [eD] at HD7
      clear eD hF0
      obtain ⟨_, y0, y1, y2⟩ := HC6.out
      go_wp2_with fail
      go_region_held3 (fun w' => w'.cell? ⟨w3.heap.size + 1, 0, none⟩ = some (.int .i64 s.e) ∧ w'.cell? ⟨w3.heap.size + 1, 1, none⟩ = some (.int .i64 s.h) ∧ w'.cell? ⟨w3.heap.size + 1, 2, none⟩ = some (.int .i64 s.u)) (go_keep)
        ((go_at_call 11; refine (claim_any g s _ HD7.out.drew).mono ?_; rintro e w' ⟨rfl, rfl⟩))
      go_wp2_with fail
      go_ret
      exact ⟨rfl, by repeat (first | exact HB7.out | apply Below.drew | refine Below.alloc ?_ (by simp <;> omega) _)⟩
end Go.Proofs.Ytcpaimgenfbidaa
