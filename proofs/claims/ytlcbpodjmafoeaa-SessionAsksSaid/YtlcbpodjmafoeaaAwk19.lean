/- The document's examples hold. -/
import Derived.Test.YtlcbpodjmafoeaaLook2
import Derived.Test.YtlcbpodjmafoeaaDone19
import Derived.Test.YtlcbpodjmafoeaaStateC
namespace Go.Proofs.Ytlcbpodjmafoeaa
open Go.RowKit

def askV (ep id sq : Int) : Nat → Int := fun i => if i = 0 then 7 else if i = 1 then ep else if i = 15 then id else if i = 16 then sq else 0
theorem okA0 : OkL [⟨1, 0, 1099511627776⟩, ⟨15, 1, 16⟩, ⟨16, 1, 1099511627776⟩] (askV 0 1 1) 1 4096 := by
  unfold OkL Nil zap noL fitV askV
  simp [okb]
theorem okA3 : OkL [⟨1, 0, 1099511627776⟩, ⟨15, 1, 16⟩, ⟨16, 1, 1099511627776⟩] (askV 3 1 1) 1 4096 := by
  unfold OkL Nil zap noL fitV askV
  simp [okb]
theorem okR190 : OkR 3 1 1 190 0 0 := by
  unfold OkR OkL Nil zap noL fitV repV
  simp [okb]
theorem okR4 : OkR 3 1 1 0 4 0 := by
  unfold OkR OkL Nil zap noL fitV repV
  simp [okb]
theorem wf1 : (Lit.int .i64 1).wf = true := by decide

theorem CAt.grown {w w' : World} {g c : Nat} {s : Ct} {A : Option Addr} {M : Nat} (h : CAt w g s A c) (hg : w.grownBy w' (some M)) (hm : ∃ es clock, w.heap[M]? = some (.map es clock)) : CAt w' g s A c := by
  obtain ⟨es, clock, hm⟩ := hm
  refine ⟨(grown_block hg h.glt (fun e => by have := h.blk; rw [e, hm] at this; cases this)).trans h.blk, h.own.kept hg (.inr (fun e => by
    obtain ⟨cur, f, hk⟩ := own_elem h.own e
    rw [hm] at hk; cases hk))⟩
theorem SAt.chg {S : Nat → Prop} {w w' : World} {g : Nat} {ep : Int} {M n : Nat} {f : Int → Kp} (h : SAt w g ep M n f) (hc : Chg S w w') (h1 : ¬ S g) (h2 : ¬ S M) : SAt w' g ep M n f := by
  obtain ⟨D, hm, h3⟩ := h.map
  obtain ⟨es, clock, hb, h4⟩ := hm
  exact ⟨(hc.block g h.glt h1).trans h.blk, D, ⟨es, clock, (hc.block M (ltb hb) h2).trans hb, h4⟩, h3⟩
set_option maxRecDepth 100000 in
set_option maxHeartbeats 8000000 in
theorem awake_any (w : World) : Calls Try.prog 8 #[] w fun e w' => e = .returned (.bool true) ∧ Below w.heap.size w w' := by
  obtain ⟨gc, hgc⟩ : ∃ g, g = w.heap.size := ⟨_, rfl⟩
  have hnc := newc_any 1 w (by decide) (by decide)
  rw [← hgc] at hnc
  have HNC := Lib.hid hnc
  have HGC := Lib.hid hgc
  clear hnc hgc
  have kc := fun (w : World) (C : Array Value) (n c : Nat) => Lib.run_convert_bytes_const (P := Try.prog) w 31 5 C n c Try.underlying31 Try.underlying5
  go_enter Try.func8, Try.ntmps8
  go_wp2_with fail
  refine HNC.out.mono ?_
  clear HNC
  rintro e w1 ⟨rfl, hc, hb⟩
  have HC1 := Lib.hid hc
  have HB1 : Hid (Below w.heap.size w w1) := Lib.hid (by have := hb; rw [HGC.out] at this; exact this)
  clear hc hb
  obtain ⟨M, hM⟩ : ∃ M, M = w1.heap.size := ⟨_, rfl⟩
  have hns := news_any 3 w1 (by decide) (by decide)
  rw [← hM] at hns
  have HNS := Lib.hid hns
  have hs1 := HB1.out.size
  have hgM : gc < M := by have := HC1.out.glt; omega
  have hwM : w.heap.size ≤ M := by omega
  have HBM : Hid (∀ w2, Below M w1 w2 → Below w.heap.size w w2) := Lib.hid (fun w2 h => HB1.out.trans (h.mono hwM))
  have HCM : Hid (∀ w2, Below M w1 w2 → CAt w2 gc ⟨1, 0, 0, false, false, 0, []⟩ none 0) := Lib.hid (fun w2 h => HC1.out.below (by rw [← hM]; exact h))
  clear hns hM hs1
  go_wp2_with fail
  refine HNS.out.mono ?_
  clear HNS
  rintro e w2 ⟨rfl, hs, hb⟩
  have HC2 := Lib.hid (HCM.out w2 hb)
  have HS2 := Lib.hid hs
  have HB2 := Lib.hid (HBM.out w2 hb)
  clear hs hb HC1 HB1 HBM HCM
  obtain ⟨R, hR⟩ : ∃ R, R = w2.heap.size := ⟨_, rfl⟩
  have hal : Below w2.heap.size w2 (w2.alloc (.cells #[.int .u8 120] 5 (1, 2))) := (Below.refl _ _).alloc (Nat.le_refl _) _
  have hby := bytes_new w2 #[.int .u8 120] 5 (1, 2) [120] 1 rfl rfl (by decide)
  rw [← hR] at hby
  have HC3 := Lib.hid (HC2.out.below hal)
  have HS3 := Lib.hid (HS2.out.below hal)
  have HB3 := Lib.hid (HB2.out.trans (hal.mono HB2.out.size))
  have HBY3 := Lib.hid hby
  have hsR : (w2.alloc (.cells #[.int .u8 120] 5 (1, 2))).heap.size = R + 1 := by rw [hR]; simp
  have HSR := Lib.hid hsR
  have hMR : M + 1 < R := by have := HS2.out.glt; omega
  clear hal hby hsR HC2 HS2 HB2
  go_wp2_with fail
  clear kc
  rw [← hR]
  clear hR
  generalize w2.alloc (.cells #[.int .u8 120] 5 (1, 2)) = w3 at HC3 HS3 HB3 HBY3 HSR ⊢
  refine (ask_any gc 1 ⟨1, 0, 0, false, false, 0, []⟩ none 0 (some ⟨R, 0, none⟩) 1 [120] w3 HC3.out (HBY3.out.more (by rw [HSR.out]; exact Nat.le_refl _)) rfl (fun _ ad h => by injection h with h; rw [← h]; show R ≠ gc; omega) (by decide)).mono ?_
  rintro e w4 ⟨rfl, A4, c4, hc, hch⟩
  have HC4 : Hid (CAt w4 gc ⟨1, 1, 0, true, false, 0, [120]⟩ A4 c4) := Lib.hid hc
  have HS4 := Lib.hid (HS3.out.chg hch (by omega) (by omega))
  have hgw : w.heap.size ≤ gc := by rw [HGC.out]; exact Nat.le_refl _
  have HB4 := Lib.hid (HB3.out.trans (hch.below HB3.out.size (fun k hk e => by omega)))
  clear hc hch HC3 HS3 HB3 HBY3 HSR
  rw [show askE ⟨1, 0, 0, false, false, 0, []⟩ 1 = 0 from by decide]
  go_wp2_with fail
  refine (send_ok gc ⟨1, 1, 0, true, false, 0, [120]⟩ A4 c4 5 w4 HC4.out (by unfold SendNo; simp) (by decide) (by decide)).mono ?_
  rintro e w5 ⟨A5, c5, rfl, hc, ho, hch⟩
  have HC5 := Lib.hid hc
  have HO5 := Lib.hid ho
  have HS5 := Lib.hid (HS4.out.chg hch (by omega) (by omega))
  have HB5 := Lib.hid (HB4.out.trans (hch.below HB4.out.size (fun k hk e => by omega)))
  clear hc ho hch HC4 HS4 HB4

  have HK5 := Lib.hid (bytesIn_of_own HO5.out)
  have hal : Below w5.heap.size w5 (w5.alloc (.cells #[.int .i64 7, .int .i64 0, .int .i64 0, .int .i64 0, .int .i64 0, .int .i64 0, .int .i64 0, .int .i64 0, .int .i64 0, .int .i64 0, .int .i64 0, .int .i64 0, .int .i64 0, .int .i64 0, .int .i64 0, .int .i64 1, .int .i64 1, .slice A5 1 c5, .int .i64 0, .int .i64 0, .int .i64 0] 36)) := (Below.refl _ _).alloc (Nat.le_refl _) _
  have HC6 := Lib.hid (HC5.out.below hal)
  have HS6 := Lib.hid (HS5.out.below hal)
  have HB6 := Lib.hid (HB5.out.trans (hal.mono HB5.out.size))
  have HP6 := Lib.hid (heap_alloc_new w5 (.cells #[.int .i64 7, .int .i64 0, .int .i64 0, .int .i64 0, .int .i64 0, .int .i64 0, .int .i64 0, .int .i64 0, .int .i64 0, .int .i64 0, .int .i64 0, .int .i64 0, .int .i64 0, .int .i64 0, .int .i64 0, .int .i64 1, .int .i64 1, .slice A5 1 c5, .int .i64 0, .int .i64 0, .int .i64 0] 36))
  obtain ⟨P4, hP4⟩ : ∃ x, x = w5.heap.size := ⟨_, rfl⟩
  have hgP4 : gc < P4 ∧ M + 1 < P4 := by have := HC5.out.glt; have := HS5.out.glt; omega
  obtain ⟨hgP4, hmP4⟩ := hgP4
  clear hal HC5 HS5 HB5
  go_wp2_with (first | (refine wpList_store_row rfl 36 (.tmp 4) (.tmp 27) rfl w5.heap.size _ rfl rfl 36 _ (heap_alloc_new w5 _) (by kernel_rfl) rfl (by simp [Value.oneCell']) ?_; rw [World.setRow_alloc_new]) | (refine wpList_load_row rfl 36 _ rfl w5.heap.size rfl 36 _ (0, 0) _ HP6.out Try.underlying36 rfl (by kernel_rfl) ?_))
  rw [← hP4] at HP6
  rw [← hP4]
  clear hP4
  generalize w5.alloc (.cells #[.int .i64 7, .int .i64 0, .int .i64 0, .int .i64 0, .int .i64 0, .int .i64 0, .int .i64 0, .int .i64 0, .int .i64 0, .int .i64 0, .int .i64 0, .int .i64 0, .int .i64 0, .int .i64 0, .int .i64 0, .int .i64 1, .int .i64 1, .slice A5 1 c5, .int .i64 0, .int .i64 0, .int .i64 0] 36) = w6 at HC6 HS6 HB6 HP6  ⊢
  refine (look_ok (M + 1) 3 M 0 (fun _ => ⟨0, 0, 0, 0⟩) (askV 0 1 1) A5 1 c5 0 0 0 0 w6 HS6.out rfl okA0 wf1).mono ?_
  rintro e w7 ⟨hp, hb⟩
  unfold LookPost at hp
  rw [if_neg (by decide)] at hp
  obtain ⟨k, hk, rfl⟩ := hp
  obtain rfl : k = true := hk.2 okR190
  have HC7 := Lib.hid (HC6.out.below hb)
  have HS7 := Lib.hid (HS6.out.below hb)
  have HB7 := Lib.hid (HB6.out.trans (hb.mono HB6.out.size))
  have HP7 := Lib.hid ((hb.block P4 (ltb HP6.out)).trans HP6.out)
  clear hk hb HC6 HS6 HB6 HP6
  simp only [if_true, show askV 0 1 1 15 = 1 from rfl, show askV 0 1 1 16 = 1 from rfl]
  have HP8a := Lib.hid ((Below.heap_alloc w7 (.cells #[.int .i64 8, .int .i64 3, .int .i64 0, .int .i64 0, .int .i64 0, .int .i64 0, .int .i64 0, .int .i64 0, .int .i64 0, .int .i64 0, .int .i64 0, .int .i64 0, .int .i64 0, .int .i64 0, .int .i64 0, .int .i64 1, .int .i64 1, .slice none 0 0, .int .i64 190, .int .i64 0, .int .i64 0] 36) P4 (ltb HP7.out)).trans HP7.out)
  have hal : Below w7.heap.size w7 (w7.alloc (.cells #[.int .i64 8, .int .i64 3, .int .i64 0, .int .i64 0, .int .i64 0, .int .i64 0, .int .i64 0, .int .i64 0, .int .i64 0, .int .i64 0, .int .i64 0, .int .i64 0, .int .i64 0, .int .i64 0, .int .i64 0, .int .i64 1, .int .i64 1, .slice none 0 0, .int .i64 190, .int .i64 0, .int .i64 0] 36)) := (Below.refl _ _).alloc (Nat.le_refl _) _
  have HC8 := Lib.hid (HC7.out.below hal)
  have HS8 := Lib.hid (HS7.out.below hal)
  have HB8 := Lib.hid (HB7.out.trans (hal.mono HB7.out.size))
  have HP8 := Lib.hid (heap_alloc_new w7 (.cells #[.int .i64 8, .int .i64 3, .int .i64 0, .int .i64 0, .int .i64 0, .int .i64 0, .int .i64 0, .int .i64 0, .int .i64 0, .int .i64 0, .int .i64 0, .int .i64 0, .int .i64 0, .int .i64 0, .int .i64 0, .int .i64 1, .int .i64 1, .slice none 0 0, .int .i64 190, .int .i64 0, .int .i64 0] 36))
  obtain ⟨P7, hP7⟩ : ∃ x, x = w7.heap.size := ⟨_, rfl⟩
  have hgP7 : gc < P7 ∧ M + 1 < P7 := by have := HC7.out.glt; have := HS7.out.glt; omega
  obtain ⟨hgP7, hmP7⟩ := hgP7
  clear hal HC7 HS7 HB7
  go_wp2_with (first | (refine wpList_store_row rfl 36 (.tmp 7) (.tmp 35) rfl w7.heap.size _ rfl rfl 36 _ (heap_alloc_new w7 _) (by kernel_rfl) rfl (by simp [Value.oneCell']) ?_; rw [World.setRow_alloc_new]) | (refine wpList_load_row rfl 36 _ rfl w7.heap.size rfl 36 _ (0, 0) _ HP8.out Try.underlying36 rfl (by kernel_rfl) ?_))
  rw [← hP7] at HP8
  rw [← hP7]
  clear hP7
  generalize w7.alloc (.cells #[.int .i64 8, .int .i64 3, .int .i64 0, .int .i64 0, .int .i64 0, .int .i64 0, .int .i64 0, .int .i64 0, .int .i64 0, .int .i64 0, .int .i64 0, .int .i64 0, .int .i64 0, .int .i64 0, .int .i64 0, .int .i64 1, .int .i64 1, .slice none 0 0, .int .i64 190, .int .i64 0, .int .i64 0] 36) = w8 at HC8 HS8 HB8 HP8 HP8a ⊢
  refine (hear_asked gc ⟨1, 1, 0, true, true, 5, [120]⟩ A4 c4 (repV 3 1 1 190 0 0) none 0 0 w8 HC8.out ⟨rfl, rfl, rfl, rfl⟩).mono ?_
  rintro e w9 ⟨k, hk, rfl, hc, hch⟩
  obtain rfl : k = true := hk.2 okR190
  have HC9 : Hid (CAt w9 gc ⟨1, 1, 3, true, false, 5, [120]⟩ A4 c4) := Lib.hid hc
  have HS9 := Lib.hid (HS8.out.chg hch (by omega) (by omega))
  have HB9 := Lib.hid (HB8.out.trans (hch.below HB8.out.size (fun k hk e => by omega)))
  have HA9 := Lib.hid ((hch.block P4 (ltb HP8a.out) (by omega)).trans HP8a.out)
  have HE9 := Lib.hid ((hch.block P7 (ltb HP8.out) (by omega)).trans HP8.out)
  clear hk hc hch HC8 HS8 HB8 HP8 HP8a HP7 HK5 HO5
  rw [show hearK ⟨1, 1, 0, true, true, 5, [120]⟩ (repV 3 1 1 190 0 0) true = false from rfl]
  simp only [Bool.false_eq_true, if_false]
  have hal : Below w9.heap.size w9 (w9.alloc (.cells #[.int .i64 0, .int .i64 0, .int .i64 0] 34)) := (Below.refl _ _).alloc (Nat.le_refl _) _
  have HC10 := Lib.hid (HC9.out.below hal)
  have HS10 := Lib.hid (HS9.out.below hal)
  have HB10 := Lib.hid (HB9.out.trans (hal.mono HB9.out.size))
  have HA10 := Lib.hid ((hal.block P4 (ltb HA9.out)).trans HA9.out)
  have HE10 := Lib.hid ((hal.block P7 (ltb HE9.out)).trans HE9.out)
  clear hal HC9 HS9 HB9 HA9 HE9
  go_wp2_with fail
  generalize w9.alloc (.cells #[.int .i64 0, .int .i64 0, .int .i64 0] 34) = w10 at HC10 HS10 HB10 HA10 HE10 ⊢
  refine (send_ok gc ⟨1, 1, 3, true, false, 5, [120]⟩ A4 c4 5 w10 HC10.out (by unfold SendNo; simp) (by decide) (by decide)).mono ?_
  rintro e w11 ⟨A6, c6, rfl, hc, _, hch⟩
  have HC11 : Hid (CAt w11 gc ⟨1, 1, 3, true, true, 5, [120]⟩ A4 c4) := Lib.hid hc
  have HS11 := Lib.hid (HS10.out.chg hch (by omega) (by omega))
  have HB11 := Lib.hid (HB10.out.trans (hch.below HB10.out.size (fun k hk e => by omega)))
  have HA11 := Lib.hid ((hch.block P4 (ltb HA10.out) (by omega)).trans HA10.out)
  have HE11 := Lib.hid ((hch.block P7 (ltb HE10.out) (by omega)).trans HE10.out)
  clear hc hch HC10 HS10 HB10 HA10 HE10
  have HA12 := Lib.hid ((Below.heap_alloc w11 (.cells #[.int .i64 7, .int .i64 3, .int .i64 0, .int .i64 0, .int .i64 0, .int .i64 0, .int .i64 0, .int .i64 0, .int .i64 0, .int .i64 0, .int .i64 0, .int .i64 0, .int .i64 0, .int .i64 0, .int .i64 0, .int .i64 1, .int .i64 1, .slice A6 1 c6, .int .i64 0, .int .i64 0, .int .i64 0] 36) P4 (ltb HA11.out)).trans HA11.out)
  have HE12 := Lib.hid ((Below.heap_alloc w11 (.cells #[.int .i64 7, .int .i64 3, .int .i64 0, .int .i64 0, .int .i64 0, .int .i64 0, .int .i64 0, .int .i64 0, .int .i64 0, .int .i64 0, .int .i64 0, .int .i64 0, .int .i64 0, .int .i64 0, .int .i64 0, .int .i64 1, .int .i64 1, .slice A6 1 c6, .int .i64 0, .int .i64 0, .int .i64 0] 36) P7 (ltb HE11.out)).trans HE11.out)
  have hal : Below w11.heap.size w11 (w11.alloc (.cells #[.int .i64 7, .int .i64 3, .int .i64 0, .int .i64 0, .int .i64 0, .int .i64 0, .int .i64 0, .int .i64 0, .int .i64 0, .int .i64 0, .int .i64 0, .int .i64 0, .int .i64 0, .int .i64 0, .int .i64 0, .int .i64 1, .int .i64 1, .slice A6 1 c6, .int .i64 0, .int .i64 0, .int .i64 0] 36)) := (Below.refl _ _).alloc (Nat.le_refl _) _
  have HC12 := Lib.hid (HC11.out.below hal)
  have HS12 := Lib.hid (HS11.out.below hal)
  have HB12 := Lib.hid (HB11.out.trans (hal.mono HB11.out.size))
  have HP12 := Lib.hid (heap_alloc_new w11 (.cells #[.int .i64 7, .int .i64 3, .int .i64 0, .int .i64 0, .int .i64 0, .int .i64 0, .int .i64 0, .int .i64 0, .int .i64 0, .int .i64 0, .int .i64 0, .int .i64 0, .int .i64 0, .int .i64 0, .int .i64 0, .int .i64 1, .int .i64 1, .slice A6 1 c6, .int .i64 0, .int .i64 0, .int .i64 0] 36))
  obtain ⟨P10, hP10⟩ : ∃ x, x = w11.heap.size := ⟨_, rfl⟩
  have hgP10 : gc < P10 ∧ M + 1 < P10 := by have := HC11.out.glt; have := HS11.out.glt; omega
  obtain ⟨hgP10, hmP10⟩ := hgP10
  clear hal HC11 HS11 HB11
  go_wp2_with (first | (refine wpList_store_row rfl 36 (.tmp 10) (.tmp 45) rfl w11.heap.size _ rfl rfl 36 _ (heap_alloc_new w11 _) (by kernel_rfl) rfl (by simp [Value.oneCell']) ?_; rw [World.setRow_alloc_new]) | (refine wpList_load_row rfl 36 _ rfl w11.heap.size rfl 36 _ (0, 0) _ HP12.out Try.underlying36 rfl (by kernel_rfl) ?_))
  rw [← hP10] at HP12
  rw [← hP10]
  clear hP10
  generalize w11.alloc (.cells #[.int .i64 7, .int .i64 3, .int .i64 0, .int .i64 0, .int .i64 0, .int .i64 0, .int .i64 0, .int .i64 0, .int .i64 0, .int .i64 0, .int .i64 0, .int .i64 0, .int .i64 0, .int .i64 0, .int .i64 0, .int .i64 1, .int .i64 1, .slice A6 1 c6, .int .i64 0, .int .i64 0, .int .i64 0] 36) = w12 at HC12 HS12 HB12 HP12 HA12 HE12 ⊢
  refine (look_ok (M + 1) 3 M 0 (fun _ => ⟨0, 0, 0, 0⟩) (askV 3 1 1) A6 1 c6 0 0 0 0 w12 HS12.out rfl okA3 wf1).mono ?_
  rintro e w13 ⟨hp, hb⟩
  unfold LookPost at hp
  rw [if_pos (show askV 3 1 1 1 = 3 from rfl), if_pos (by decide)] at hp
  subst hp
  have HC13 := Lib.hid (HC12.out.below hb)
  have HS13 := Lib.hid (HS12.out.below hb)
  have HB13 := Lib.hid (HB12.out.trans (hb.mono HB12.out.size))
  have HA13 := Lib.hid ((hb.block P4 (ltb HA12.out)).trans HA12.out)
  have HE13 := Lib.hid ((hb.block P7 (ltb HE12.out)).trans HE12.out)
  have HT13 := Lib.hid ((hb.block P10 (ltb HP12.out)).trans HP12.out)
  clear hb HC12 HS12 HB12 HP12 HA12 HE12 HA11 HE11
  have HA14 := Lib.hid ((Below.heap_alloc w13 (.cells #[.int .i64 0, .int .i64 0, .int .i64 0, .int .i64 0, .int .i64 0, .int .i64 0, .int .i64 0, .int .i64 0, .int .i64 0, .int .i64 0, .int .i64 0, .int .i64 0, .int .i64 0, .int .i64 0, .int .i64 0, .int .i64 0, .int .i64 0, .slice none 0 0, .int .i64 0, .int .i64 0, .int .i64 0] 36) P4 (ltb HA13.out)).trans HA13.out)
  have HE14 := Lib.hid ((Below.heap_alloc w13 (.cells #[.int .i64 0, .int .i64 0, .int .i64 0, .int .i64 0, .int .i64 0, .int .i64 0, .int .i64 0, .int .i64 0, .int .i64 0, .int .i64 0, .int .i64 0, .int .i64 0, .int .i64 0, .int .i64 0, .int .i64 0, .int .i64 0, .int .i64 0, .slice none 0 0, .int .i64 0, .int .i64 0, .int .i64 0] 36) P7 (ltb HE13.out)).trans HE13.out)
  have HT14 := Lib.hid ((Below.heap_alloc w13 (.cells #[.int .i64 0, .int .i64 0, .int .i64 0, .int .i64 0, .int .i64 0, .int .i64 0, .int .i64 0, .int .i64 0, .int .i64 0, .int .i64 0, .int .i64 0, .int .i64 0, .int .i64 0, .int .i64 0, .int .i64 0, .int .i64 0, .int .i64 0, .slice none 0 0, .int .i64 0, .int .i64 0, .int .i64 0] 36) P10 (ltb HT13.out)).trans HT13.out)
  have hal : Below w13.heap.size w13 (w13.alloc (.cells #[.int .i64 0, .int .i64 0, .int .i64 0, .int .i64 0, .int .i64 0, .int .i64 0, .int .i64 0, .int .i64 0, .int .i64 0, .int .i64 0, .int .i64 0, .int .i64 0, .int .i64 0, .int .i64 0, .int .i64 0, .int .i64 0, .int .i64 0, .slice none 0 0, .int .i64 0, .int .i64 0, .int .i64 0] 36)) := (Below.refl _ _).alloc (Nat.le_refl _) _
  have HC14 := Lib.hid (HC13.out.below hal)
  have HS14 := Lib.hid (HS13.out.below hal)
  have HB14 := Lib.hid (HB13.out.trans (hal.mono HB13.out.size))
  have HP14 := Lib.hid (heap_alloc_new w13 (.cells #[.int .i64 0, .int .i64 0, .int .i64 0, .int .i64 0, .int .i64 0, .int .i64 0, .int .i64 0, .int .i64 0, .int .i64 0, .int .i64 0, .int .i64 0, .int .i64 0, .int .i64 0, .int .i64 0, .int .i64 0, .int .i64 0, .int .i64 0, .slice none 0 0, .int .i64 0, .int .i64 0, .int .i64 0] 36))
  obtain ⟨P13, hP13⟩ : ∃ x, x = w13.heap.size := ⟨_, rfl⟩
  have hgP13 : gc < P13 ∧ M + 1 < P13 := by have := HC13.out.glt; have := HS13.out.glt; omega
  obtain ⟨hgP13, hmP13⟩ := hgP13
  clear hal HC13 HS13 HB13
  go_wp2_with (first | (refine wpList_store_row rfl 36 (.tmp 13) (.tmp 53) rfl w13.heap.size _ rfl rfl 36 _ (heap_alloc_new w13 _) (by kernel_rfl) rfl (by simp [Value.oneCell']) ?_; rw [World.setRow_alloc_new]) | (refine wpList_load_row rfl 36 _ rfl w13.heap.size rfl 36 _ (0, 0) _ HP14.out Try.underlying36 rfl (by kernel_rfl) ?_))
  rw [← hP13] at HP14
  rw [← hP13]
  clear hP13
  generalize w13.alloc (.cells #[.int .i64 0, .int .i64 0, .int .i64 0, .int .i64 0, .int .i64 0, .int .i64 0, .int .i64 0, .int .i64 0, .int .i64 0, .int .i64 0, .int .i64 0, .int .i64 0, .int .i64 0, .int .i64 0, .int .i64 0, .int .i64 0, .int .i64 0, .slice none 0 0, .int .i64 0, .int .i64 0, .int .i64 0] 36) = w14 at HC14 HS14 HB14 HP14 HA14 HE14 HT14 ⊢
  refine (done_any (M + 1) 3 M 0 (fun _ => ⟨0, 0, 0, 0⟩) 1 1 0 4 0 w14 HS14.out wf1 (by decide)).mono ?_
  rintro e w15 ⟨k, hk, rfl, hs, hg⟩
  obtain rfl : k = true := hk.2 ⟨by decide, okR4⟩
  have HC15 := Lib.hid (HC14.out.grown hg (by obtain ⟨D, ⟨es, clock, hb, _⟩, _⟩ := HS14.out.map; exact ⟨es, clock, hb⟩))
  have hs14 := HB14.out.size
  have HB15 := Lib.hid (HB14.out.grown hg hs14 (fun k hk => by injection hk with hk; omega))
  have HA15 := Lib.hid ((grown_block hg (ltb HA14.out) (by omega)).trans HA14.out)
  have HE15 := Lib.hid ((grown_block hg (ltb HE14.out) (by omega)).trans HE14.out)
  have HT15 := Lib.hid ((grown_block hg (ltb HT14.out) (by omega)).trans HT14.out)
  have HS15 := Lib.hid hs
  clear hk hs hg HC14 HS14 HB14 HA14 HE14 HT14 HP14 HA13 HE13 HT13
  simp only [if_true] at HS15 ⊢
  have HA16 := Lib.hid ((Below.heap_alloc w15 (.cells #[.int .i64 8, .int .i64 3, .int .i64 0, .int .i64 0, .int .i64 0, .int .i64 0, .int .i64 0, .int .i64 0, .int .i64 0, .int .i64 0, .int .i64 0, .int .i64 0, .int .i64 0, .int .i64 0, .int .i64 0, .int .i64 1, .int .i64 1, .slice none 0 0, .int .i64 0, .int .i64 4, .int .i64 0] 36) P4 (ltb HA15.out)).trans HA15.out)
  have HE16 := Lib.hid ((Below.heap_alloc w15 (.cells #[.int .i64 8, .int .i64 3, .int .i64 0, .int .i64 0, .int .i64 0, .int .i64 0, .int .i64 0, .int .i64 0, .int .i64 0, .int .i64 0, .int .i64 0, .int .i64 0, .int .i64 0, .int .i64 0, .int .i64 0, .int .i64 1, .int .i64 1, .slice none 0 0, .int .i64 0, .int .i64 4, .int .i64 0] 36) P7 (ltb HE15.out)).trans HE15.out)
  have HT16 := Lib.hid ((Below.heap_alloc w15 (.cells #[.int .i64 8, .int .i64 3, .int .i64 0, .int .i64 0, .int .i64 0, .int .i64 0, .int .i64 0, .int .i64 0, .int .i64 0, .int .i64 0, .int .i64 0, .int .i64 0, .int .i64 0, .int .i64 0, .int .i64 0, .int .i64 1, .int .i64 1, .slice none 0 0, .int .i64 0, .int .i64 4, .int .i64 0] 36) P10 (ltb HT15.out)).trans HT15.out)
  have hal : Below w15.heap.size w15 (w15.alloc (.cells #[.int .i64 8, .int .i64 3, .int .i64 0, .int .i64 0, .int .i64 0, .int .i64 0, .int .i64 0, .int .i64 0, .int .i64 0, .int .i64 0, .int .i64 0, .int .i64 0, .int .i64 0, .int .i64 0, .int .i64 0, .int .i64 1, .int .i64 1, .slice none 0 0, .int .i64 0, .int .i64 4, .int .i64 0] 36)) := (Below.refl _ _).alloc (Nat.le_refl _) _
  have HC16 := Lib.hid (HC15.out.below hal)
  have HS16 := Lib.hid (HS15.out.below hal)
  have HB16 := Lib.hid (HB15.out.trans (hal.mono HB15.out.size))
  have HP16 := Lib.hid (heap_alloc_new w15 (.cells #[.int .i64 8, .int .i64 3, .int .i64 0, .int .i64 0, .int .i64 0, .int .i64 0, .int .i64 0, .int .i64 0, .int .i64 0, .int .i64 0, .int .i64 0, .int .i64 0, .int .i64 0, .int .i64 0, .int .i64 0, .int .i64 1, .int .i64 1, .slice none 0 0, .int .i64 0, .int .i64 4, .int .i64 0] 36))
  obtain ⟨P15, hP15⟩ : ∃ x, x = w15.heap.size := ⟨_, rfl⟩
  have hgP15 : gc < P15 ∧ M + 1 < P15 := by have := HC15.out.glt; have := HS15.out.glt; omega
  obtain ⟨hgP15, hmP15⟩ := hgP15
  clear hal HC15 HS15 HB15
  go_wp2_with (first | (refine wpList_store_row rfl 36 (.tmp 14) (.tmp 58) rfl w15.heap.size _ rfl rfl 36 _ (heap_alloc_new w15 _) (by kernel_rfl) rfl (by simp [Value.oneCell']) ?_; rw [World.setRow_alloc_new]) | (refine wpList_load_row rfl 36 _ rfl w15.heap.size rfl 36 _ (0, 0) _ HP16.out Try.underlying36 rfl (by kernel_rfl) ?_))
  rw [← hP15] at HP16
  rw [← hP15]
  clear hP15
  generalize w15.alloc (.cells #[.int .i64 8, .int .i64 3, .int .i64 0, .int .i64 0, .int .i64 0, .int .i64 0, .int .i64 0, .int .i64 0, .int .i64 0, .int .i64 0, .int .i64 0, .int .i64 0, .int .i64 0, .int .i64 0, .int .i64 0, .int .i64 1, .int .i64 1, .slice none 0 0, .int .i64 0, .int .i64 4, .int .i64 0] 36) = w16 at HC16 HS16 HB16 HP16 HA16 HE16 HT16 ⊢
  refine (hear_asked gc ⟨1, 1, 3, true, true, 5, [120]⟩ A4 c4 (repV 3 1 1 0 4 0) none 0 0 w16 HC16.out ⟨rfl, rfl, rfl, rfl⟩).mono ?_
  rintro e w17 ⟨k, hk, rfl, hc, hch⟩
  obtain rfl : k = true := hk.2 okR4
  have HB17 := Lib.hid (HB16.out.trans (hch.below HB16.out.size (fun k hk e => by omega)))
  have HA17 := Lib.hid ((hch.block P4 (ltb HA16.out) (by omega)).trans HA16.out)
  have HE17 := Lib.hid ((hch.block P7 (ltb HE16.out) (by omega)).trans HE16.out)
  have HT17 := Lib.hid ((hch.block P10 (ltb HT16.out) (by omega)).trans HT16.out)
  clear hk hc hch HC16 HS16 HB16 HA16 HE16 HT16 HP16 HA15 HE15 HT15
  rw [show hearK ⟨1, 1, 3, true, true, 5, [120]⟩ (repV 3 1 1 0 4 0) true = true from rfl]
  simp only [if_true, show repV 3 1 1 0 4 0 18 = 0 from rfl, show repV 3 1 1 0 4 0 19 = 4 from rfl, show repV 3 1 1 0 4 0 20 = 0 from rfl]
  have k1 : ∀ O, (w17.alloc O).cell? ⟨P4, 1, none⟩ = some (.int .i64 0) := fun O => keepA (cellb (i := 1) HA17.out rfl)
  have k2 : ∀ O, (w17.alloc O).cell? ⟨P7, 18, none⟩ = some (.int .i64 190) := fun O => keepA (cellb (i := 18) HE17.out rfl)
  have k3 : ∀ O, (w17.alloc O).cell? ⟨P10, 1, none⟩ = some (.int .i64 3) := fun O => keepA (cellb (i := 1) HT17.out rfl)
  have HBF : Hid (∀ O, Below w.heap.size w (w17.alloc O)) := Lib.hid (fun O => HB17.out.alloc HB17.out.size O)
  clear HA17 HE17 HT17
  go_wp2_with fail
  go_ret
  exact ⟨rfl, HBF.out _⟩
end Go.Proofs.Ytlcbpodjmafoeaa
