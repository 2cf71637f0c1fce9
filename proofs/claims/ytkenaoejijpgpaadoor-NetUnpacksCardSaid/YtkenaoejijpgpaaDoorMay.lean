/- The document's May. -/
import Derived.Test.YtkenaoejijpgpaaDoorMayA
import Derived.Deep.Cut
import Derived.Deep.DeepCutAuto
namespace Go.Proofs.YtkenaoejijpgpaaDoor
open Go.RowKit

def mB4 (v : Nat → Int) : Bool := oB (epB (v 0)) (v 1) 0 1099511627776 && oB (wB (v 0) 1 6) (v 2) 0 15 && oB (wB (v 0) 3 6) (v 6) 1 100 && oB (wB (v 0) 3 6) (v 7) 1 6
def mB5 (v : Nat → Int) : Bool := oB (clB (v 0)) (v 15) 1 16 && oB (clB (v 0)) (v 16) 1 1099511627776 && oB (v 0 == 1) (v 3) 0 1099511627775
def mB6 (v : Nat → Int) : Bool := oB (v 0 == 2) (v 4) 0 1099511627775 && oB (v 0 == 2) (v 5) 0 2199023255552 && oB (v 0 == 3) (v 8) 0 1099511627775 && oB (v 0 == 3) (v 9) 1 1000 && oB (v 0 == 5) (v 10) 1 3
def mB7 (v : Nat → Int) : Bool := oB (v 0 == 8) (v 18) 0 999 && oB (v 0 == 8) (v 19) 0 100 && oB (v 0 == 8) (v 20) 0 100
def rgB (v : Nat → Int) : Bool := if v 0 = 3 then rB (v 11) (v 12) (v 13) (v 14) else decide (v 11 = 0 ∧ v 12 = 0 ∧ v 13 = 0 ∧ v 14 = 0)
def lnB (v : Nat → Int) (n : Nat) : Bool := if v 0 = 7 then decide (n ≤ 4096) else decide (n = 0)
def mayB (v : Nat → Int) (n : Nat) : Bool := wB (v 0) 1 8 && ((((mB4 v && mB5 v) && mB6 v) && mB7 v) && rgB v && lnB v n)

set_option maxRecDepth 100000 in
set_option maxHeartbeats 8000000 in
theorem may_any (v : Nat → Int) (A : Option Addr) (n c : Nat) (w : World) :
    Calls Tryd.prog 11 #[.agg #[.int .i64 (v 0), .int .i64 (v 1), .int .i64 (v 2), .int .i64 (v 3), .int .i64 (v 4), .int .i64 (v 5), .int .i64 (v 6), .int .i64 (v 7), .int .i64 (v 8), .int .i64 (v 9), .int .i64 (v 10), .int .i64 (v 11), .int .i64 (v 12), .int .i64 (v 13), .int .i64 (v 14), .int .i64 (v 15), .int .i64 (v 16), .slice A n c, .int .i64 (v 18), .int .i64 (v 19), .int .i64 (v 20)]] w fun e w' => e = .returned (.bool (mayB v n)) ∧ Below w.heap.size w w' := by
  have hm : MAt (w.alloc (.cells #[.int .i64 (v 0), .int .i64 (v 1), .int .i64 (v 2), .int .i64 (v 3), .int .i64 (v 4), .int .i64 (v 5), .int .i64 (v 6), .int .i64 (v 7), .int .i64 (v 8), .int .i64 (v 9), .int .i64 (v 10), .int .i64 (v 11), .int .i64 (v 12), .int .i64 (v 13), .int .i64 (v 14), .int .i64 (v 15), .int .i64 (v 16), .slice A n c, .int .i64 (v 18), .int .i64 (v 19), .int .i64 (v 20)] 29)) w.heap.size v A n c := heap_alloc_new w _
  have HM0 := Lib.hid hm
  have HB0 := Lib.hid ((Below.refl w.heap.size w).alloc (Nat.le_refl _) (.cells #[.int .i64 (v 0), .int .i64 (v 1), .int .i64 (v 2), .int .i64 (v 3), .int .i64 (v 4), .int .i64 (v 5), .int .i64 (v 6), .int .i64 (v 7), .int .i64 (v 8), .int .i64 (v 9), .int .i64 (v 10), .int .i64 (v 11), .int .i64 (v 12), .int .i64 (v 13), .int .i64 (v 14), .int .i64 (v 15), .int .i64 (v 16), .slice A n c, .int .i64 (v 18), .int .i64 (v 19), .int .i64 (v 20)] 29))
  obtain ⟨S, hS⟩ : ∃ S, S = w.heap.size := ⟨_, rfl⟩
  have hs0 : S < (w.alloc (.cells #[.int .i64 (v 0), .int .i64 (v 1), .int .i64 (v 2), .int .i64 (v 3), .int .i64 (v 4), .int .i64 (v 5), .int .i64 (v 6), .int .i64 (v 7), .int .i64 (v 8), .int .i64 (v 9), .int .i64 (v 10), .int .i64 (v 11), .int .i64 (v 12), .int .i64 (v 13), .int .i64 (v 14), .int .i64 (v 15), .int .i64 (v 16), .slice A n c, .int .i64 (v 18), .int .i64 (v 19), .int .i64 (v 20)] 29)).heap.size := by simp [hS]
  have HSW : Hid (w.heap.size = S) := Lib.hid hS.symm
  clear hm
  go_enter Tryd.func11, Tryd.ntmps11
  go_wp2_with fail
  rw [← hS]
  rw [← hS] at HM0 HB0
  clear hS
  generalize w.alloc (.cells #[.int .i64 (v 0), .int .i64 (v 1), .int .i64 (v 2), .int .i64 (v 3), .int .i64 (v 4), .int .i64 (v 5), .int .i64 (v 6), .int .i64 (v 7), .int .i64 (v 8), .int .i64 (v 9), .int .i64 (v 10), .int .i64 (v 11), .int .i64 (v 12), .int .i64 (v 13), .int .i64 (v 14), .int .i64 (v 15), .int .i64 (v 16), .slice A n c, .int .i64 (v 18), .int .i64 (v 19), .int .i64 (v 20)] 29) = w0 at HM0 HB0 hs0 ⊢
  refine (within_any _ _ _ _).mono ?_
  rintro e w' ⟨rfl, rfl⟩
  obtain ⟨b, hb⟩ : ∃ b, wB (v 0) 1 8 = b := ⟨_, rfl⟩
  rw [hb]
  have HBK := Lib.hid hb
  clear hb
  cases b
  · go_wp2_with fail
    go_ret
    exact ⟨by unfold mayB; rw [HBK.out]; rfl, by rw [HSW.out]; exact HB0.out⟩

  go_upto_region 4 with fail
  go_cut [4] (fun s4 wx => s4 = .bool (mB4 v) ∧ S < wx.heap.size ∧ Hid (MAt wx S v A n c) ∧ Hid (Below S w wx))
  case first =>
    have m1 := cellb (i := 1) HM0.out rfl
    have m2 := cellb (i := 2) HM0.out rfl
    have m6 := cellb (i := 6) HM0.out rfl
    have m7 := cellb (i := 7) HM0.out rfl
    obtain ⟨c0, hc0⟩ : ∃ b, oB (epB (v 0)) (v 1) 0 1099511627776 = b := ⟨_, rfl⟩
    have HC0 := Lib.hid hc0
    clear hc0
    cases c0
    ·
      have hO0 : ∀ w, Calls Tryd.prog 28 #[.bool (epB (v 0)), .int .i64 (v 1), .int .i64 0, .int .i64 1099511627776] w fun e w' => e = .returned (.bool false) ∧ w = w' := fun w => by rw [← HC0.out]; exact own_any _ _ _ _ w
      have HO0 := Lib.hid hO0
      clear hO0
      go_quiet (first | (go_at_call 29; exact quiet_eq (epoch_any _ _)) | (go_at_call 30; exact quiet_eq (node_any _ _)) | (go_at_call 31; exact quiet_eq (job_any _ _)) | (go_at_call 32; exact quiet_eq (client_any _ _)) | (go_at_call 28; with_reducible exact quiet_eq (HO0.out _)))
      go_wp2_with fail
      go_meet
      exact ⟨by rw [show mB4 v = false from by unfold mB4; rw [HC0.out]; rfl], hs0, Lib.hid HM0.out, Lib.hid (below_dn HB0.out)⟩
    obtain ⟨c1, hc1⟩ : ∃ b, oB (wB (v 0) 1 6) (v 2) 0 15 = b := ⟨_, rfl⟩
    have HC1 := Lib.hid hc1
    clear hc1
    cases c1
    ·
      have hO0 : ∀ w, Calls Tryd.prog 28 #[.bool (epB (v 0)), .int .i64 (v 1), .int .i64 0, .int .i64 1099511627776] w fun e w' => e = .returned (.bool true) ∧ w = w' := fun w => by rw [← HC0.out]; exact own_any _ _ _ _ w
      have HO0 := Lib.hid hO0
      clear hO0
      have hO1 : ∀ w, Calls Tryd.prog 28 #[.bool (wB (v 0) 1 6), .int .i64 (v 2), .int .i64 0, .int .i64 15] w fun e w' => e = .returned (.bool false) ∧ w = w' := fun w => by rw [← HC1.out]; exact own_any _ _ _ _ w
      have HO1 := Lib.hid hO1
      clear hO1
      go_quiet (first | (go_at_call 29; exact quiet_eq (epoch_any _ _)) | (go_at_call 30; exact quiet_eq (node_any _ _)) | (go_at_call 31; exact quiet_eq (job_any _ _)) | (go_at_call 32; exact quiet_eq (client_any _ _)) | (go_at_call 28; with_reducible exact quiet_eq (HO0.out _)) | (go_at_call 28; with_reducible exact quiet_eq (HO1.out _)))
      go_wp2_with fail
      go_meet
      exact ⟨by rw [show mB4 v = false from by unfold mB4; rw [HC0.out, HC1.out]; rfl], hs0, Lib.hid HM0.out, Lib.hid (below_dn HB0.out)⟩
    obtain ⟨c2, hc2⟩ : ∃ b, oB (wB (v 0) 3 6) (v 6) 1 100 = b := ⟨_, rfl⟩
    have HC2 := Lib.hid hc2
    clear hc2
    cases c2
    ·
      have hO0 : ∀ w, Calls Tryd.prog 28 #[.bool (epB (v 0)), .int .i64 (v 1), .int .i64 0, .int .i64 1099511627776] w fun e w' => e = .returned (.bool true) ∧ w = w' := fun w => by rw [← HC0.out]; exact own_any _ _ _ _ w
      have HO0 := Lib.hid hO0
      clear hO0
      have hO1 : ∀ w, Calls Tryd.prog 28 #[.bool (wB (v 0) 1 6), .int .i64 (v 2), .int .i64 0, .int .i64 15] w fun e w' => e = .returned (.bool true) ∧ w = w' := fun w => by rw [← HC1.out]; exact own_any _ _ _ _ w
      have HO1 := Lib.hid hO1
      clear hO1
      have hO2 : ∀ w, Calls Tryd.prog 28 #[.bool (wB (v 0) 3 6), .int .i64 (v 6), .int .i64 1, .int .i64 100] w fun e w' => e = .returned (.bool false) ∧ w = w' := fun w => by rw [← HC2.out]; exact own_any _ _ _ _ w
      have HO2 := Lib.hid hO2
      clear hO2
      go_quiet (first | (go_at_call 29; exact quiet_eq (epoch_any _ _)) | (go_at_call 30; exact quiet_eq (node_any _ _)) | (go_at_call 31; exact quiet_eq (job_any _ _)) | (go_at_call 32; exact quiet_eq (client_any _ _)) | (go_at_call 28; with_reducible exact quiet_eq (HO0.out _)) | (go_at_call 28; with_reducible exact quiet_eq (HO1.out _)) | (go_at_call 28; with_reducible exact quiet_eq (HO2.out _)))
      go_wp2_with fail
      go_meet
      exact ⟨by rw [show mB4 v = false from by unfold mB4; rw [HC0.out, HC1.out, HC2.out]; rfl], hs0, Lib.hid HM0.out, Lib.hid (below_dn HB0.out)⟩
    obtain ⟨c3, hc3⟩ : ∃ b, oB (wB (v 0) 3 6) (v 7) 1 6 = b := ⟨_, rfl⟩
    have HC3 := Lib.hid hc3
    clear hc3
    cases c3
    ·
      have hO0 : ∀ w, Calls Tryd.prog 28 #[.bool (epB (v 0)), .int .i64 (v 1), .int .i64 0, .int .i64 1099511627776] w fun e w' => e = .returned (.bool true) ∧ w = w' := fun w => by rw [← HC0.out]; exact own_any _ _ _ _ w
      have HO0 := Lib.hid hO0
      clear hO0
      have hO1 : ∀ w, Calls Tryd.prog 28 #[.bool (wB (v 0) 1 6), .int .i64 (v 2), .int .i64 0, .int .i64 15] w fun e w' => e = .returned (.bool true) ∧ w = w' := fun w => by rw [← HC1.out]; exact own_any _ _ _ _ w
      have HO1 := Lib.hid hO1
      clear hO1
      have hO2 : ∀ w, Calls Tryd.prog 28 #[.bool (wB (v 0) 3 6), .int .i64 (v 6), .int .i64 1, .int .i64 100] w fun e w' => e = .returned (.bool true) ∧ w = w' := fun w => by rw [← HC2.out]; exact own_any _ _ _ _ w
      have HO2 := Lib.hid hO2
      clear hO2
      have hO3 : ∀ w, Calls Tryd.prog 28 #[.bool (wB (v 0) 3 6), .int .i64 (v 7), .int .i64 1, .int .i64 6] w fun e w' => e = .returned (.bool false) ∧ w = w' := fun w => by rw [← HC3.out]; exact own_any _ _ _ _ w
      have HO3 := Lib.hid hO3
      clear hO3
      go_quiet (first | (go_at_call 29; exact quiet_eq (epoch_any _ _)) | (go_at_call 30; exact quiet_eq (node_any _ _)) | (go_at_call 31; exact quiet_eq (job_any _ _)) | (go_at_call 32; exact quiet_eq (client_any _ _)) | (go_at_call 28; with_reducible exact quiet_eq (HO0.out _)) | (go_at_call 28; with_reducible exact quiet_eq (HO1.out _)) | (go_at_call 28; with_reducible exact quiet_eq (HO2.out _)) | (go_at_call 28; with_reducible exact quiet_eq (HO3.out _)))
      go_wp2_with fail
      go_meet
      exact ⟨by rw [show mB4 v = false from by unfold mB4; rw [HC0.out, HC1.out, HC2.out, HC3.out]; rfl], hs0, Lib.hid HM0.out, Lib.hid (below_dn HB0.out)⟩
    have hO0 : ∀ w, Calls Tryd.prog 28 #[.bool (epB (v 0)), .int .i64 (v 1), .int .i64 0, .int .i64 1099511627776] w fun e w' => e = .returned (.bool true) ∧ w = w' := fun w => by rw [← HC0.out]; exact own_any _ _ _ _ w
    have HO0 := Lib.hid hO0
    clear hO0
    have hO1 : ∀ w, Calls Tryd.prog 28 #[.bool (wB (v 0) 1 6), .int .i64 (v 2), .int .i64 0, .int .i64 15] w fun e w' => e = .returned (.bool true) ∧ w = w' := fun w => by rw [← HC1.out]; exact own_any _ _ _ _ w
    have HO1 := Lib.hid hO1
    clear hO1
    have hO2 : ∀ w, Calls Tryd.prog 28 #[.bool (wB (v 0) 3 6), .int .i64 (v 6), .int .i64 1, .int .i64 100] w fun e w' => e = .returned (.bool true) ∧ w = w' := fun w => by rw [← HC2.out]; exact own_any _ _ _ _ w
    have HO2 := Lib.hid hO2
    clear hO2
    have hO3 : ∀ w, Calls Tryd.prog 28 #[.bool (wB (v 0) 3 6), .int .i64 (v 7), .int .i64 1, .int .i64 6] w fun e w' => e = .returned (.bool true) ∧ w = w' := fun w => by rw [← HC3.out]; exact own_any _ _ _ _ w
    have HO3 := Lib.hid hO3
    clear hO3
    go_quiet (first | (go_at_call 29; exact quiet_eq (epoch_any _ _)) | (go_at_call 30; exact quiet_eq (node_any _ _)) | (go_at_call 31; exact quiet_eq (job_any _ _)) | (go_at_call 32; exact quiet_eq (client_any _ _)) | (go_at_call 28; with_reducible exact quiet_eq (HO0.out _)) | (go_at_call 28; with_reducible exact quiet_eq (HO1.out _)) | (go_at_call 28; with_reducible exact quiet_eq (HO2.out _)) | (go_at_call 28; with_reducible exact quiet_eq (HO3.out _)))
    go_wp2_with fail
    go_meet
    exact ⟨by rw [show mB4 v = true from by unfold mB4; rw [HC0.out, HC1.out, HC2.out, HC3.out]; rfl], hs0, Lib.hid HM0.out, Lib.hid (below_dn HB0.out)⟩
  case rest =>
  obtain ⟨hsl, hs4, HM4, HB4⟩ := hcut
  subst hsl
  clear HM0 HB0 hs0
  go_upto_region 5 with fail
  go_cut [4] (fun s4 wx => s4 = .bool ((mB4 v && mB5 v)) ∧ S < wx.heap.size ∧ Hid (MAt wx S v A n c) ∧ Hid (Below S w wx))
  case first =>
    have m15 := cellb (i := 15) HM4.out rfl
    have m16 := cellb (i := 16) HM4.out rfl
    have m3 := cellb (i := 3) HM4.out rfl
    obtain ⟨b0, hb0⟩ : ∃ b, (mB4 v) = b := ⟨_, rfl⟩
    rw [hb0]
    have HPB := Lib.hid hb0
    clear hb0
    cases b0
    · go_quiet (fail)
      go_wp2_with fail
      go_meet
      exact ⟨by rw [HPB.out]; rfl, hs4, Lib.hid HM4.out, Lib.hid (below_dn HB4.out)⟩
    obtain ⟨c0, hc0⟩ : ∃ b, oB (clB (v 0)) (v 15) 1 16 = b := ⟨_, rfl⟩
    have HC0 := Lib.hid hc0
    clear hc0
    cases c0
    ·
      have hO0 : ∀ w, Calls Tryd.prog 28 #[.bool (clB (v 0)), .int .i64 (v 15), .int .i64 1, .int .i64 16] w fun e w' => e = .returned (.bool false) ∧ w = w' := fun w => by rw [← HC0.out]; exact own_any _ _ _ _ w
      have HO0 := Lib.hid hO0
      clear hO0
      go_quiet (first | (go_at_call 29; exact quiet_eq (epoch_any _ _)) | (go_at_call 30; exact quiet_eq (node_any _ _)) | (go_at_call 31; exact quiet_eq (job_any _ _)) | (go_at_call 32; exact quiet_eq (client_any _ _)) | (go_at_call 28; with_reducible exact quiet_eq (HO0.out _)))
      go_wp2_with fail
      go_meet
      exact ⟨by rw [show mB5 v = false from by unfold mB5; rw [HC0.out]; rfl]; rw [HPB.out]; rfl, hs4, Lib.hid HM4.out, Lib.hid (below_dn HB4.out)⟩
    obtain ⟨c1, hc1⟩ : ∃ b, oB (clB (v 0)) (v 16) 1 1099511627776 = b := ⟨_, rfl⟩
    have HC1 := Lib.hid hc1
    clear hc1
    cases c1
    ·
      have hO0 : ∀ w, Calls Tryd.prog 28 #[.bool (clB (v 0)), .int .i64 (v 15), .int .i64 1, .int .i64 16] w fun e w' => e = .returned (.bool true) ∧ w = w' := fun w => by rw [← HC0.out]; exact own_any _ _ _ _ w
      have HO0 := Lib.hid hO0
      clear hO0
      have hO1 : ∀ w, Calls Tryd.prog 28 #[.bool (clB (v 0)), .int .i64 (v 16), .int .i64 1, .int .i64 1099511627776] w fun e w' => e = .returned (.bool false) ∧ w = w' := fun w => by rw [← HC1.out]; exact own_any _ _ _ _ w
      have HO1 := Lib.hid hO1
      clear hO1
      go_quiet (first | (go_at_call 29; exact quiet_eq (epoch_any _ _)) | (go_at_call 30; exact quiet_eq (node_any _ _)) | (go_at_call 31; exact quiet_eq (job_any _ _)) | (go_at_call 32; exact quiet_eq (client_any _ _)) | (go_at_call 28; with_reducible exact quiet_eq (HO0.out _)) | (go_at_call 28; with_reducible exact quiet_eq (HO1.out _)))
      go_wp2_with fail
      go_meet
      exact ⟨by rw [show mB5 v = false from by unfold mB5; rw [HC0.out, HC1.out]; rfl]; rw [HPB.out]; rfl, hs4, Lib.hid HM4.out, Lib.hid (below_dn HB4.out)⟩
    obtain ⟨c2, hc2⟩ : ∃ b, oB (v 0 == 1) (v 3) 0 1099511627775 = b := ⟨_, rfl⟩
    have HC2 := Lib.hid hc2
    clear hc2
    cases c2
    ·
      have hO0 : ∀ w, Calls Tryd.prog 28 #[.bool (clB (v 0)), .int .i64 (v 15), .int .i64 1, .int .i64 16] w fun e w' => e = .returned (.bool true) ∧ w = w' := fun w => by rw [← HC0.out]; exact own_any _ _ _ _ w
      have HO0 := Lib.hid hO0
      clear hO0
      have hO1 : ∀ w, Calls Tryd.prog 28 #[.bool (clB (v 0)), .int .i64 (v 16), .int .i64 1, .int .i64 1099511627776] w fun e w' => e = .returned (.bool true) ∧ w = w' := fun w => by rw [← HC1.out]; exact own_any _ _ _ _ w
      have HO1 := Lib.hid hO1
      clear hO1
      have hO2 : ∀ w, Calls Tryd.prog 28 #[.bool (v 0 == 1), .int .i64 (v 3), .int .i64 0, .int .i64 1099511627775] w fun e w' => e = .returned (.bool false) ∧ w = w' := fun w => by rw [← HC2.out]; exact own_any _ _ _ _ w
      have HO2 := Lib.hid hO2
      clear hO2
      go_quiet (first | (go_at_call 29; exact quiet_eq (epoch_any _ _)) | (go_at_call 30; exact quiet_eq (node_any _ _)) | (go_at_call 31; exact quiet_eq (job_any _ _)) | (go_at_call 32; exact quiet_eq (client_any _ _)) | (go_at_call 28; with_reducible exact quiet_eq (HO0.out _)) | (go_at_call 28; with_reducible exact quiet_eq (HO1.out _)) | (go_at_call 28; with_reducible exact quiet_eq (HO2.out _)))
      go_wp2_with fail
      go_meet
      exact ⟨by rw [show mB5 v = false from by unfold mB5; rw [HC0.out, HC1.out, HC2.out]; rfl]; rw [HPB.out]; rfl, hs4, Lib.hid HM4.out, Lib.hid (below_dn HB4.out)⟩
    have hO0 : ∀ w, Calls Tryd.prog 28 #[.bool (clB (v 0)), .int .i64 (v 15), .int .i64 1, .int .i64 16] w fun e w' => e = .returned (.bool true) ∧ w = w' := fun w => by rw [← HC0.out]; exact own_any _ _ _ _ w
    have HO0 := Lib.hid hO0
    clear hO0
    have hO1 : ∀ w, Calls Tryd.prog 28 #[.bool (clB (v 0)), .int .i64 (v 16), .int .i64 1, .int .i64 1099511627776] w fun e w' => e = .returned (.bool true) ∧ w = w' := fun w => by rw [← HC1.out]; exact own_any _ _ _ _ w
    have HO1 := Lib.hid hO1
    clear hO1
    have hO2 : ∀ w, Calls Tryd.prog 28 #[.bool (v 0 == 1), .int .i64 (v 3), .int .i64 0, .int .i64 1099511627775] w fun e w' => e = .returned (.bool true) ∧ w = w' := fun w => by rw [← HC2.out]; exact own_any _ _ _ _ w
    have HO2 := Lib.hid hO2
    clear hO2
    go_quiet (first | (go_at_call 29; exact quiet_eq (epoch_any _ _)) | (go_at_call 30; exact quiet_eq (node_any _ _)) | (go_at_call 31; exact quiet_eq (job_any _ _)) | (go_at_call 32; exact quiet_eq (client_any _ _)) | (go_at_call 28; with_reducible exact quiet_eq (HO0.out _)) | (go_at_call 28; with_reducible exact quiet_eq (HO1.out _)) | (go_at_call 28; with_reducible exact quiet_eq (HO2.out _)))
    go_wp2_with fail
    go_meet
    exact ⟨by rw [show mB5 v = true from by unfold mB5; rw [HC0.out, HC1.out, HC2.out]; rfl]; rw [HPB.out]; rfl, hs4, Lib.hid HM4.out, Lib.hid (below_dn HB4.out)⟩
  case rest =>
  obtain ⟨hsl, hs5, HM5, HB5⟩ := hcut
  subst hsl
  clear HM4 HB4 hs4
  go_upto_region 6 with fail
  go_cut [4] (fun s4 wx => s4 = .bool (((mB4 v && mB5 v) && mB6 v)) ∧ S < wx.heap.size ∧ Hid (MAt wx S v A n c) ∧ Hid (Below S w wx))
  case first =>
    have m4 := cellb (i := 4) HM5.out rfl
    have m5 := cellb (i := 5) HM5.out rfl
    have m8 := cellb (i := 8) HM5.out rfl
    have m9 := cellb (i := 9) HM5.out rfl
    have m10 := cellb (i := 10) HM5.out rfl
    obtain ⟨b0, hb0⟩ : ∃ b, ((mB4 v && mB5 v)) = b := ⟨_, rfl⟩
    rw [hb0]
    have HPB := Lib.hid hb0
    clear hb0
    cases b0
    · go_wp2_with fail
      go_meet
      exact ⟨by rw [HPB.out]; rfl, hs5, Lib.hid HM5.out, Lib.hid HB5.out⟩
    obtain ⟨c0, hc0⟩ : ∃ b, oB (v 0 == 2) (v 4) 0 1099511627775 = b := ⟨_, rfl⟩
    have HC0 := Lib.hid hc0
    clear hc0
    cases c0
    ·
      have hO0 : ∀ w, Calls Tryd.prog 28 #[.bool (v 0 == 2), .int .i64 (v 4), .int .i64 0, .int .i64 1099511627775] w fun e w' => e = .returned (.bool false) ∧ w = w' := fun w => by rw [← HC0.out]; exact own_any _ _ _ _ w
      have HO0 := Lib.hid hO0
      clear hO0
      go_wp2_with fail
      refine (HO0.out _).mono ?_
      rintro e w' ⟨rfl, rfl⟩
      go_wp2_with fail
      go_meet
      exact ⟨by rw [show mB6 v = false from by unfold mB6; rw [HC0.out]; rfl]; rw [HPB.out]; rfl, hs5, Lib.hid HM5.out, Lib.hid HB5.out⟩
    obtain ⟨c1, hc1⟩ : ∃ b, oB (v 0 == 2) (v 5) 0 2199023255552 = b := ⟨_, rfl⟩
    have HC1 := Lib.hid hc1
    clear hc1
    cases c1
    ·
      have hO0 : ∀ w, Calls Tryd.prog 28 #[.bool (v 0 == 2), .int .i64 (v 4), .int .i64 0, .int .i64 1099511627775] w fun e w' => e = .returned (.bool true) ∧ w = w' := fun w => by rw [← HC0.out]; exact own_any _ _ _ _ w
      have HO0 := Lib.hid hO0
      clear hO0
      have hO1 : ∀ w, Calls Tryd.prog 28 #[.bool (v 0 == 2), .int .i64 (v 5), .int .i64 0, .int .i64 2199023255552] w fun e w' => e = .returned (.bool false) ∧ w = w' := fun w => by rw [← HC1.out]; exact own_any _ _ _ _ w
      have HO1 := Lib.hid hO1
      clear hO1
      go_wp2_with fail
      refine (HO0.out _).mono ?_
      rintro e w' ⟨rfl, rfl⟩
      go_wp2_with fail
      refine (HO1.out _).mono ?_
      rintro e w' ⟨rfl, rfl⟩
      go_wp2_with fail
      go_meet
      exact ⟨by rw [show mB6 v = false from by unfold mB6; rw [HC0.out, HC1.out]; rfl]; rw [HPB.out]; rfl, hs5, Lib.hid HM5.out, Lib.hid HB5.out⟩
    obtain ⟨c2, hc2⟩ : ∃ b, oB (v 0 == 3) (v 8) 0 1099511627775 = b := ⟨_, rfl⟩
    have HC2 := Lib.hid hc2
    clear hc2
    cases c2
    ·
      have hO0 : ∀ w, Calls Tryd.prog 28 #[.bool (v 0 == 2), .int .i64 (v 4), .int .i64 0, .int .i64 1099511627775] w fun e w' => e = .returned (.bool true) ∧ w = w' := fun w => by rw [← HC0.out]; exact own_any _ _ _ _ w
      have HO0 := Lib.hid hO0
      clear hO0
      have hO1 : ∀ w, Calls Tryd.prog 28 #[.bool (v 0 == 2), .int .i64 (v 5), .int .i64 0, .int .i64 2199023255552] w fun e w' => e = .returned (.bool true) ∧ w = w' := fun w => by rw [← HC1.out]; exact own_any _ _ _ _ w
      have HO1 := Lib.hid hO1
      clear hO1
      have hO2 : ∀ w, Calls Tryd.prog 28 #[.bool (v 0 == 3), .int .i64 (v 8), .int .i64 0, .int .i64 1099511627775] w fun e w' => e = .returned (.bool false) ∧ w = w' := fun w => by rw [← HC2.out]; exact own_any _ _ _ _ w
      have HO2 := Lib.hid hO2
      clear hO2
      go_wp2_with fail
      refine (HO0.out _).mono ?_
      rintro e w' ⟨rfl, rfl⟩
      go_wp2_with fail
      refine (HO1.out _).mono ?_
      rintro e w' ⟨rfl, rfl⟩
      go_wp2_with fail
      refine (HO2.out _).mono ?_
      rintro e w' ⟨rfl, rfl⟩
      go_wp2_with fail
      go_meet
      exact ⟨by rw [show mB6 v = false from by unfold mB6; rw [HC0.out, HC1.out, HC2.out]; rfl]; rw [HPB.out]; rfl, hs5, Lib.hid HM5.out, Lib.hid HB5.out⟩
    obtain ⟨c3, hc3⟩ : ∃ b, oB (v 0 == 3) (v 9) 1 1000 = b := ⟨_, rfl⟩
    have HC3 := Lib.hid hc3
    clear hc3
    cases c3
    ·
      have hO0 : ∀ w, Calls Tryd.prog 28 #[.bool (v 0 == 2), .int .i64 (v 4), .int .i64 0, .int .i64 1099511627775] w fun e w' => e = .returned (.bool true) ∧ w = w' := fun w => by rw [← HC0.out]; exact own_any _ _ _ _ w
      have HO0 := Lib.hid hO0
      clear hO0
      have hO1 : ∀ w, Calls Tryd.prog 28 #[.bool (v 0 == 2), .int .i64 (v 5), .int .i64 0, .int .i64 2199023255552] w fun e w' => e = .returned (.bool true) ∧ w = w' := fun w => by rw [← HC1.out]; exact own_any _ _ _ _ w
      have HO1 := Lib.hid hO1
      clear hO1
      have hO2 : ∀ w, Calls Tryd.prog 28 #[.bool (v 0 == 3), .int .i64 (v 8), .int .i64 0, .int .i64 1099511627775] w fun e w' => e = .returned (.bool true) ∧ w = w' := fun w => by rw [← HC2.out]; exact own_any _ _ _ _ w
      have HO2 := Lib.hid hO2
      clear hO2
      have hO3 : ∀ w, Calls Tryd.prog 28 #[.bool (v 0 == 3), .int .i64 (v 9), .int .i64 1, .int .i64 1000] w fun e w' => e = .returned (.bool false) ∧ w = w' := fun w => by rw [← HC3.out]; exact own_any _ _ _ _ w
      have HO3 := Lib.hid hO3
      clear hO3
      go_wp2_with fail
      refine (HO0.out _).mono ?_
      rintro e w' ⟨rfl, rfl⟩
      go_wp2_with fail
      refine (HO1.out _).mono ?_
      rintro e w' ⟨rfl, rfl⟩
      go_wp2_with fail
      refine (HO2.out _).mono ?_
      rintro e w' ⟨rfl, rfl⟩
      go_wp2_with fail
      refine (HO3.out _).mono ?_
      rintro e w' ⟨rfl, rfl⟩
      go_wp2_with fail
      go_meet
      exact ⟨by rw [show mB6 v = false from by unfold mB6; rw [HC0.out, HC1.out, HC2.out, HC3.out]; rfl]; rw [HPB.out]; rfl, hs5, Lib.hid HM5.out, Lib.hid HB5.out⟩
    obtain ⟨c4, hc4⟩ : ∃ b, oB (v 0 == 5) (v 10) 1 3 = b := ⟨_, rfl⟩
    have HC4 := Lib.hid hc4
    clear hc4
    cases c4
    ·
      have hO0 : ∀ w, Calls Tryd.prog 28 #[.bool (v 0 == 2), .int .i64 (v 4), .int .i64 0, .int .i64 1099511627775] w fun e w' => e = .returned (.bool true) ∧ w = w' := fun w => by rw [← HC0.out]; exact own_any _ _ _ _ w
      have HO0 := Lib.hid hO0
      clear hO0
      have hO1 : ∀ w, Calls Tryd.prog 28 #[.bool (v 0 == 2), .int .i64 (v 5), .int .i64 0, .int .i64 2199023255552] w fun e w' => e = .returned (.bool true) ∧ w = w' := fun w => by rw [← HC1.out]; exact own_any _ _ _ _ w
      have HO1 := Lib.hid hO1
      clear hO1
      have hO2 : ∀ w, Calls Tryd.prog 28 #[.bool (v 0 == 3), .int .i64 (v 8), .int .i64 0, .int .i64 1099511627775] w fun e w' => e = .returned (.bool true) ∧ w = w' := fun w => by rw [← HC2.out]; exact own_any _ _ _ _ w
      have HO2 := Lib.hid hO2
      clear hO2
      have hO3 : ∀ w, Calls Tryd.prog 28 #[.bool (v 0 == 3), .int .i64 (v 9), .int .i64 1, .int .i64 1000] w fun e w' => e = .returned (.bool true) ∧ w = w' := fun w => by rw [← HC3.out]; exact own_any _ _ _ _ w
      have HO3 := Lib.hid hO3
      clear hO3
      have hO4 : ∀ w, Calls Tryd.prog 28 #[.bool (v 0 == 5), .int .i64 (v 10), .int .i64 1, .int .i64 3] w fun e w' => e = .returned (.bool false) ∧ w = w' := fun w => by rw [← HC4.out]; exact own_any _ _ _ _ w
      have HO4 := Lib.hid hO4
      clear hO4
      go_wp2_with fail
      refine (HO0.out _).mono ?_
      rintro e w' ⟨rfl, rfl⟩
      go_wp2_with fail
      refine (HO1.out _).mono ?_
      rintro e w' ⟨rfl, rfl⟩
      go_wp2_with fail
      refine (HO2.out _).mono ?_
      rintro e w' ⟨rfl, rfl⟩
      go_wp2_with fail
      refine (HO3.out _).mono ?_
      rintro e w' ⟨rfl, rfl⟩
      go_wp2_with fail
      refine (HO4.out _).mono ?_
      rintro e w' ⟨rfl, rfl⟩
      go_wp2_with fail
      go_meet
      exact ⟨by rw [show mB6 v = false from by unfold mB6; rw [HC0.out, HC1.out, HC2.out, HC3.out, HC4.out]; rfl]; rw [HPB.out]; rfl, hs5, Lib.hid HM5.out, Lib.hid HB5.out⟩
    have hO0 : ∀ w, Calls Tryd.prog 28 #[.bool (v 0 == 2), .int .i64 (v 4), .int .i64 0, .int .i64 1099511627775] w fun e w' => e = .returned (.bool true) ∧ w = w' := fun w => by rw [← HC0.out]; exact own_any _ _ _ _ w
    have HO0 := Lib.hid hO0
    clear hO0
    have hO1 : ∀ w, Calls Tryd.prog 28 #[.bool (v 0 == 2), .int .i64 (v 5), .int .i64 0, .int .i64 2199023255552] w fun e w' => e = .returned (.bool true) ∧ w = w' := fun w => by rw [← HC1.out]; exact own_any _ _ _ _ w
    have HO1 := Lib.hid hO1
    clear hO1
    have hO2 : ∀ w, Calls Tryd.prog 28 #[.bool (v 0 == 3), .int .i64 (v 8), .int .i64 0, .int .i64 1099511627775] w fun e w' => e = .returned (.bool true) ∧ w = w' := fun w => by rw [← HC2.out]; exact own_any _ _ _ _ w
    have HO2 := Lib.hid hO2
    clear hO2
    have hO3 : ∀ w, Calls Tryd.prog 28 #[.bool (v 0 == 3), .int .i64 (v 9), .int .i64 1, .int .i64 1000] w fun e w' => e = .returned (.bool true) ∧ w = w' := fun w => by rw [← HC3.out]; exact own_any _ _ _ _ w
    have HO3 := Lib.hid hO3
    clear hO3
    have hO4 : ∀ w, Calls Tryd.prog 28 #[.bool (v 0 == 5), .int .i64 (v 10), .int .i64 1, .int .i64 3] w fun e w' => e = .returned (.bool true) ∧ w = w' := fun w => by rw [← HC4.out]; exact own_any _ _ _ _ w
    have HO4 := Lib.hid hO4
    clear hO4
    go_wp2_with fail
    refine (HO0.out _).mono ?_
    rintro e w' ⟨rfl, rfl⟩
    go_wp2_with fail
    refine (HO1.out _).mono ?_
    rintro e w' ⟨rfl, rfl⟩
    go_wp2_with fail
    refine (HO2.out _).mono ?_
    rintro e w' ⟨rfl, rfl⟩
    go_wp2_with fail
    refine (HO3.out _).mono ?_
    rintro e w' ⟨rfl, rfl⟩
    go_wp2_with fail
    refine (HO4.out _).mono ?_
    rintro e w' ⟨rfl, rfl⟩
    go_wp2_with fail
    go_meet
    exact ⟨by rw [show mB6 v = true from by unfold mB6; rw [HC0.out, HC1.out, HC2.out, HC3.out, HC4.out]; rfl]; rw [HPB.out]; rfl, hs5, Lib.hid HM5.out, Lib.hid HB5.out⟩
  case rest =>
  obtain ⟨hsl, hs6, HM6, HB6⟩ := hcut
  subst hsl
  clear HM5 HB5 hs5
  go_upto_region 7 with fail
  go_cut [4] (fun s4 wx => s4 = .bool ((((mB4 v && mB5 v) && mB6 v) && mB7 v)) ∧ S < wx.heap.size ∧ Hid (MAt wx S v A n c) ∧ Hid (Below S w wx))
  case first =>
    have m18 := cellb (i := 18) HM6.out rfl
    have m19 := cellb (i := 19) HM6.out rfl
    have m20 := cellb (i := 20) HM6.out rfl
    obtain ⟨b0, hb0⟩ : ∃ b, (((mB4 v && mB5 v) && mB6 v)) = b := ⟨_, rfl⟩
    rw [hb0]
    have HPB := Lib.hid hb0
    clear hb0
    cases b0
    · go_wp2_with fail
      go_meet
      exact ⟨by rw [HPB.out]; rfl, hs6, Lib.hid HM6.out, Lib.hid HB6.out⟩
    obtain ⟨c0, hc0⟩ : ∃ b, oB (v 0 == 8) (v 18) 0 999 = b := ⟨_, rfl⟩
    have HC0 := Lib.hid hc0
    clear hc0
    cases c0
    ·
      have hO0 : ∀ w, Calls Tryd.prog 28 #[.bool (v 0 == 8), .int .i64 (v 18), .int .i64 0, .int .i64 999] w fun e w' => e = .returned (.bool false) ∧ w = w' := fun w => by rw [← HC0.out]; exact own_any _ _ _ _ w
      have HO0 := Lib.hid hO0
      clear hO0
      go_wp2_with fail
      refine (HO0.out _).mono ?_
      rintro e w' ⟨rfl, rfl⟩
      go_wp2_with fail
      go_meet
      exact ⟨by rw [show mB7 v = false from by unfold mB7; rw [HC0.out]; rfl]; rw [HPB.out]; rfl, hs6, Lib.hid HM6.out, Lib.hid HB6.out⟩
    obtain ⟨c1, hc1⟩ : ∃ b, oB (v 0 == 8) (v 19) 0 100 = b := ⟨_, rfl⟩
    have HC1 := Lib.hid hc1
    clear hc1
    cases c1
    ·
      have hO0 : ∀ w, Calls Tryd.prog 28 #[.bool (v 0 == 8), .int .i64 (v 18), .int .i64 0, .int .i64 999] w fun e w' => e = .returned (.bool true) ∧ w = w' := fun w => by rw [← HC0.out]; exact own_any _ _ _ _ w
      have HO0 := Lib.hid hO0
      clear hO0
      have hO1 : ∀ w, Calls Tryd.prog 28 #[.bool (v 0 == 8), .int .i64 (v 19), .int .i64 0, .int .i64 100] w fun e w' => e = .returned (.bool false) ∧ w = w' := fun w => by rw [← HC1.out]; exact own_any _ _ _ _ w
      have HO1 := Lib.hid hO1
      clear hO1
      go_wp2_with fail
      refine (HO0.out _).mono ?_
      rintro e w' ⟨rfl, rfl⟩
      go_wp2_with fail
      refine (HO1.out _).mono ?_
      rintro e w' ⟨rfl, rfl⟩
      go_wp2_with fail
      go_meet
      exact ⟨by rw [show mB7 v = false from by unfold mB7; rw [HC0.out, HC1.out]; rfl]; rw [HPB.out]; rfl, hs6, Lib.hid HM6.out, Lib.hid HB6.out⟩
    obtain ⟨c2, hc2⟩ : ∃ b, oB (v 0 == 8) (v 20) 0 100 = b := ⟨_, rfl⟩
    have HC2 := Lib.hid hc2
    clear hc2
    cases c2
    ·
      have hO0 : ∀ w, Calls Tryd.prog 28 #[.bool (v 0 == 8), .int .i64 (v 18), .int .i64 0, .int .i64 999] w fun e w' => e = .returned (.bool true) ∧ w = w' := fun w => by rw [← HC0.out]; exact own_any _ _ _ _ w
      have HO0 := Lib.hid hO0
      clear hO0
      have hO1 : ∀ w, Calls Tryd.prog 28 #[.bool (v 0 == 8), .int .i64 (v 19), .int .i64 0, .int .i64 100] w fun e w' => e = .returned (.bool true) ∧ w = w' := fun w => by rw [← HC1.out]; exact own_any _ _ _ _ w
      have HO1 := Lib.hid hO1
      clear hO1
      have hO2 : ∀ w, Calls Tryd.prog 28 #[.bool (v 0 == 8), .int .i64 (v 20), .int .i64 0, .int .i64 100] w fun e w' => e = .returned (.bool false) ∧ w = w' := fun w => by rw [← HC2.out]; exact own_any _ _ _ _ w
      have HO2 := Lib.hid hO2
      clear hO2
      go_wp2_with fail
      refine (HO0.out _).mono ?_
      rintro e w' ⟨rfl, rfl⟩
      go_wp2_with fail
      refine (HO1.out _).mono ?_
      rintro e w' ⟨rfl, rfl⟩
      go_wp2_with fail
      refine (HO2.out _).mono ?_
      rintro e w' ⟨rfl, rfl⟩
      go_wp2_with fail
      go_meet
      exact ⟨by rw [show mB7 v = false from by unfold mB7; rw [HC0.out, HC1.out, HC2.out]; rfl]; rw [HPB.out]; rfl, hs6, Lib.hid HM6.out, Lib.hid HB6.out⟩
    have hO0 : ∀ w, Calls Tryd.prog 28 #[.bool (v 0 == 8), .int .i64 (v 18), .int .i64 0, .int .i64 999] w fun e w' => e = .returned (.bool true) ∧ w = w' := fun w => by rw [← HC0.out]; exact own_any _ _ _ _ w
    have HO0 := Lib.hid hO0
    clear hO0
    have hO1 : ∀ w, Calls Tryd.prog 28 #[.bool (v 0 == 8), .int .i64 (v 19), .int .i64 0, .int .i64 100] w fun e w' => e = .returned (.bool true) ∧ w = w' := fun w => by rw [← HC1.out]; exact own_any _ _ _ _ w
    have HO1 := Lib.hid hO1
    clear hO1
    have hO2 : ∀ w, Calls Tryd.prog 28 #[.bool (v 0 == 8), .int .i64 (v 20), .int .i64 0, .int .i64 100] w fun e w' => e = .returned (.bool true) ∧ w = w' := fun w => by rw [← HC2.out]; exact own_any _ _ _ _ w
    have HO2 := Lib.hid hO2
    clear hO2
    go_wp2_with fail
    refine (HO0.out _).mono ?_
    rintro e w' ⟨rfl, rfl⟩
    go_wp2_with fail
    refine (HO1.out _).mono ?_
    rintro e w' ⟨rfl, rfl⟩
    go_wp2_with fail
    refine (HO2.out _).mono ?_
    rintro e w' ⟨rfl, rfl⟩
    go_wp2_with fail
    go_meet
    exact ⟨by rw [show mB7 v = true from by unfold mB7; rw [HC0.out, HC1.out, HC2.out]; rfl]; rw [HPB.out]; rfl, hs6, Lib.hid HM6.out, Lib.hid HB6.out⟩
  case rest =>
  obtain ⟨hsl, hs7, HM7, HB7⟩ := hcut
  subst hsl
  clear HM6 HB6 hs6
  have m11 := cellb (i := 11) HM7.out rfl
  have m12 := cellb (i := 12) HM7.out rfl
  have m13 := cellb (i := 13) HM7.out rfl
  have m14 := cellb (i := 14) HM7.out rfl
  go_wp2_with fail
  clear m11 m12 m13 m14
  refine (rright_any (v 11) (v 12) (v 13) (v 14) wc).mono ?_
  rintro e w5 ⟨rfl, hb⟩
  have HM8 := Lib.hid (HM7.out.below hb hs7)
  have HB8 := Lib.hid (HB7.out.trans (hb.mono (by omega)))
  clear hb HM7 HB7
  have m11 := cellb (i := 11) HM8.out rfl
  have m12 := cellb (i := 12) HM8.out rfl
  have m13 := cellb (i := 13) HM8.out rfl
  have m14 := cellb (i := 14) HM8.out rfl
  have m17 := cellb (i := 17) HM8.out rfl
  have hfin : ∀ b1 b2 b3 : Bool, ((((mB4 v && mB5 v) && mB6 v) && mB7 v)) = b1 → rgB v = b2 → lnB v n = b3 → mayB v n = (b1 && b2 && b3) := fun b1 b2 b3 h1 h2 h3 => by
    unfold mayB; rw [HBK.out, h1, h2, h3]; rfl
  have HFIN := Lib.hid hfin
  clear hfin
  obtain ⟨b1, hb1⟩ : ∃ b, ((((mB4 v && mB5 v) && mB6 v) && mB7 v)) = b := ⟨_, rfl⟩
  rw [hb1]
  have HB1 := Lib.hid hb1
  clear hb1
  have hrg : ∀ k : Int, v 0 = k → rgB v = if k = 3 then rB (v 11) (v 12) (v 13) (v 14) else decide (v 11 = 0 ∧ v 12 = 0 ∧ v 13 = 0 ∧ v 14 = 0) := fun k h => by unfold rgB; rw [h]
  have hln : ∀ k : Int, v 0 = k → lnB v n = if k = 7 then decide (n ≤ 4096) else decide (n = 0) := fun k h => by unfold lnB; rw [h]
  have HRG := Lib.hid hrg
  have HLN := Lib.hid hln
  clear hrg hln
  obtain ⟨r1, hr1⟩ : ∃ b, rB (v 11) (v 12) (v 13) (v 14) = b := ⟨_, rfl⟩
  rw [hr1]
  have HR1 := Lib.hid hr1
  obtain ⟨r2, hr2⟩ : ∃ b, decide (v 11 = 0 ∧ v 12 = 0 ∧ v 13 = 0 ∧ v 14 = 0) = b := ⟨_, rfl⟩
  have HR2 := Lib.hid hr2
  have q1 : ∀ w, (Go.binOp .eql 23 (.agg #[.int .i64 (v 11), .int .i64 (v 12), .int .i64 (v 13), .int .i64 (v 14)]) (.agg #[.int .i64 0, .int .i64 0, .int .i64 0, .int .i64 0])).run Tryd.prog w = .ok (.bool r2) w := fun w => by rw [eq_vec, HR2.out]
  clear hr1 hr2
  obtain ⟨k, hk⟩ : ∃ k, v 0 = k := ⟨_, rfl⟩
  have HK := Lib.hid hk
  rw [hk]
  clear hk
  by_cases h3 : k = 3
  · subst h3
    have hrg := HRG.out 3 HK.out
    have hln := HLN.out 3 HK.out
    rw [if_pos rfl, HR1.out] at hrg
    rw [if_neg (by decide)] at hln
    have HRG := Lib.hid hrg
    have HLN := Lib.hid hln
    clear hrg hln
    cases b1
    · go_wp2_with fail
      go_ret
      exact ⟨by rw [HFIN.out _ _ _ HB1.out rfl rfl]; rfl, by rw [HSW.out]; exact HB8.out⟩
    cases r1
    · go_wp2_with fail
      go_ret
      exact ⟨by rw [HFIN.out _ _ _ HB1.out HRG.out rfl]; rfl, by rw [HSW.out]; exact HB8.out⟩
    · obtain ⟨bz, hbz⟩ : ∃ b, ((n : Int) == 0) = b := ⟨_, rfl⟩
      have HZ : Hid (decide (n = 0) = bz) := Lib.hid (by rw [← hbz, Bool.eq_iff_iff]; simp)
      go_wp2_with fail
      go_ret
      refine ⟨?_, by rw [HSW.out]; exact HB8.out⟩
      rw [HFIN.out _ _ _ HB1.out HRG.out HLN.out, HZ.out]
      first | rfl | simp [hbz]
  · have n3 : (k != 3) = true := by simpa using h3
    by_cases h7 : k = 7
    · subst h7
      have hrg := HRG.out 7 HK.out
      have hln := HLN.out 7 HK.out
      rw [if_neg (by decide), HR2.out] at hrg
      rw [if_pos rfl] at hln
      have HRG := Lib.hid hrg
      have HLN := Lib.hid hln
      clear hrg hln
      cases b1
      · go_wp2_with fail
        go_ret
        exact ⟨by rw [HFIN.out _ _ _ HB1.out rfl rfl]; rfl, by rw [HSW.out]; exact HB8.out⟩
      cases r2
      · go_wp2_with fail
        go_ret
        exact ⟨by rw [HFIN.out _ _ _ HB1.out HRG.out rfl]; rfl, by rw [HSW.out]; exact HB8.out⟩
      · obtain ⟨bz, hbz⟩ : ∃ b, decide ((n : Int) ≤ 4096) = b := ⟨_, rfl⟩
        have HZ : Hid (decide (n ≤ 4096) = bz) := Lib.hid (by rw [← hbz, Bool.eq_iff_iff]; simp; omega)
        go_wp2_with fail
        go_ret
        refine ⟨?_, by rw [HSW.out]; exact HB8.out⟩
        rw [HFIN.out _ _ _ HB1.out HRG.out HLN.out, HZ.out]
        first | rfl | simp [hbz]
    · have n7 : (k == 7) = false := by simpa using h7
      have hrg := HRG.out k HK.out
      have hln := HLN.out k HK.out
      rw [if_neg h3, HR2.out] at hrg
      rw [if_neg h7] at hln
      have HRG := Lib.hid hrg
      have HLN := Lib.hid hln
      clear hrg hln
      cases b1
      · go_wp2_with fail
        go_ret
        exact ⟨by rw [HFIN.out _ _ _ HB1.out rfl rfl]; rfl, by rw [HSW.out]; exact HB8.out⟩
      cases r2
      · go_wp2_with fail
        go_ret
        exact ⟨by rw [HFIN.out _ _ _ HB1.out HRG.out rfl]; rfl, by rw [HSW.out]; exact HB8.out⟩
      · obtain ⟨bz, hbz⟩ : ∃ b, ((n : Int) == 0) = b := ⟨_, rfl⟩
        have HZ : Hid (decide (n = 0) = bz) := Lib.hid (by rw [← hbz, Bool.eq_iff_iff]; simp)
        go_wp2_with fail
        go_ret
        refine ⟨?_, by rw [HSW.out]; exact HB8.out⟩
        rw [HFIN.out _ _ _ HB1.out HRG.out HLN.out, HZ.out]
        first | rfl | simp [hbz]
end Go.Proofs.YtkenaoejijpgpaaDoor
