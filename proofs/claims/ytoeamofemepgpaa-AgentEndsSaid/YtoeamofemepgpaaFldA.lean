/- The fields of a message of the kinds 1, 2, 4, 5, 6, and of none. -/
import Derived.Test.YtoeamofemepgpaaMsg
import Derived.Test.YtoeamofemepgpaaHeldW
import Derived.Deep.RegionHeld3
namespace Go.Proofs.Ytoeamofemepgpaa
open Go.RowKit

set_option maxRecDepth 100000 in
set_option maxHeartbeats 4000000 in
theorem fields_1 (mb : Nat) (w : World) (v : Nat → Int) (A : Option Addr) (n c : Nat) (hm : MAt w mb v A n c) (hk : v 0 = 1) :
    Calls Try.prog 35 #[.pointer (some ⟨mb, 0, none⟩)] w fun e w' => ∃ R c', e = .returned (.tuple #[.slice R 2 c', .bool true]) ∧ FieldsIn w' w'.heap.size mb R [⟨2, 0, 15⟩, ⟨3, 0, 1099511627775⟩] ∧ Below w.heap.size w w' := by
  have HM := Lib.hid hm
  have hml := ltb hm
  obtain ⟨S, hS⟩ : ∃ S, S = w.heap.size := ⟨_, rfl⟩
  have hkk := cellb (i := 0) hm rfl
  rw [hk] at hkk
  have hkb : (w.alloc (.cells #[.pointer (some ⟨mb, 0, none⟩)] 79)).cell? ⟨mb, 0, none⟩ = some (.int .i64 1) := keepA hkk
  have hpb : (w.alloc (.cells #[.pointer (some ⟨mb, 0, none⟩)] 79)).cell? ⟨S, 0, none⟩ = some (.pointer (some ⟨mb, 0, none⟩)) := by rw [hS]; exact cell_of_one (heap_alloc_new w _)
  have hb0 : Below S w (w.alloc (.cells #[.pointer (some ⟨mb, 0, none⟩)] 79)) := by rw [hS]; exact (Below.refl w.heap.size w).alloc (Nat.le_refl _) _
  have HB0 := Lib.hid hb0
  have HK0 := Lib.hid hkb
  have HP0 := Lib.hid hpb
  have hs0 : S < (w.alloc (.cells #[.pointer (some ⟨mb, 0, none⟩)] 79)).heap.size := by simp [hS]
  have hmS : mb < S := by omega
  have HSW : Hid (w.heap.size = S) := Lib.hid hS.symm
  clear hm hkk hkb hpb hb0
  go_enter Try.func35, Try.ntmps35
  go_wp2_with fail
  rw [← hS]
  clear hS hml
  generalize w.alloc (.cells #[.pointer (some ⟨mb, 0, none⟩)] 79) = w0 at HB0 HK0 HP0 hs0 ⊢
  refine (at_any mb 1 0 1099511627776 w0).mono ?_
  rintro e x0 ⟨pb4, rfl, hge, hlt, hc, hb⟩
  have kz : ∀ O, (x0.alloc O).cell? ⟨S, 0, none⟩ = some (.pointer (some ⟨mb, 0, none⟩)) := fun O => keepA ((hb.cell (p := ⟨S, 0, none⟩) hs0).trans HP0.out)
  have kk : ∀ O, (x0.alloc O).cell? ⟨mb, 0, none⟩ = some (.int .i64 1) := fun O => keepA ((hb.cell (p := ⟨mb, 0, none⟩) (by show mb < _; omega)).trans HK0.out)
  have hsx : S < x0.heap.size := Nat.lt_of_lt_of_le hs0 hb.size
  obtain ⟨b4, hbs4⟩ : ∃ b, b = x0.heap.size := ⟨_, rfl⟩
  have hal : Below x0.heap.size x0 (x0.alloc (.cells #[.func (.func 48) #[] #[.pointer (some ⟨pb4, 0, none⟩)], .func (.func 49) #[] #[.pointer (some ⟨pb4, 0, none⟩)], .int .i64 0, .int .i64 1099511627776] 82)) := (Below.refl _ _).alloc (Nat.le_refl _) _
  have HV4 : Hid (VarAt (x0.alloc (.cells #[.func (.func 48) #[] #[.pointer (some ⟨pb4, 0, none⟩)], .func (.func 49) #[] #[.pointer (some ⟨pb4, 0, none⟩)], .int .i64 0, .int .i64 1099511627776] 82)) b4 pb4 mb 1 0 1099511627776) := Lib.hid ⟨by rw [hbs4]; exact heap_alloc_new x0 _, by omega, by simp; omega, keepA hc⟩
  have HB1 := Lib.hid (HB0.out.trans ((hb.trans (hal.mono hb.size)).mono (by omega)))
  have HK1 := Lib.hid (kk (.cells #[.func (.func 48) #[] #[.pointer (some ⟨pb4, 0, none⟩)], .func (.func 49) #[] #[.pointer (some ⟨pb4, 0, none⟩)], .int .i64 0, .int .i64 1099511627776] 82))
  have HP1 := Lib.hid (kz (.cells #[.func (.func 48) #[] #[.pointer (some ⟨pb4, 0, none⟩)], .func (.func 49) #[] #[.pointer (some ⟨pb4, 0, none⟩)], .int .i64 0, .int .i64 1099511627776] 82))
  have hs1 : S < (x0.alloc (.cells #[.func (.func 48) #[] #[.pointer (some ⟨pb4, 0, none⟩)], .func (.func 49) #[] #[.pointer (some ⟨pb4, 0, none⟩)], .int .i64 0, .int .i64 1099511627776] 82)).heap.size := by simp; omega
  clear hb hal hge hlt hc hsx HB0 HK0 HP0 hs0 kk
  go_wp2_with fail
  rw [← hbs4]
  clear kz hbs4
  generalize x0.alloc (.cells #[.func (.func 48) #[] #[.pointer (some ⟨pb4, 0, none⟩)], .func (.func 49) #[] #[.pointer (some ⟨pb4, 0, none⟩)], .int .i64 0, .int .i64 1099511627776] 82) = w1 at HB1 HK1 HP1 hs1 HV4 ⊢
  have kp := HP1.out
  go_wp2_with fail
  clear kp
  refine (at_any mb 2 0 15 w1).mono ?_
  rintro e x1 ⟨pb5, rfl, hge, hlt, hc, hb⟩
  have kz : ∀ O, (x1.alloc O).cell? ⟨S, 0, none⟩ = some (.pointer (some ⟨mb, 0, none⟩)) := fun O => keepA ((hb.cell (p := ⟨S, 0, none⟩) hs1).trans HP1.out)
  have kk : ∀ O, (x1.alloc O).cell? ⟨mb, 0, none⟩ = some (.int .i64 1) := fun O => keepA ((hb.cell (p := ⟨mb, 0, none⟩) (by show mb < _; omega)).trans HK1.out)
  have hsx : S < x1.heap.size := Nat.lt_of_lt_of_le hs1 hb.size
  obtain ⟨b5, hbs5⟩ : ∃ b, b = x1.heap.size := ⟨_, rfl⟩
  have hal : Below x1.heap.size x1 (x1.alloc (.cells #[.func (.func 48) #[] #[.pointer (some ⟨pb5, 0, none⟩)], .func (.func 49) #[] #[.pointer (some ⟨pb5, 0, none⟩)], .int .i64 0, .int .i64 15] 82)) := (Below.refl _ _).alloc (Nat.le_refl _) _
  have HV5 : Hid (VarAt (x1.alloc (.cells #[.func (.func 48) #[] #[.pointer (some ⟨pb5, 0, none⟩)], .func (.func 49) #[] #[.pointer (some ⟨pb5, 0, none⟩)], .int .i64 0, .int .i64 15] 82)) b5 pb5 mb 2 0 15) := Lib.hid ⟨by rw [hbs5]; exact heap_alloc_new x1 _, by omega, by simp; omega, keepA hc⟩
  have HV4 := Lib.hid ((HV4.out.below hb).below hal)
  have HB2 := Lib.hid (HB1.out.trans ((hb.trans (hal.mono hb.size)).mono (by omega)))
  have HK2 := Lib.hid (kk (.cells #[.func (.func 48) #[] #[.pointer (some ⟨pb5, 0, none⟩)], .func (.func 49) #[] #[.pointer (some ⟨pb5, 0, none⟩)], .int .i64 0, .int .i64 15] 82))
  have HP2 := Lib.hid (kz (.cells #[.func (.func 48) #[] #[.pointer (some ⟨pb5, 0, none⟩)], .func (.func 49) #[] #[.pointer (some ⟨pb5, 0, none⟩)], .int .i64 0, .int .i64 15] 82))
  have hs2 : S < (x1.alloc (.cells #[.func (.func 48) #[] #[.pointer (some ⟨pb5, 0, none⟩)], .func (.func 49) #[] #[.pointer (some ⟨pb5, 0, none⟩)], .int .i64 0, .int .i64 15] 82)).heap.size := by simp; omega
  clear hb hal hge hlt hc hsx HB1 HK1 HP1 hs1 kk
  go_wp2_with fail
  rw [← hbs5]
  clear kz hbs5
  generalize x1.alloc (.cells #[.func (.func 48) #[] #[.pointer (some ⟨pb5, 0, none⟩)], .func (.func 49) #[] #[.pointer (some ⟨pb5, 0, none⟩)], .int .i64 0, .int .i64 15] 82) = w2 at HB2 HK2 HP2 hs2 HV4 HV5 ⊢
  have kp := HP2.out
  go_wp2_with fail
  clear kp
  refine (at_any mb 6 1 100 w2).mono ?_
  rintro e x2 ⟨pb6, rfl, hge, hlt, hc, hb⟩
  have kz : ∀ O, (x2.alloc O).cell? ⟨S, 0, none⟩ = some (.pointer (some ⟨mb, 0, none⟩)) := fun O => keepA ((hb.cell (p := ⟨S, 0, none⟩) hs2).trans HP2.out)
  have kk : ∀ O, (x2.alloc O).cell? ⟨mb, 0, none⟩ = some (.int .i64 1) := fun O => keepA ((hb.cell (p := ⟨mb, 0, none⟩) (by show mb < _; omega)).trans HK2.out)
  have hsx : S < x2.heap.size := Nat.lt_of_lt_of_le hs2 hb.size
  obtain ⟨b6, hbs6⟩ : ∃ b, b = x2.heap.size := ⟨_, rfl⟩
  have hal : Below x2.heap.size x2 (x2.alloc (.cells #[.func (.func 48) #[] #[.pointer (some ⟨pb6, 0, none⟩)], .func (.func 49) #[] #[.pointer (some ⟨pb6, 0, none⟩)], .int .i64 1, .int .i64 100] 82)) := (Below.refl _ _).alloc (Nat.le_refl _) _
  have HV6 : Hid (VarAt (x2.alloc (.cells #[.func (.func 48) #[] #[.pointer (some ⟨pb6, 0, none⟩)], .func (.func 49) #[] #[.pointer (some ⟨pb6, 0, none⟩)], .int .i64 1, .int .i64 100] 82)) b6 pb6 mb 6 1 100) := Lib.hid ⟨by rw [hbs6]; exact heap_alloc_new x2 _, by omega, by simp; omega, keepA hc⟩
  have HV4 := Lib.hid ((HV4.out.below hb).below hal)
  have HV5 := Lib.hid ((HV5.out.below hb).below hal)
  have HB3 := Lib.hid (HB2.out.trans ((hb.trans (hal.mono hb.size)).mono (by omega)))
  have HK3 := Lib.hid (kk (.cells #[.func (.func 48) #[] #[.pointer (some ⟨pb6, 0, none⟩)], .func (.func 49) #[] #[.pointer (some ⟨pb6, 0, none⟩)], .int .i64 1, .int .i64 100] 82))
  have HP3 := Lib.hid (kz (.cells #[.func (.func 48) #[] #[.pointer (some ⟨pb6, 0, none⟩)], .func (.func 49) #[] #[.pointer (some ⟨pb6, 0, none⟩)], .int .i64 1, .int .i64 100] 82))
  have hs3 : S < (x2.alloc (.cells #[.func (.func 48) #[] #[.pointer (some ⟨pb6, 0, none⟩)], .func (.func 49) #[] #[.pointer (some ⟨pb6, 0, none⟩)], .int .i64 1, .int .i64 100] 82)).heap.size := by simp; omega
  clear hb hal hge hlt hc hsx HB2 HK2 HP2 hs2 kk
  go_wp2_with fail
  rw [← hbs6]
  clear kz hbs6
  generalize x2.alloc (.cells #[.func (.func 48) #[] #[.pointer (some ⟨pb6, 0, none⟩)], .func (.func 49) #[] #[.pointer (some ⟨pb6, 0, none⟩)], .int .i64 1, .int .i64 100] 82) = w3 at HB3 HK3 HP3 hs3 HV4 HV5 HV6 ⊢
  have kp := HP3.out
  go_wp2_with fail
  clear kp
  refine (at_any mb 7 1 6 w3).mono ?_
  rintro e x3 ⟨pb7, rfl, hge, hlt, hc, hb⟩
  have kz : ∀ O, (x3.alloc O).cell? ⟨S, 0, none⟩ = some (.pointer (some ⟨mb, 0, none⟩)) := fun O => keepA ((hb.cell (p := ⟨S, 0, none⟩) hs3).trans HP3.out)
  have kk : ∀ O, (x3.alloc O).cell? ⟨mb, 0, none⟩ = some (.int .i64 1) := fun O => keepA ((hb.cell (p := ⟨mb, 0, none⟩) (by show mb < _; omega)).trans HK3.out)
  have hsx : S < x3.heap.size := Nat.lt_of_lt_of_le hs3 hb.size
  obtain ⟨b7, hbs7⟩ : ∃ b, b = x3.heap.size := ⟨_, rfl⟩
  have hal : Below x3.heap.size x3 (x3.alloc (.cells #[.func (.func 48) #[] #[.pointer (some ⟨pb7, 0, none⟩)], .func (.func 49) #[] #[.pointer (some ⟨pb7, 0, none⟩)], .int .i64 1, .int .i64 6] 82)) := (Below.refl _ _).alloc (Nat.le_refl _) _
  have HV7 : Hid (VarAt (x3.alloc (.cells #[.func (.func 48) #[] #[.pointer (some ⟨pb7, 0, none⟩)], .func (.func 49) #[] #[.pointer (some ⟨pb7, 0, none⟩)], .int .i64 1, .int .i64 6] 82)) b7 pb7 mb 7 1 6) := Lib.hid ⟨by rw [hbs7]; exact heap_alloc_new x3 _, by omega, by simp; omega, keepA hc⟩
  have HV4 := Lib.hid ((HV4.out.below hb).below hal)
  have HV5 := Lib.hid ((HV5.out.below hb).below hal)
  have HV6 := Lib.hid ((HV6.out.below hb).below hal)
  have HB4 := Lib.hid (HB3.out.trans ((hb.trans (hal.mono hb.size)).mono (by omega)))
  have HK4 := Lib.hid (kk (.cells #[.func (.func 48) #[] #[.pointer (some ⟨pb7, 0, none⟩)], .func (.func 49) #[] #[.pointer (some ⟨pb7, 0, none⟩)], .int .i64 1, .int .i64 6] 82))
  have HP4 := Lib.hid (kz (.cells #[.func (.func 48) #[] #[.pointer (some ⟨pb7, 0, none⟩)], .func (.func 49) #[] #[.pointer (some ⟨pb7, 0, none⟩)], .int .i64 1, .int .i64 6] 82))
  have hs4 : S < (x3.alloc (.cells #[.func (.func 48) #[] #[.pointer (some ⟨pb7, 0, none⟩)], .func (.func 49) #[] #[.pointer (some ⟨pb7, 0, none⟩)], .int .i64 1, .int .i64 6] 82)).heap.size := by simp; omega
  clear hb hal hge hlt hc hsx HB3 HK3 HP3 hs3 kk
  go_wp2_with fail
  rw [← hbs7]
  clear kz hbs7
  generalize x3.alloc (.cells #[.func (.func 48) #[] #[.pointer (some ⟨pb7, 0, none⟩)], .func (.func 49) #[] #[.pointer (some ⟨pb7, 0, none⟩)], .int .i64 1, .int .i64 6] 82) = w4 at HB4 HK4 HP4 hs4 HV4 HV5 HV6 HV7 ⊢
  have kp := HP4.out
  go_wp2_with fail
  clear kp
  refine (at_any mb 15 1 16 w4).mono ?_
  rintro e x4 ⟨pb8, rfl, hge, hlt, hc, hb⟩
  have kz : ∀ O, (x4.alloc O).cell? ⟨S, 0, none⟩ = some (.pointer (some ⟨mb, 0, none⟩)) := fun O => keepA ((hb.cell (p := ⟨S, 0, none⟩) hs4).trans HP4.out)
  have kk : ∀ O, (x4.alloc O).cell? ⟨mb, 0, none⟩ = some (.int .i64 1) := fun O => keepA ((hb.cell (p := ⟨mb, 0, none⟩) (by show mb < _; omega)).trans HK4.out)
  have hsx : S < x4.heap.size := Nat.lt_of_lt_of_le hs4 hb.size
  obtain ⟨b8, hbs8⟩ : ∃ b, b = x4.heap.size := ⟨_, rfl⟩
  have hal : Below x4.heap.size x4 (x4.alloc (.cells #[.func (.func 48) #[] #[.pointer (some ⟨pb8, 0, none⟩)], .func (.func 49) #[] #[.pointer (some ⟨pb8, 0, none⟩)], .int .i64 1, .int .i64 16] 82)) := (Below.refl _ _).alloc (Nat.le_refl _) _
  have HV8 : Hid (VarAt (x4.alloc (.cells #[.func (.func 48) #[] #[.pointer (some ⟨pb8, 0, none⟩)], .func (.func 49) #[] #[.pointer (some ⟨pb8, 0, none⟩)], .int .i64 1, .int .i64 16] 82)) b8 pb8 mb 15 1 16) := Lib.hid ⟨by rw [hbs8]; exact heap_alloc_new x4 _, by omega, by simp; omega, keepA hc⟩
  have HV4 := Lib.hid ((HV4.out.below hb).below hal)
  have HV5 := Lib.hid ((HV5.out.below hb).below hal)
  have HV6 := Lib.hid ((HV6.out.below hb).below hal)
  have HV7 := Lib.hid ((HV7.out.below hb).below hal)
  have HB5 := Lib.hid (HB4.out.trans ((hb.trans (hal.mono hb.size)).mono (by omega)))
  have HK5 := Lib.hid (kk (.cells #[.func (.func 48) #[] #[.pointer (some ⟨pb8, 0, none⟩)], .func (.func 49) #[] #[.pointer (some ⟨pb8, 0, none⟩)], .int .i64 1, .int .i64 16] 82))
  have HP5 := Lib.hid (kz (.cells #[.func (.func 48) #[] #[.pointer (some ⟨pb8, 0, none⟩)], .func (.func 49) #[] #[.pointer (some ⟨pb8, 0, none⟩)], .int .i64 1, .int .i64 16] 82))
  have hs5 : S < (x4.alloc (.cells #[.func (.func 48) #[] #[.pointer (some ⟨pb8, 0, none⟩)], .func (.func 49) #[] #[.pointer (some ⟨pb8, 0, none⟩)], .int .i64 1, .int .i64 16] 82)).heap.size := by simp; omega
  clear hb hal hge hlt hc hsx HB4 HK4 HP4 hs4 kk
  go_wp2_with fail
  rw [← hbs8]
  clear kz hbs8
  generalize x4.alloc (.cells #[.func (.func 48) #[] #[.pointer (some ⟨pb8, 0, none⟩)], .func (.func 49) #[] #[.pointer (some ⟨pb8, 0, none⟩)], .int .i64 1, .int .i64 16] 82) = w5 at HB5 HK5 HP5 hs5 HV4 HV5 HV6 HV7 HV8 ⊢
  have kp := HP5.out
  go_wp2_with fail
  clear kp
  refine (at_any mb 16 1 1099511627776 w5).mono ?_
  rintro e x5 ⟨pb9, rfl, hge, hlt, hc, hb⟩
  have kz : ∀ O, (x5.alloc O).cell? ⟨S, 0, none⟩ = some (.pointer (some ⟨mb, 0, none⟩)) := fun O => keepA ((hb.cell (p := ⟨S, 0, none⟩) hs5).trans HP5.out)
  have kk : ∀ O, (x5.alloc O).cell? ⟨mb, 0, none⟩ = some (.int .i64 1) := fun O => keepA ((hb.cell (p := ⟨mb, 0, none⟩) (by show mb < _; omega)).trans HK5.out)
  have hsx : S < x5.heap.size := Nat.lt_of_lt_of_le hs5 hb.size
  obtain ⟨b9, hbs9⟩ : ∃ b, b = x5.heap.size := ⟨_, rfl⟩
  have hal : Below x5.heap.size x5 (x5.alloc (.cells #[.func (.func 48) #[] #[.pointer (some ⟨pb9, 0, none⟩)], .func (.func 49) #[] #[.pointer (some ⟨pb9, 0, none⟩)], .int .i64 1, .int .i64 1099511627776] 82)) := (Below.refl _ _).alloc (Nat.le_refl _) _
  have HV9 : Hid (VarAt (x5.alloc (.cells #[.func (.func 48) #[] #[.pointer (some ⟨pb9, 0, none⟩)], .func (.func 49) #[] #[.pointer (some ⟨pb9, 0, none⟩)], .int .i64 1, .int .i64 1099511627776] 82)) b9 pb9 mb 16 1 1099511627776) := Lib.hid ⟨by rw [hbs9]; exact heap_alloc_new x5 _, by omega, by simp; omega, keepA hc⟩
  have HV4 := Lib.hid ((HV4.out.below hb).below hal)
  have HV5 := Lib.hid ((HV5.out.below hb).below hal)
  have HV6 := Lib.hid ((HV6.out.below hb).below hal)
  have HV7 := Lib.hid ((HV7.out.below hb).below hal)
  have HV8 := Lib.hid ((HV8.out.below hb).below hal)
  have HB6 := Lib.hid (HB5.out.trans ((hb.trans (hal.mono hb.size)).mono (by omega)))
  have HK6 := Lib.hid (kk (.cells #[.func (.func 48) #[] #[.pointer (some ⟨pb9, 0, none⟩)], .func (.func 49) #[] #[.pointer (some ⟨pb9, 0, none⟩)], .int .i64 1, .int .i64 1099511627776] 82))
  have HP6 := Lib.hid (kz (.cells #[.func (.func 48) #[] #[.pointer (some ⟨pb9, 0, none⟩)], .func (.func 49) #[] #[.pointer (some ⟨pb9, 0, none⟩)], .int .i64 1, .int .i64 1099511627776] 82))
  have hs6 : S < (x5.alloc (.cells #[.func (.func 48) #[] #[.pointer (some ⟨pb9, 0, none⟩)], .func (.func 49) #[] #[.pointer (some ⟨pb9, 0, none⟩)], .int .i64 1, .int .i64 1099511627776] 82)).heap.size := by simp; omega
  clear hb hal hge hlt hc hsx HB5 HK5 HP5 hs5
  go_wp2_with fail
  rw [← hbs9]
  clear kz kk 
  have hz6 : (x5.alloc (.cells #[.func (.func 48) #[] #[.pointer (some ⟨pb9, 0, none⟩)], .func (.func 49) #[] #[.pointer (some ⟨pb9, 0, none⟩)], .int .i64 1, .int .i64 1099511627776] 82)).heap.size = b9 + 1 := by have := hs6; rw [hbs9]; simp
  clear hbs9
  generalize x5.alloc (.cells #[.func (.func 48) #[] #[.pointer (some ⟨pb9, 0, none⟩)], .func (.func 49) #[] #[.pointer (some ⟨pb9, 0, none⟩)], .int .i64 1, .int .i64 1099511627776] 82) = w6 at HB6 HK6 HP6 hs6 hz6 HV4 HV5 HV6 HV7 HV8 HV9 ⊢
  have hd : Below w6.heap.size w6 w6.drew := (Below.refl _ _).drew
  have HV5 := Lib.hid (HV5.out.below hd)
  have HP6 : Hid (w6.drew.cell? ⟨S, 0, none⟩ = some (.pointer (some ⟨mb, 0, none⟩))) := HP6
  have HB6 := Lib.hid HB6.out.drew
  have hs6 : S < w6.drew.heap.size := hs6
  clear hd HK6 hz6 HV4 HV6 HV7 HV8 HV9
  have f6_b5_0 : w6.drew.cell? ⟨b5, 0, none⟩ = some (.func (.func 48) #[] #[.pointer (some ⟨pb5, 0, none⟩)]) := cellb HV5.out.blk rfl
  have f6_b5_1 : w6.drew.cell? ⟨b5, 1, none⟩ = some (.func (.func 49) #[] #[.pointer (some ⟨pb5, 0, none⟩)]) := cellb HV5.out.blk rfl
  have f6_b5_2 : w6.drew.cell? ⟨b5, 2, none⟩ = some (.int .i64 0) := cellb HV5.out.blk rfl
  have f6_b5_3 : w6.drew.cell? ⟨b5, 3, none⟩ = some (.int .i64 15) := cellb HV5.out.blk rfl
  have f6_p : w6.drew.cell? ⟨S, 0, none⟩ = some (.pointer (some ⟨mb, 0, none⟩)) := HP6.out
  refine wp_region_noPanic ?_
  refine wp_region_held_drew (S := fun w' => w'.cell? ⟨b5, 0, none⟩ = some (.func (.func 48) #[] #[.pointer (some ⟨pb5, 0, none⟩)]) ∧ w'.cell? ⟨b5, 1, none⟩ = some (.func (.func 49) #[] #[.pointer (some ⟨pb5, 0, none⟩)]) ∧ w'.cell? ⟨b5, 2, none⟩ = some (.int .i64 0) ∧ w'.cell? ⟨b5, 3, none⟩ = some (.int .i64 15) ∧ w'.cell? ⟨S, 0, none⟩ = some (.pointer (some ⟨mb, 0, none⟩))) (by kernel_rfl) ?_ (fun hHeld => ?_)
  · try dsimp only
    (refine ⟨?_, ?_, ?_, ?_, ?_⟩ <;> (first | with_reducible assumption))
  refine wpAnyH_take (i := 0) (v := ?_) (by (simp only [List.getElem?_toArray, List.getElem?_cons_zero]; rfl)) (by kernel_rfl) (by kernel_rfl) (by kernel_rfl) (fun _ _ _ h => h) (Or.inl ⟨by rfl, ?_⟩) (by assumption) ?_
  rotate_left
  · (intro w hSw; (try dsimp only at hSw); go_simp; try with_reducible rfl)
  try simp only [Act.put, List.setIfInBounds_toArray, List.set_cons_zero, List.set_cons_succ]
  refine wpAnyH_take (i := 1) (v := ?_) (by (simp only [List.getElem?_toArray, List.getElem?_cons_succ, List.getElem?_cons_zero]; rfl)) (by kernel_rfl) (by kernel_rfl) (by kernel_rfl) (fun _ _ _ h => h) (Or.inl ⟨by rfl, ?_⟩) (by assumption) ?_
  rotate_left
  · (intro w hSw; (try dsimp only at hSw); go_simp; try with_reducible rfl)
  try simp only [Act.put, List.setIfInBounds_toArray, List.set_cons_zero, List.set_cons_succ]
  refine wpAnyH_take (i := 2) (v := ?_) (by (simp only [List.getElem?_toArray, List.getElem?_cons_succ, List.getElem?_cons_zero]; rfl)) (by kernel_rfl) (by kernel_rfl) (by kernel_rfl) (fun _ _ _ h => h) (Or.inl ⟨by rfl, ?_⟩) (by assumption) ?_
  rotate_left
  · (intro w hSw; (try dsimp only at hSw); go_simp; try with_reducible rfl)
  try simp only [Act.put, List.setIfInBounds_toArray, List.set_cons_zero, List.set_cons_succ]
  refine wpAnyH_take (i := 3) (v := ?_) (by (simp only [List.getElem?_toArray, List.getElem?_cons_succ, List.getElem?_cons_zero]; rfl)) (by kernel_rfl) (by kernel_rfl) (by kernel_rfl) (fun _ _ _ h => h) (Or.inl ⟨by rfl, ?_⟩) (by assumption) ?_
  rotate_left
  · (intro w hSw; (try dsimp only at hSw); go_simp; try with_reducible rfl)
  try simp only [Act.put, List.setIfInBounds_toArray, List.set_cons_zero, List.set_cons_succ]
  refine wpAnyH_ready (rs := [4]) (by kernel_rfl) (by simp) ?_
  refine AllReadyH.cons (by (simp only [List.getElem?_toArray, List.getElem?_cons_succ, List.getElem?_cons_zero]; rfl)) (fun K hK => ?_) AllReadyH.nil
  go_simp
  refine (at_any mb 3 0 1099511627775 w6.drew).mono ?_
  rintro e w7 ⟨pc3, rfl, ge7, lt7, pt7, hb⟩
  have HV5 := Lib.hid (HV5.out.below hb)
  have HP7 := Lib.hid ((hb.cell (p := ⟨S, 0, none⟩) hs6).trans HP6.out)
  have HB7 := Lib.hid (HB6.out.trans (hb.mono (by omega)))
  have hs7 : S < w7.heap.size := Nat.lt_of_lt_of_le hs6 hb.size
  have f7_b5_0 : w7.cell? ⟨b5, 0, none⟩ = some (.func (.func 48) #[] #[.pointer (some ⟨pb5, 0, none⟩)]) := cellb HV5.out.blk rfl
  have f7_b5_1 : w7.cell? ⟨b5, 1, none⟩ = some (.func (.func 49) #[] #[.pointer (some ⟨pb5, 0, none⟩)]) := cellb HV5.out.blk rfl
  have f7_b5_2 : w7.cell? ⟨b5, 2, none⟩ = some (.int .i64 0) := cellb HV5.out.blk rfl
  have f7_b5_3 : w7.cell? ⟨b5, 3, none⟩ = some (.int .i64 15) := cellb HV5.out.blk rfl
  have f7_p : w7.cell? ⟨S, 0, none⟩ = some (.pointer (some ⟨mb, 0, none⟩)) := HP7.out
  have gt7 : mb < pc3 := by omega
  clear hb ge7
  refine hK.out _ _ ?_ (fun hHeld => ?_)
  · try dsimp only
    (refine ⟨?_, ?_, ?_, ?_, ?_⟩ <;> (first | with_reducible assumption))
  clear hK K
  try simp only [Act.put, List.setIfInBounds_toArray, List.set_cons_zero, List.set_cons_succ]
  refine wpAnyH_ready (rs := [5]) (by kernel_rfl) (by simp) ?_
  refine AllReadyH.cons (by (simp only [List.getElem?_toArray, List.getElem?_cons_succ, List.getElem?_cons_zero]; rfl)) (fun K hK => ?_) AllReadyH.nil
  go_simp
  have hrow := heap_alloc_new w7 (.cells #[.func (.func 48) #[] #[.pointer (some ⟨pb5, 0, none⟩)], .func (.func 49) #[] #[.pointer (some ⟨pb5, 0, none⟩)], .int .i64 0, .int .i64 15, .func (.func 48) #[] #[.pointer (some ⟨pc3, 0, none⟩)], .func (.func 49) #[] #[.pointer (some ⟨pc3, 0, none⟩)], .int .i64 0, .int .i64 1099511627775] 82)
  have hal : Below w7.heap.size w7 (w7.alloc (.cells #[.func (.func 48) #[] #[.pointer (some ⟨pb5, 0, none⟩)], .func (.func 49) #[] #[.pointer (some ⟨pb5, 0, none⟩)], .int .i64 0, .int .i64 15, .func (.func 48) #[] #[.pointer (some ⟨pc3, 0, none⟩)], .func (.func 49) #[] #[.pointer (some ⟨pc3, 0, none⟩)], .int .i64 0, .int .i64 1099511627775] 82)) := (Below.refl _ _).alloc (Nat.le_refl _) _
  obtain ⟨R, hR⟩ : ∃ R, R = w7.heap.size := ⟨_, rfl⟩
  have hmR : mb < R := by omega
  rw [← hR] at hrow ⊢
  have HV5 := Lib.hid (HV5.out.below hal)
  have HP8 := Lib.hid (keepA (o := (.cells #[.func (.func 48) #[] #[.pointer (some ⟨pb5, 0, none⟩)], .func (.func 49) #[] #[.pointer (some ⟨pb5, 0, none⟩)], .int .i64 0, .int .i64 15, .func (.func 48) #[] #[.pointer (some ⟨pc3, 0, none⟩)], .func (.func 49) #[] #[.pointer (some ⟨pc3, 0, none⟩)], .int .i64 0, .int .i64 1099511627775] 82)) HP7.out)
  have HR := Lib.hid hrow
  have HB8 := Lib.hid (HB7.out.trans (hal.mono (by omega)))
  have lt7b : pc3 < (w7.alloc (.cells #[.func (.func 48) #[] #[.pointer (some ⟨pb5, 0, none⟩)], .func (.func 49) #[] #[.pointer (some ⟨pb5, 0, none⟩)], .int .i64 0, .int .i64 15, .func (.func 48) #[] #[.pointer (some ⟨pc3, 0, none⟩)], .func (.func 49) #[] #[.pointer (some ⟨pc3, 0, none⟩)], .int .i64 0, .int .i64 1099511627775] 82)).heap.size := by simp; omega
  have pt7b := keepA (o := (.cells #[.func (.func 48) #[] #[.pointer (some ⟨pb5, 0, none⟩)], .func (.func 49) #[] #[.pointer (some ⟨pb5, 0, none⟩)], .int .i64 0, .int .i64 15, .func (.func 48) #[] #[.pointer (some ⟨pc3, 0, none⟩)], .func (.func 49) #[] #[.pointer (some ⟨pc3, 0, none⟩)], .int .i64 0, .int .i64 1099511627775] 82)) pt7
  have hs8 : S < (w7.alloc (.cells #[.func (.func 48) #[] #[.pointer (some ⟨pb5, 0, none⟩)], .func (.func 49) #[] #[.pointer (some ⟨pb5, 0, none⟩)], .int .i64 0, .int .i64 15, .func (.func 48) #[] #[.pointer (some ⟨pc3, 0, none⟩)], .func (.func 49) #[] #[.pointer (some ⟨pc3, 0, none⟩)], .int .i64 0, .int .i64 1099511627775] 82)).heap.size := by simp; omega
  clear hrow hal hR pt7 lt7
  generalize (w7.alloc (.cells #[.func (.func 48) #[] #[.pointer (some ⟨pb5, 0, none⟩)], .func (.func 49) #[] #[.pointer (some ⟨pb5, 0, none⟩)], .int .i64 0, .int .i64 15, .func (.func 48) #[] #[.pointer (some ⟨pc3, 0, none⟩)], .func (.func 49) #[] #[.pointer (some ⟨pc3, 0, none⟩)], .int .i64 0, .int .i64 1099511627775] 82)) = w8 at HV5 HP8 HR HB8 lt7b pt7b hs8 ⊢
  have f8_b5_0 : w8.cell? ⟨b5, 0, none⟩ = some (.func (.func 48) #[] #[.pointer (some ⟨pb5, 0, none⟩)]) := cellb HV5.out.blk rfl
  have f8_b5_1 : w8.cell? ⟨b5, 1, none⟩ = some (.func (.func 49) #[] #[.pointer (some ⟨pb5, 0, none⟩)]) := cellb HV5.out.blk rfl
  have f8_b5_2 : w8.cell? ⟨b5, 2, none⟩ = some (.int .i64 0) := cellb HV5.out.blk rfl
  have f8_b5_3 : w8.cell? ⟨b5, 3, none⟩ = some (.int .i64 15) := cellb HV5.out.blk rfl
  have f8_p : w8.cell? ⟨S, 0, none⟩ = some (.pointer (some ⟨mb, 0, none⟩)) := HP8.out
  refine hK.out _ _ ?_ (fun hHeld => ?_)
  · try dsimp only
    (refine ⟨?_, ?_, ?_, ?_, ?_⟩ <;> (first | with_reducible assumption))
  clear hK K
  try simp only [Act.put, List.setIfInBounds_toArray, List.set_cons_zero, List.set_cons_succ]
  refine wpAnyH_ready (rs := [6]) (by kernel_rfl) (by simp) ?_
  refine AllReadyH.cons (by (simp only [List.getElem?_toArray, List.getElem?_cons_succ, List.getElem?_cons_zero]; rfl)) (fun K hK => ?_) AllReadyH.nil
  go_simp
  refine (all_any _ _ _ _).mono ?_
  rintro e w' ⟨rfl, rfl⟩
  refine hK.out _ _ ?_ (fun hHeld => ?_)
  · try dsimp only
    (refine ⟨?_, ?_, ?_, ?_, ?_⟩ <;> (first | with_reducible assumption))
  clear hK K
  try simp only [Act.put, List.setIfInBounds_toArray, List.set_cons_zero, List.set_cons_succ]
  refine wpAnyH_take (i := 7) (v := ?_) (by (simp only [List.getElem?_toArray, List.getElem?_cons_succ, List.getElem?_cons_zero]; rfl)) (by kernel_rfl) (by kernel_rfl) (by kernel_rfl) (fun _ _ _ h => h) (Or.inl ⟨by rfl, ?_⟩) (by assumption) ?_
  rotate_left
  · (intro w hSw; (try dsimp only at hSw); go_simp; try with_reducible rfl)
  try simp only [Act.put, List.setIfInBounds_toArray, List.set_cons_zero, List.set_cons_succ]
  refine wpAnyH_take (i := 8) (v := ?_) (by (simp only [List.getElem?_toArray, List.getElem?_cons_succ, List.getElem?_cons_zero]; rfl)) (by kernel_rfl) (by kernel_rfl) (by kernel_rfl) (fun _ _ _ h => h) (Or.inl ⟨by rfl, ?_⟩) (by assumption) ?_
  rotate_left
  · (intro w hSw; (try dsimp only at hSw); go_simp; try with_reducible rfl)
  try simp only [Act.put, List.setIfInBounds_toArray, List.set_cons_zero, List.set_cons_succ]
  refine wpAnyH_done (by kernel_rfl) ?_ _
  refine NoPanic.normal ?_
  clear hHeld f6_b5_0 f6_b5_1 f6_b5_2 f6_b5_3 f7_b5_0 f7_b5_1 f7_b5_2 f7_b5_3 f8_b5_0 f8_b5_1 f8_b5_2 f8_b5_3 f6_p f7_p f8_p
  have hrow := HR.out
  have V5 := HV5.out
  have hF : FieldsIn w8 w8.heap.size mb (some ⟨R, 0, none⟩) [⟨2, 0, 15⟩, ⟨3, 0, 1099511627775⟩] := by
    refine .inr ⟨R, rfl, by omega, ltb hrow, fun i f hf => ?_⟩
    have hi : i < 2 := (List.getElem?_eq_some_iff.1 hf).1
    have hi : i = 0 ∨ i = 1 := by omega
    rcases hi with rfl | rfl
    · obtain rfl := Option.some.inj hf
      exact ⟨_, _, .inl ⟨pb5, V5.gt, V5.lt, rfl, rfl, V5.ptr⟩, cellb hrow rfl, cellb hrow rfl, cellb hrow rfl, cellb hrow rfl⟩
    · obtain rfl := Option.some.inj hf
      exact ⟨_, _, .inl ⟨pc3, gt7, lt7b, rfl, rfl, pt7b⟩, cellb hrow rfl, cellb hrow rfl, cellb hrow rfl, cellb hrow rfl⟩
  have HF := Lib.hid hF
  clear hrow V5 hF
  go_wp2_with fail
  refine bodyPost_ret (v := .tuple #[.slice (some ⟨R, 0, none⟩) 2 2, .bool true]) (by simp [results, Try.results35, go_sem]) rfl ?_
  exact ⟨_, _, rfl, HF.out, by rw [HSW.out]; exact HB8.out⟩

set_option maxRecDepth 100000 in
set_option maxHeartbeats 4000000 in
theorem fields_2 (mb : Nat) (w : World) (v : Nat → Int) (A : Option Addr) (n c : Nat) (hm : MAt w mb v A n c) (hk : v 0 = 2) :
    Calls Try.prog 35 #[.pointer (some ⟨mb, 0, none⟩)] w fun e w' => ∃ R c', e = .returned (.tuple #[.slice R 4 c', .bool true]) ∧ FieldsIn w' w'.heap.size mb R [⟨1, 0, 1099511627776⟩, ⟨2, 0, 15⟩, ⟨4, 0, 1099511627775⟩, ⟨5, 0, 2199023255552⟩] ∧ Below w.heap.size w w' := by
  have HM := Lib.hid hm
  have hml := ltb hm
  obtain ⟨S, hS⟩ : ∃ S, S = w.heap.size := ⟨_, rfl⟩
  have hkk := cellb (i := 0) hm rfl
  rw [hk] at hkk
  have hkb : (w.alloc (.cells #[.pointer (some ⟨mb, 0, none⟩)] 79)).cell? ⟨mb, 0, none⟩ = some (.int .i64 2) := keepA hkk
  have hpb : (w.alloc (.cells #[.pointer (some ⟨mb, 0, none⟩)] 79)).cell? ⟨S, 0, none⟩ = some (.pointer (some ⟨mb, 0, none⟩)) := by rw [hS]; exact cell_of_one (heap_alloc_new w _)
  have hb0 : Below S w (w.alloc (.cells #[.pointer (some ⟨mb, 0, none⟩)] 79)) := by rw [hS]; exact (Below.refl w.heap.size w).alloc (Nat.le_refl _) _
  have HB0 := Lib.hid hb0
  have HK0 := Lib.hid hkb
  have HP0 := Lib.hid hpb
  have hs0 : S < (w.alloc (.cells #[.pointer (some ⟨mb, 0, none⟩)] 79)).heap.size := by simp [hS]
  have hmS : mb < S := by omega
  have HSW : Hid (w.heap.size = S) := Lib.hid hS.symm
  clear hm hkk hkb hpb hb0
  go_enter Try.func35, Try.ntmps35
  go_wp2_with fail
  rw [← hS]
  clear hS hml
  generalize w.alloc (.cells #[.pointer (some ⟨mb, 0, none⟩)] 79) = w0 at HB0 HK0 HP0 hs0 ⊢
  refine (at_any mb 1 0 1099511627776 w0).mono ?_
  rintro e x0 ⟨pb4, rfl, hge, hlt, hc, hb⟩
  have kz : ∀ O, (x0.alloc O).cell? ⟨S, 0, none⟩ = some (.pointer (some ⟨mb, 0, none⟩)) := fun O => keepA ((hb.cell (p := ⟨S, 0, none⟩) hs0).trans HP0.out)
  have kk : ∀ O, (x0.alloc O).cell? ⟨mb, 0, none⟩ = some (.int .i64 2) := fun O => keepA ((hb.cell (p := ⟨mb, 0, none⟩) (by show mb < _; omega)).trans HK0.out)
  have hsx : S < x0.heap.size := Nat.lt_of_lt_of_le hs0 hb.size
  obtain ⟨b4, hbs4⟩ : ∃ b, b = x0.heap.size := ⟨_, rfl⟩
  have hal : Below x0.heap.size x0 (x0.alloc (.cells #[.func (.func 48) #[] #[.pointer (some ⟨pb4, 0, none⟩)], .func (.func 49) #[] #[.pointer (some ⟨pb4, 0, none⟩)], .int .i64 0, .int .i64 1099511627776] 82)) := (Below.refl _ _).alloc (Nat.le_refl _) _
  have HV4 : Hid (VarAt (x0.alloc (.cells #[.func (.func 48) #[] #[.pointer (some ⟨pb4, 0, none⟩)], .func (.func 49) #[] #[.pointer (some ⟨pb4, 0, none⟩)], .int .i64 0, .int .i64 1099511627776] 82)) b4 pb4 mb 1 0 1099511627776) := Lib.hid ⟨by rw [hbs4]; exact heap_alloc_new x0 _, by omega, by simp; omega, keepA hc⟩
  have HB1 := Lib.hid (HB0.out.trans ((hb.trans (hal.mono hb.size)).mono (by omega)))
  have HK1 := Lib.hid (kk (.cells #[.func (.func 48) #[] #[.pointer (some ⟨pb4, 0, none⟩)], .func (.func 49) #[] #[.pointer (some ⟨pb4, 0, none⟩)], .int .i64 0, .int .i64 1099511627776] 82))
  have HP1 := Lib.hid (kz (.cells #[.func (.func 48) #[] #[.pointer (some ⟨pb4, 0, none⟩)], .func (.func 49) #[] #[.pointer (some ⟨pb4, 0, none⟩)], .int .i64 0, .int .i64 1099511627776] 82))
  have hs1 : S < (x0.alloc (.cells #[.func (.func 48) #[] #[.pointer (some ⟨pb4, 0, none⟩)], .func (.func 49) #[] #[.pointer (some ⟨pb4, 0, none⟩)], .int .i64 0, .int .i64 1099511627776] 82)).heap.size := by simp; omega
  clear hb hal hge hlt hc hsx HB0 HK0 HP0 hs0 kk
  go_wp2_with fail
  rw [← hbs4]
  clear kz hbs4
  generalize x0.alloc (.cells #[.func (.func 48) #[] #[.pointer (some ⟨pb4, 0, none⟩)], .func (.func 49) #[] #[.pointer (some ⟨pb4, 0, none⟩)], .int .i64 0, .int .i64 1099511627776] 82) = w1 at HB1 HK1 HP1 hs1 HV4 ⊢
  have kp := HP1.out
  go_wp2_with fail
  clear kp
  refine (at_any mb 2 0 15 w1).mono ?_
  rintro e x1 ⟨pb5, rfl, hge, hlt, hc, hb⟩
  have kz : ∀ O, (x1.alloc O).cell? ⟨S, 0, none⟩ = some (.pointer (some ⟨mb, 0, none⟩)) := fun O => keepA ((hb.cell (p := ⟨S, 0, none⟩) hs1).trans HP1.out)
  have kk : ∀ O, (x1.alloc O).cell? ⟨mb, 0, none⟩ = some (.int .i64 2) := fun O => keepA ((hb.cell (p := ⟨mb, 0, none⟩) (by show mb < _; omega)).trans HK1.out)
  have hsx : S < x1.heap.size := Nat.lt_of_lt_of_le hs1 hb.size
  obtain ⟨b5, hbs5⟩ : ∃ b, b = x1.heap.size := ⟨_, rfl⟩
  have hal : Below x1.heap.size x1 (x1.alloc (.cells #[.func (.func 48) #[] #[.pointer (some ⟨pb5, 0, none⟩)], .func (.func 49) #[] #[.pointer (some ⟨pb5, 0, none⟩)], .int .i64 0, .int .i64 15] 82)) := (Below.refl _ _).alloc (Nat.le_refl _) _
  have HV5 : Hid (VarAt (x1.alloc (.cells #[.func (.func 48) #[] #[.pointer (some ⟨pb5, 0, none⟩)], .func (.func 49) #[] #[.pointer (some ⟨pb5, 0, none⟩)], .int .i64 0, .int .i64 15] 82)) b5 pb5 mb 2 0 15) := Lib.hid ⟨by rw [hbs5]; exact heap_alloc_new x1 _, by omega, by simp; omega, keepA hc⟩
  have HV4 := Lib.hid ((HV4.out.below hb).below hal)
  have HB2 := Lib.hid (HB1.out.trans ((hb.trans (hal.mono hb.size)).mono (by omega)))
  have HK2 := Lib.hid (kk (.cells #[.func (.func 48) #[] #[.pointer (some ⟨pb5, 0, none⟩)], .func (.func 49) #[] #[.pointer (some ⟨pb5, 0, none⟩)], .int .i64 0, .int .i64 15] 82))
  have HP2 := Lib.hid (kz (.cells #[.func (.func 48) #[] #[.pointer (some ⟨pb5, 0, none⟩)], .func (.func 49) #[] #[.pointer (some ⟨pb5, 0, none⟩)], .int .i64 0, .int .i64 15] 82))
  have hs2 : S < (x1.alloc (.cells #[.func (.func 48) #[] #[.pointer (some ⟨pb5, 0, none⟩)], .func (.func 49) #[] #[.pointer (some ⟨pb5, 0, none⟩)], .int .i64 0, .int .i64 15] 82)).heap.size := by simp; omega
  clear hb hal hge hlt hc hsx HB1 HK1 HP1 hs1 kk
  go_wp2_with fail
  rw [← hbs5]
  clear kz hbs5
  generalize x1.alloc (.cells #[.func (.func 48) #[] #[.pointer (some ⟨pb5, 0, none⟩)], .func (.func 49) #[] #[.pointer (some ⟨pb5, 0, none⟩)], .int .i64 0, .int .i64 15] 82) = w2 at HB2 HK2 HP2 hs2 HV4 HV5 ⊢
  have kp := HP2.out
  go_wp2_with fail
  clear kp
  refine (at_any mb 6 1 100 w2).mono ?_
  rintro e x2 ⟨pb6, rfl, hge, hlt, hc, hb⟩
  have kz : ∀ O, (x2.alloc O).cell? ⟨S, 0, none⟩ = some (.pointer (some ⟨mb, 0, none⟩)) := fun O => keepA ((hb.cell (p := ⟨S, 0, none⟩) hs2).trans HP2.out)
  have kk : ∀ O, (x2.alloc O).cell? ⟨mb, 0, none⟩ = some (.int .i64 2) := fun O => keepA ((hb.cell (p := ⟨mb, 0, none⟩) (by show mb < _; omega)).trans HK2.out)
  have hsx : S < x2.heap.size := Nat.lt_of_lt_of_le hs2 hb.size
  obtain ⟨b6, hbs6⟩ : ∃ b, b = x2.heap.size := ⟨_, rfl⟩
  have hal : Below x2.heap.size x2 (x2.alloc (.cells #[.func (.func 48) #[] #[.pointer (some ⟨pb6, 0, none⟩)], .func (.func 49) #[] #[.pointer (some ⟨pb6, 0, none⟩)], .int .i64 1, .int .i64 100] 82)) := (Below.refl _ _).alloc (Nat.le_refl _) _
  have HV6 : Hid (VarAt (x2.alloc (.cells #[.func (.func 48) #[] #[.pointer (some ⟨pb6, 0, none⟩)], .func (.func 49) #[] #[.pointer (some ⟨pb6, 0, none⟩)], .int .i64 1, .int .i64 100] 82)) b6 pb6 mb 6 1 100) := Lib.hid ⟨by rw [hbs6]; exact heap_alloc_new x2 _, by omega, by simp; omega, keepA hc⟩
  have HV4 := Lib.hid ((HV4.out.below hb).below hal)
  have HV5 := Lib.hid ((HV5.out.below hb).below hal)
  have HB3 := Lib.hid (HB2.out.trans ((hb.trans (hal.mono hb.size)).mono (by omega)))
  have HK3 := Lib.hid (kk (.cells #[.func (.func 48) #[] #[.pointer (some ⟨pb6, 0, none⟩)], .func (.func 49) #[] #[.pointer (some ⟨pb6, 0, none⟩)], .int .i64 1, .int .i64 100] 82))
  have HP3 := Lib.hid (kz (.cells #[.func (.func 48) #[] #[.pointer (some ⟨pb6, 0, none⟩)], .func (.func 49) #[] #[.pointer (some ⟨pb6, 0, none⟩)], .int .i64 1, .int .i64 100] 82))
  have hs3 : S < (x2.alloc (.cells #[.func (.func 48) #[] #[.pointer (some ⟨pb6, 0, none⟩)], .func (.func 49) #[] #[.pointer (some ⟨pb6, 0, none⟩)], .int .i64 1, .int .i64 100] 82)).heap.size := by simp; omega
  clear hb hal hge hlt hc hsx HB2 HK2 HP2 hs2 kk
  go_wp2_with fail
  rw [← hbs6]
  clear kz hbs6
  generalize x2.alloc (.cells #[.func (.func 48) #[] #[.pointer (some ⟨pb6, 0, none⟩)], .func (.func 49) #[] #[.pointer (some ⟨pb6, 0, none⟩)], .int .i64 1, .int .i64 100] 82) = w3 at HB3 HK3 HP3 hs3 HV4 HV5 HV6 ⊢
  have kp := HP3.out
  go_wp2_with fail
  clear kp
  refine (at_any mb 7 1 6 w3).mono ?_
  rintro e x3 ⟨pb7, rfl, hge, hlt, hc, hb⟩
  have kz : ∀ O, (x3.alloc O).cell? ⟨S, 0, none⟩ = some (.pointer (some ⟨mb, 0, none⟩)) := fun O => keepA ((hb.cell (p := ⟨S, 0, none⟩) hs3).trans HP3.out)
  have kk : ∀ O, (x3.alloc O).cell? ⟨mb, 0, none⟩ = some (.int .i64 2) := fun O => keepA ((hb.cell (p := ⟨mb, 0, none⟩) (by show mb < _; omega)).trans HK3.out)
  have hsx : S < x3.heap.size := Nat.lt_of_lt_of_le hs3 hb.size
  obtain ⟨b7, hbs7⟩ : ∃ b, b = x3.heap.size := ⟨_, rfl⟩
  have hal : Below x3.heap.size x3 (x3.alloc (.cells #[.func (.func 48) #[] #[.pointer (some ⟨pb7, 0, none⟩)], .func (.func 49) #[] #[.pointer (some ⟨pb7, 0, none⟩)], .int .i64 1, .int .i64 6] 82)) := (Below.refl _ _).alloc (Nat.le_refl _) _
  have HV7 : Hid (VarAt (x3.alloc (.cells #[.func (.func 48) #[] #[.pointer (some ⟨pb7, 0, none⟩)], .func (.func 49) #[] #[.pointer (some ⟨pb7, 0, none⟩)], .int .i64 1, .int .i64 6] 82)) b7 pb7 mb 7 1 6) := Lib.hid ⟨by rw [hbs7]; exact heap_alloc_new x3 _, by omega, by simp; omega, keepA hc⟩
  have HV4 := Lib.hid ((HV4.out.below hb).below hal)
  have HV5 := Lib.hid ((HV5.out.below hb).below hal)
  have HV6 := Lib.hid ((HV6.out.below hb).below hal)
  have HB4 := Lib.hid (HB3.out.trans ((hb.trans (hal.mono hb.size)).mono (by omega)))
  have HK4 := Lib.hid (kk (.cells #[.func (.func 48) #[] #[.pointer (some ⟨pb7, 0, none⟩)], .func (.func 49) #[] #[.pointer (some ⟨pb7, 0, none⟩)], .int .i64 1, .int .i64 6] 82))
  have HP4 := Lib.hid (kz (.cells #[.func (.func 48) #[] #[.pointer (some ⟨pb7, 0, none⟩)], .func (.func 49) #[] #[.pointer (some ⟨pb7, 0, none⟩)], .int .i64 1, .int .i64 6] 82))
  have hs4 : S < (x3.alloc (.cells #[.func (.func 48) #[] #[.pointer (some ⟨pb7, 0, none⟩)], .func (.func 49) #[] #[.pointer (some ⟨pb7, 0, none⟩)], .int .i64 1, .int .i64 6] 82)).heap.size := by simp; omega
  clear hb hal hge hlt hc hsx HB3 HK3 HP3 hs3 kk
  go_wp2_with fail
  rw [← hbs7]
  clear kz hbs7
  generalize x3.alloc (.cells #[.func (.func 48) #[] #[.pointer (some ⟨pb7, 0, none⟩)], .func (.func 49) #[] #[.pointer (some ⟨pb7, 0, none⟩)], .int .i64 1, .int .i64 6] 82) = w4 at HB4 HK4 HP4 hs4 HV4 HV5 HV6 HV7 ⊢
  have kp := HP4.out
  go_wp2_with fail
  clear kp
  refine (at_any mb 15 1 16 w4).mono ?_
  rintro e x4 ⟨pb8, rfl, hge, hlt, hc, hb⟩
  have kz : ∀ O, (x4.alloc O).cell? ⟨S, 0, none⟩ = some (.pointer (some ⟨mb, 0, none⟩)) := fun O => keepA ((hb.cell (p := ⟨S, 0, none⟩) hs4).trans HP4.out)
  have kk : ∀ O, (x4.alloc O).cell? ⟨mb, 0, none⟩ = some (.int .i64 2) := fun O => keepA ((hb.cell (p := ⟨mb, 0, none⟩) (by show mb < _; omega)).trans HK4.out)
  have hsx : S < x4.heap.size := Nat.lt_of_lt_of_le hs4 hb.size
  obtain ⟨b8, hbs8⟩ : ∃ b, b = x4.heap.size := ⟨_, rfl⟩
  have hal : Below x4.heap.size x4 (x4.alloc (.cells #[.func (.func 48) #[] #[.pointer (some ⟨pb8, 0, none⟩)], .func (.func 49) #[] #[.pointer (some ⟨pb8, 0, none⟩)], .int .i64 1, .int .i64 16] 82)) := (Below.refl _ _).alloc (Nat.le_refl _) _
  have HV8 : Hid (VarAt (x4.alloc (.cells #[.func (.func 48) #[] #[.pointer (some ⟨pb8, 0, none⟩)], .func (.func 49) #[] #[.pointer (some ⟨pb8, 0, none⟩)], .int .i64 1, .int .i64 16] 82)) b8 pb8 mb 15 1 16) := Lib.hid ⟨by rw [hbs8]; exact heap_alloc_new x4 _, by omega, by simp; omega, keepA hc⟩
  have HV4 := Lib.hid ((HV4.out.below hb).below hal)
  have HV5 := Lib.hid ((HV5.out.below hb).below hal)
  have HV6 := Lib.hid ((HV6.out.below hb).below hal)
  have HV7 := Lib.hid ((HV7.out.below hb).below hal)
  have HB5 := Lib.hid (HB4.out.trans ((hb.trans (hal.mono hb.size)).mono (by omega)))
  have HK5 := Lib.hid (kk (.cells #[.func (.func 48) #[] #[.pointer (some ⟨pb8, 0, none⟩)], .func (.func 49) #[] #[.pointer (some ⟨pb8, 0, none⟩)], .int .i64 1, .int .i64 16] 82))
  have HP5 := Lib.hid (kz (.cells #[.func (.func 48) #[] #[.pointer (some ⟨pb8, 0, none⟩)], .func (.func 49) #[] #[.pointer (some ⟨pb8, 0, none⟩)], .int .i64 1, .int .i64 16] 82))
  have hs5 : S < (x4.alloc (.cells #[.func (.func 48) #[] #[.pointer (some ⟨pb8, 0, none⟩)], .func (.func 49) #[] #[.pointer (some ⟨pb8, 0, none⟩)], .int .i64 1, .int .i64 16] 82)).heap.size := by simp; omega
  clear hb hal hge hlt hc hsx HB4 HK4 HP4 hs4 kk
  go_wp2_with fail
  rw [← hbs8]
  clear kz hbs8
  generalize x4.alloc (.cells #[.func (.func 48) #[] #[.pointer (some ⟨pb8, 0, none⟩)], .func (.func 49) #[] #[.pointer (some ⟨pb8, 0, none⟩)], .int .i64 1, .int .i64 16] 82) = w5 at HB5 HK5 HP5 hs5 HV4 HV5 HV6 HV7 HV8 ⊢
  have kp := HP5.out
  go_wp2_with fail
  clear kp
  refine (at_any mb 16 1 1099511627776 w5).mono ?_
  rintro e x5 ⟨pb9, rfl, hge, hlt, hc, hb⟩
  have kz : ∀ O, (x5.alloc O).cell? ⟨S, 0, none⟩ = some (.pointer (some ⟨mb, 0, none⟩)) := fun O => keepA ((hb.cell (p := ⟨S, 0, none⟩) hs5).trans HP5.out)
  have kk : ∀ O, (x5.alloc O).cell? ⟨mb, 0, none⟩ = some (.int .i64 2) := fun O => keepA ((hb.cell (p := ⟨mb, 0, none⟩) (by show mb < _; omega)).trans HK5.out)
  have hsx : S < x5.heap.size := Nat.lt_of_lt_of_le hs5 hb.size
  obtain ⟨b9, hbs9⟩ : ∃ b, b = x5.heap.size := ⟨_, rfl⟩
  have hal : Below x5.heap.size x5 (x5.alloc (.cells #[.func (.func 48) #[] #[.pointer (some ⟨pb9, 0, none⟩)], .func (.func 49) #[] #[.pointer (some ⟨pb9, 0, none⟩)], .int .i64 1, .int .i64 1099511627776] 82)) := (Below.refl _ _).alloc (Nat.le_refl _) _
  have HV9 : Hid (VarAt (x5.alloc (.cells #[.func (.func 48) #[] #[.pointer (some ⟨pb9, 0, none⟩)], .func (.func 49) #[] #[.pointer (some ⟨pb9, 0, none⟩)], .int .i64 1, .int .i64 1099511627776] 82)) b9 pb9 mb 16 1 1099511627776) := Lib.hid ⟨by rw [hbs9]; exact heap_alloc_new x5 _, by omega, by simp; omega, keepA hc⟩
  have HV4 := Lib.hid ((HV4.out.below hb).below hal)
  have HV5 := Lib.hid ((HV5.out.below hb).below hal)
  have HV6 := Lib.hid ((HV6.out.below hb).below hal)
  have HV7 := Lib.hid ((HV7.out.below hb).below hal)
  have HV8 := Lib.hid ((HV8.out.below hb).below hal)
  have HB6 := Lib.hid (HB5.out.trans ((hb.trans (hal.mono hb.size)).mono (by omega)))
  have HK6 := Lib.hid (kk (.cells #[.func (.func 48) #[] #[.pointer (some ⟨pb9, 0, none⟩)], .func (.func 49) #[] #[.pointer (some ⟨pb9, 0, none⟩)], .int .i64 1, .int .i64 1099511627776] 82))
  have HP6 := Lib.hid (kz (.cells #[.func (.func 48) #[] #[.pointer (some ⟨pb9, 0, none⟩)], .func (.func 49) #[] #[.pointer (some ⟨pb9, 0, none⟩)], .int .i64 1, .int .i64 1099511627776] 82))
  have hs6 : S < (x5.alloc (.cells #[.func (.func 48) #[] #[.pointer (some ⟨pb9, 0, none⟩)], .func (.func 49) #[] #[.pointer (some ⟨pb9, 0, none⟩)], .int .i64 1, .int .i64 1099511627776] 82)).heap.size := by simp; omega
  clear hb hal hge hlt hc hsx HB5 HK5 HP5 hs5
  go_wp2_with fail
  rw [← hbs9]
  clear kz kk 
  have hz6 : (x5.alloc (.cells #[.func (.func 48) #[] #[.pointer (some ⟨pb9, 0, none⟩)], .func (.func 49) #[] #[.pointer (some ⟨pb9, 0, none⟩)], .int .i64 1, .int .i64 1099511627776] 82)).heap.size = b9 + 1 := by have := hs6; rw [hbs9]; simp
  clear hbs9
  generalize x5.alloc (.cells #[.func (.func 48) #[] #[.pointer (some ⟨pb9, 0, none⟩)], .func (.func 49) #[] #[.pointer (some ⟨pb9, 0, none⟩)], .int .i64 1, .int .i64 1099511627776] 82) = w6 at HB6 HK6 HP6 hs6 hz6 HV4 HV5 HV6 HV7 HV8 HV9 ⊢
  have hd : Below w6.heap.size w6 w6.drew := (Below.refl _ _).drew
  have HV4 := Lib.hid (HV4.out.below hd)
  have HV5 := Lib.hid (HV5.out.below hd)
  have HP6 : Hid (w6.drew.cell? ⟨S, 0, none⟩ = some (.pointer (some ⟨mb, 0, none⟩))) := HP6
  have HB6 := Lib.hid HB6.out.drew
  have hs6 : S < w6.drew.heap.size := hs6
  clear hd HK6 hz6 HV6 HV7 HV8 HV9
  have f6_b4_0 : w6.drew.cell? ⟨b4, 0, none⟩ = some (.func (.func 48) #[] #[.pointer (some ⟨pb4, 0, none⟩)]) := cellb HV4.out.blk rfl
  have f6_b4_1 : w6.drew.cell? ⟨b4, 1, none⟩ = some (.func (.func 49) #[] #[.pointer (some ⟨pb4, 0, none⟩)]) := cellb HV4.out.blk rfl
  have f6_b4_2 : w6.drew.cell? ⟨b4, 2, none⟩ = some (.int .i64 0) := cellb HV4.out.blk rfl
  have f6_b4_3 : w6.drew.cell? ⟨b4, 3, none⟩ = some (.int .i64 1099511627776) := cellb HV4.out.blk rfl
  have f6_b5_0 : w6.drew.cell? ⟨b5, 0, none⟩ = some (.func (.func 48) #[] #[.pointer (some ⟨pb5, 0, none⟩)]) := cellb HV5.out.blk rfl
  have f6_b5_1 : w6.drew.cell? ⟨b5, 1, none⟩ = some (.func (.func 49) #[] #[.pointer (some ⟨pb5, 0, none⟩)]) := cellb HV5.out.blk rfl
  have f6_b5_2 : w6.drew.cell? ⟨b5, 2, none⟩ = some (.int .i64 0) := cellb HV5.out.blk rfl
  have f6_b5_3 : w6.drew.cell? ⟨b5, 3, none⟩ = some (.int .i64 15) := cellb HV5.out.blk rfl
  have f6_p : w6.drew.cell? ⟨S, 0, none⟩ = some (.pointer (some ⟨mb, 0, none⟩)) := HP6.out
  refine wp_region_noPanic ?_
  refine wp_region_held_drew (S := fun w' => w'.cell? ⟨b4, 0, none⟩ = some (.func (.func 48) #[] #[.pointer (some ⟨pb4, 0, none⟩)]) ∧ w'.cell? ⟨b4, 1, none⟩ = some (.func (.func 49) #[] #[.pointer (some ⟨pb4, 0, none⟩)]) ∧ w'.cell? ⟨b4, 2, none⟩ = some (.int .i64 0) ∧ w'.cell? ⟨b4, 3, none⟩ = some (.int .i64 1099511627776) ∧ w'.cell? ⟨b5, 0, none⟩ = some (.func (.func 48) #[] #[.pointer (some ⟨pb5, 0, none⟩)]) ∧ w'.cell? ⟨b5, 1, none⟩ = some (.func (.func 49) #[] #[.pointer (some ⟨pb5, 0, none⟩)]) ∧ w'.cell? ⟨b5, 2, none⟩ = some (.int .i64 0) ∧ w'.cell? ⟨b5, 3, none⟩ = some (.int .i64 15) ∧ w'.cell? ⟨S, 0, none⟩ = some (.pointer (some ⟨mb, 0, none⟩))) (by kernel_rfl) ?_ (fun hHeld => ?_)
  · try dsimp only
    (refine ⟨?_, ?_, ?_, ?_, ?_, ?_, ?_, ?_, ?_⟩ <;> (first | with_reducible assumption))
  refine wpAnyH_take (i := 0) (v := ?_) (by (simp only [List.getElem?_toArray, List.getElem?_cons_zero]; rfl)) (by kernel_rfl) (by kernel_rfl) (by kernel_rfl) (fun _ _ _ h => h) (Or.inl ⟨by rfl, ?_⟩) (by assumption) ?_
  rotate_left
  · (intro w hSw; (try dsimp only at hSw); go_simp; try with_reducible rfl)
  try simp only [Act.put, List.setIfInBounds_toArray, List.set_cons_zero, List.set_cons_succ]
  refine wpAnyH_take (i := 1) (v := ?_) (by (simp only [List.getElem?_toArray, List.getElem?_cons_succ, List.getElem?_cons_zero]; rfl)) (by kernel_rfl) (by kernel_rfl) (by kernel_rfl) (fun _ _ _ h => h) (Or.inl ⟨by rfl, ?_⟩) (by assumption) ?_
  rotate_left
  · (intro w hSw; (try dsimp only at hSw); go_simp; try with_reducible rfl)
  try simp only [Act.put, List.setIfInBounds_toArray, List.set_cons_zero, List.set_cons_succ]
  refine wpAnyH_take (i := 2) (v := ?_) (by (simp only [List.getElem?_toArray, List.getElem?_cons_succ, List.getElem?_cons_zero]; rfl)) (by kernel_rfl) (by kernel_rfl) (by kernel_rfl) (fun _ _ _ h => h) (Or.inl ⟨by rfl, ?_⟩) (by assumption) ?_
  rotate_left
  · (intro w hSw; (try dsimp only at hSw); go_simp; try with_reducible rfl)
  try simp only [Act.put, List.setIfInBounds_toArray, List.set_cons_zero, List.set_cons_succ]
  refine wpAnyH_take (i := 3) (v := ?_) (by (simp only [List.getElem?_toArray, List.getElem?_cons_succ, List.getElem?_cons_zero]; rfl)) (by kernel_rfl) (by kernel_rfl) (by kernel_rfl) (fun _ _ _ h => h) (Or.inl ⟨by rfl, ?_⟩) (by assumption) ?_
  rotate_left
  · (intro w hSw; (try dsimp only at hSw); go_simp; try with_reducible rfl)
  try simp only [Act.put, List.setIfInBounds_toArray, List.set_cons_zero, List.set_cons_succ]
  refine wpAnyH_take (i := 4) (v := ?_) (by (simp only [List.getElem?_toArray, List.getElem?_cons_succ, List.getElem?_cons_zero]; rfl)) (by kernel_rfl) (by kernel_rfl) (by kernel_rfl) (fun _ _ _ h => h) (Or.inl ⟨by rfl, ?_⟩) (by assumption) ?_
  rotate_left
  · (intro w hSw; (try dsimp only at hSw); go_simp; try with_reducible rfl)
  try simp only [Act.put, List.setIfInBounds_toArray, List.set_cons_zero, List.set_cons_succ]
  refine wpAnyH_take (i := 6) (v := ?_) (by (simp only [List.getElem?_toArray, List.getElem?_cons_succ, List.getElem?_cons_zero]; rfl)) (by kernel_rfl) (by kernel_rfl) (by kernel_rfl) (fun _ _ _ h => h) (Or.inl ⟨by rfl, ?_⟩) (by assumption) ?_
  rotate_left
  · (intro w hSw; (try dsimp only at hSw); go_simp; try with_reducible rfl)
  try simp only [Act.put, List.setIfInBounds_toArray, List.set_cons_zero, List.set_cons_succ]
  refine wpAnyH_take (i := 7) (v := ?_) (by (simp only [List.getElem?_toArray, List.getElem?_cons_succ, List.getElem?_cons_zero]; rfl)) (by kernel_rfl) (by kernel_rfl) (by kernel_rfl) (fun _ _ _ h => h) (Or.inl ⟨by rfl, ?_⟩) (by assumption) ?_
  rotate_left
  · (intro w hSw; (try dsimp only at hSw); go_simp; try with_reducible rfl)
  try simp only [Act.put, List.setIfInBounds_toArray, List.set_cons_zero, List.set_cons_succ]
  refine wpAnyH_take (i := 8) (v := ?_) (by (simp only [List.getElem?_toArray, List.getElem?_cons_succ, List.getElem?_cons_zero]; rfl)) (by kernel_rfl) (by kernel_rfl) (by kernel_rfl) (fun _ _ _ h => h) (Or.inl ⟨by rfl, ?_⟩) (by assumption) ?_
  rotate_left
  · (intro w hSw; (try dsimp only at hSw); go_simp; try with_reducible rfl)
  try simp only [Act.put, List.setIfInBounds_toArray, List.set_cons_zero, List.set_cons_succ]
  refine wpAnyH_ready (rs := [5]) (by kernel_rfl) (by simp) ?_
  refine AllReadyH.cons (by (simp only [List.getElem?_toArray, List.getElem?_cons_succ, List.getElem?_cons_zero]; rfl)) (fun K hK => ?_) AllReadyH.nil
  go_simp
  refine (at_any mb 4 0 1099511627775 w6.drew).mono ?_
  rintro e w7 ⟨pc4, rfl, ge7, lt7, pt7, hb⟩
  have HV4 := Lib.hid (HV4.out.below hb)
  have HV5 := Lib.hid (HV5.out.below hb)
  have HP7 := Lib.hid ((hb.cell (p := ⟨S, 0, none⟩) hs6).trans HP6.out)
  have HB7 := Lib.hid (HB6.out.trans (hb.mono (by omega)))
  have hs7 : S < w7.heap.size := Nat.lt_of_lt_of_le hs6 hb.size
  have f7_b4_0 : w7.cell? ⟨b4, 0, none⟩ = some (.func (.func 48) #[] #[.pointer (some ⟨pb4, 0, none⟩)]) := cellb HV4.out.blk rfl
  have f7_b4_1 : w7.cell? ⟨b4, 1, none⟩ = some (.func (.func 49) #[] #[.pointer (some ⟨pb4, 0, none⟩)]) := cellb HV4.out.blk rfl
  have f7_b4_2 : w7.cell? ⟨b4, 2, none⟩ = some (.int .i64 0) := cellb HV4.out.blk rfl
  have f7_b4_3 : w7.cell? ⟨b4, 3, none⟩ = some (.int .i64 1099511627776) := cellb HV4.out.blk rfl
  have f7_b5_0 : w7.cell? ⟨b5, 0, none⟩ = some (.func (.func 48) #[] #[.pointer (some ⟨pb5, 0, none⟩)]) := cellb HV5.out.blk rfl
  have f7_b5_1 : w7.cell? ⟨b5, 1, none⟩ = some (.func (.func 49) #[] #[.pointer (some ⟨pb5, 0, none⟩)]) := cellb HV5.out.blk rfl
  have f7_b5_2 : w7.cell? ⟨b5, 2, none⟩ = some (.int .i64 0) := cellb HV5.out.blk rfl
  have f7_b5_3 : w7.cell? ⟨b5, 3, none⟩ = some (.int .i64 15) := cellb HV5.out.blk rfl
  have f7_p : w7.cell? ⟨S, 0, none⟩ = some (.pointer (some ⟨mb, 0, none⟩)) := HP7.out
  have gt7 : mb < pc4 := by omega
  clear hb ge7
  refine hK.out _ _ ?_ (fun hHeld => ?_)
  · try dsimp only
    (refine ⟨?_, ?_, ?_, ?_, ?_, ?_, ?_, ?_, ?_⟩ <;> (first | with_reducible assumption))
  clear hK K
  try simp only [Act.put, List.setIfInBounds_toArray, List.set_cons_zero, List.set_cons_succ]
  refine wpAnyH_ready (rs := [9]) (by kernel_rfl) (by simp) ?_
  refine AllReadyH.cons (by (simp only [List.getElem?_toArray, List.getElem?_cons_succ, List.getElem?_cons_zero]; rfl)) (fun K hK => ?_) AllReadyH.nil
  go_simp
  refine (at_any mb 5 0 2199023255552 w7).mono ?_
  rintro e w8 ⟨pc5, rfl, ge8, lt8, pt8, hb⟩
  have HV4 := Lib.hid (HV4.out.below hb)
  have HV5 := Lib.hid (HV5.out.below hb)
  have HP8 := Lib.hid ((hb.cell (p := ⟨S, 0, none⟩) hs7).trans HP7.out)
  have HB8 := Lib.hid (HB7.out.trans (hb.mono (by omega)))
  have hs8 : S < w8.heap.size := Nat.lt_of_lt_of_le hs7 hb.size
  have pt7 : w8.cell? ⟨pc4, 0, none⟩ = some (.pointer (some ⟨mb, 4, none⟩)) := (hb.cell (p := ⟨pc4, 0, none⟩) lt7).trans pt7
  have lt7 : pc4 < w8.heap.size := Nat.lt_of_lt_of_le lt7 hb.size
  have f8_b4_0 : w8.cell? ⟨b4, 0, none⟩ = some (.func (.func 48) #[] #[.pointer (some ⟨pb4, 0, none⟩)]) := cellb HV4.out.blk rfl
  have f8_b4_1 : w8.cell? ⟨b4, 1, none⟩ = some (.func (.func 49) #[] #[.pointer (some ⟨pb4, 0, none⟩)]) := cellb HV4.out.blk rfl
  have f8_b4_2 : w8.cell? ⟨b4, 2, none⟩ = some (.int .i64 0) := cellb HV4.out.blk rfl
  have f8_b4_3 : w8.cell? ⟨b4, 3, none⟩ = some (.int .i64 1099511627776) := cellb HV4.out.blk rfl
  have f8_b5_0 : w8.cell? ⟨b5, 0, none⟩ = some (.func (.func 48) #[] #[.pointer (some ⟨pb5, 0, none⟩)]) := cellb HV5.out.blk rfl
  have f8_b5_1 : w8.cell? ⟨b5, 1, none⟩ = some (.func (.func 49) #[] #[.pointer (some ⟨pb5, 0, none⟩)]) := cellb HV5.out.blk rfl
  have f8_b5_2 : w8.cell? ⟨b5, 2, none⟩ = some (.int .i64 0) := cellb HV5.out.blk rfl
  have f8_b5_3 : w8.cell? ⟨b5, 3, none⟩ = some (.int .i64 15) := cellb HV5.out.blk rfl
  have f8_p : w8.cell? ⟨S, 0, none⟩ = some (.pointer (some ⟨mb, 0, none⟩)) := HP8.out
  have gt8 : mb < pc5 := by omega
  clear hb ge8
  refine hK.out _ _ ?_ (fun hHeld => ?_)
  · try dsimp only
    (refine ⟨?_, ?_, ?_, ?_, ?_, ?_, ?_, ?_, ?_⟩ <;> (first | with_reducible assumption))
  clear hK K
  try simp only [Act.put, List.setIfInBounds_toArray, List.set_cons_zero, List.set_cons_succ]
  refine wpAnyH_ready (rs := [10]) (by kernel_rfl) (by simp) ?_
  refine AllReadyH.cons (by (simp only [List.getElem?_toArray, List.getElem?_cons_succ, List.getElem?_cons_zero]; rfl)) (fun K hK => ?_) AllReadyH.nil
  go_simp
  have hrow := heap_alloc_new w8 (.cells #[.func (.func 48) #[] #[.pointer (some ⟨pb4, 0, none⟩)], .func (.func 49) #[] #[.pointer (some ⟨pb4, 0, none⟩)], .int .i64 0, .int .i64 1099511627776, .func (.func 48) #[] #[.pointer (some ⟨pb5, 0, none⟩)], .func (.func 49) #[] #[.pointer (some ⟨pb5, 0, none⟩)], .int .i64 0, .int .i64 15, .func (.func 48) #[] #[.pointer (some ⟨pc4, 0, none⟩)], .func (.func 49) #[] #[.pointer (some ⟨pc4, 0, none⟩)], .int .i64 0, .int .i64 1099511627775, .func (.func 48) #[] #[.pointer (some ⟨pc5, 0, none⟩)], .func (.func 49) #[] #[.pointer (some ⟨pc5, 0, none⟩)], .int .i64 0, .int .i64 2199023255552] 82)
  have hal : Below w8.heap.size w8 (w8.alloc (.cells #[.func (.func 48) #[] #[.pointer (some ⟨pb4, 0, none⟩)], .func (.func 49) #[] #[.pointer (some ⟨pb4, 0, none⟩)], .int .i64 0, .int .i64 1099511627776, .func (.func 48) #[] #[.pointer (some ⟨pb5, 0, none⟩)], .func (.func 49) #[] #[.pointer (some ⟨pb5, 0, none⟩)], .int .i64 0, .int .i64 15, .func (.func 48) #[] #[.pointer (some ⟨pc4, 0, none⟩)], .func (.func 49) #[] #[.pointer (some ⟨pc4, 0, none⟩)], .int .i64 0, .int .i64 1099511627775, .func (.func 48) #[] #[.pointer (some ⟨pc5, 0, none⟩)], .func (.func 49) #[] #[.pointer (some ⟨pc5, 0, none⟩)], .int .i64 0, .int .i64 2199023255552] 82)) := (Below.refl _ _).alloc (Nat.le_refl _) _
  obtain ⟨R, hR⟩ : ∃ R, R = w8.heap.size := ⟨_, rfl⟩
  have hmR : mb < R := by omega
  rw [← hR] at hrow ⊢
  have HV4 := Lib.hid (HV4.out.below hal)
  have HV5 := Lib.hid (HV5.out.below hal)
  have HP9 := Lib.hid (keepA (o := (.cells #[.func (.func 48) #[] #[.pointer (some ⟨pb4, 0, none⟩)], .func (.func 49) #[] #[.pointer (some ⟨pb4, 0, none⟩)], .int .i64 0, .int .i64 1099511627776, .func (.func 48) #[] #[.pointer (some ⟨pb5, 0, none⟩)], .func (.func 49) #[] #[.pointer (some ⟨pb5, 0, none⟩)], .int .i64 0, .int .i64 15, .func (.func 48) #[] #[.pointer (some ⟨pc4, 0, none⟩)], .func (.func 49) #[] #[.pointer (some ⟨pc4, 0, none⟩)], .int .i64 0, .int .i64 1099511627775, .func (.func 48) #[] #[.pointer (some ⟨pc5, 0, none⟩)], .func (.func 49) #[] #[.pointer (some ⟨pc5, 0, none⟩)], .int .i64 0, .int .i64 2199023255552] 82)) HP8.out)
  have HR := Lib.hid hrow
  have HB9 := Lib.hid (HB8.out.trans (hal.mono (by omega)))
  have lt7b : pc4 < (w8.alloc (.cells #[.func (.func 48) #[] #[.pointer (some ⟨pb4, 0, none⟩)], .func (.func 49) #[] #[.pointer (some ⟨pb4, 0, none⟩)], .int .i64 0, .int .i64 1099511627776, .func (.func 48) #[] #[.pointer (some ⟨pb5, 0, none⟩)], .func (.func 49) #[] #[.pointer (some ⟨pb5, 0, none⟩)], .int .i64 0, .int .i64 15, .func (.func 48) #[] #[.pointer (some ⟨pc4, 0, none⟩)], .func (.func 49) #[] #[.pointer (some ⟨pc4, 0, none⟩)], .int .i64 0, .int .i64 1099511627775, .func (.func 48) #[] #[.pointer (some ⟨pc5, 0, none⟩)], .func (.func 49) #[] #[.pointer (some ⟨pc5, 0, none⟩)], .int .i64 0, .int .i64 2199023255552] 82)).heap.size := by simp; omega
  have pt7b := keepA (o := (.cells #[.func (.func 48) #[] #[.pointer (some ⟨pb4, 0, none⟩)], .func (.func 49) #[] #[.pointer (some ⟨pb4, 0, none⟩)], .int .i64 0, .int .i64 1099511627776, .func (.func 48) #[] #[.pointer (some ⟨pb5, 0, none⟩)], .func (.func 49) #[] #[.pointer (some ⟨pb5, 0, none⟩)], .int .i64 0, .int .i64 15, .func (.func 48) #[] #[.pointer (some ⟨pc4, 0, none⟩)], .func (.func 49) #[] #[.pointer (some ⟨pc4, 0, none⟩)], .int .i64 0, .int .i64 1099511627775, .func (.func 48) #[] #[.pointer (some ⟨pc5, 0, none⟩)], .func (.func 49) #[] #[.pointer (some ⟨pc5, 0, none⟩)], .int .i64 0, .int .i64 2199023255552] 82)) pt7
  have lt8b : pc5 < (w8.alloc (.cells #[.func (.func 48) #[] #[.pointer (some ⟨pb4, 0, none⟩)], .func (.func 49) #[] #[.pointer (some ⟨pb4, 0, none⟩)], .int .i64 0, .int .i64 1099511627776, .func (.func 48) #[] #[.pointer (some ⟨pb5, 0, none⟩)], .func (.func 49) #[] #[.pointer (some ⟨pb5, 0, none⟩)], .int .i64 0, .int .i64 15, .func (.func 48) #[] #[.pointer (some ⟨pc4, 0, none⟩)], .func (.func 49) #[] #[.pointer (some ⟨pc4, 0, none⟩)], .int .i64 0, .int .i64 1099511627775, .func (.func 48) #[] #[.pointer (some ⟨pc5, 0, none⟩)], .func (.func 49) #[] #[.pointer (some ⟨pc5, 0, none⟩)], .int .i64 0, .int .i64 2199023255552] 82)).heap.size := by simp; omega
  have pt8b := keepA (o := (.cells #[.func (.func 48) #[] #[.pointer (some ⟨pb4, 0, none⟩)], .func (.func 49) #[] #[.pointer (some ⟨pb4, 0, none⟩)], .int .i64 0, .int .i64 1099511627776, .func (.func 48) #[] #[.pointer (some ⟨pb5, 0, none⟩)], .func (.func 49) #[] #[.pointer (some ⟨pb5, 0, none⟩)], .int .i64 0, .int .i64 15, .func (.func 48) #[] #[.pointer (some ⟨pc4, 0, none⟩)], .func (.func 49) #[] #[.pointer (some ⟨pc4, 0, none⟩)], .int .i64 0, .int .i64 1099511627775, .func (.func 48) #[] #[.pointer (some ⟨pc5, 0, none⟩)], .func (.func 49) #[] #[.pointer (some ⟨pc5, 0, none⟩)], .int .i64 0, .int .i64 2199023255552] 82)) pt8
  have hs9 : S < (w8.alloc (.cells #[.func (.func 48) #[] #[.pointer (some ⟨pb4, 0, none⟩)], .func (.func 49) #[] #[.pointer (some ⟨pb4, 0, none⟩)], .int .i64 0, .int .i64 1099511627776, .func (.func 48) #[] #[.pointer (some ⟨pb5, 0, none⟩)], .func (.func 49) #[] #[.pointer (some ⟨pb5, 0, none⟩)], .int .i64 0, .int .i64 15, .func (.func 48) #[] #[.pointer (some ⟨pc4, 0, none⟩)], .func (.func 49) #[] #[.pointer (some ⟨pc4, 0, none⟩)], .int .i64 0, .int .i64 1099511627775, .func (.func 48) #[] #[.pointer (some ⟨pc5, 0, none⟩)], .func (.func 49) #[] #[.pointer (some ⟨pc5, 0, none⟩)], .int .i64 0, .int .i64 2199023255552] 82)).heap.size := by simp; omega
  clear hrow hal hR pt7 lt7 pt8 lt8
  generalize (w8.alloc (.cells #[.func (.func 48) #[] #[.pointer (some ⟨pb4, 0, none⟩)], .func (.func 49) #[] #[.pointer (some ⟨pb4, 0, none⟩)], .int .i64 0, .int .i64 1099511627776, .func (.func 48) #[] #[.pointer (some ⟨pb5, 0, none⟩)], .func (.func 49) #[] #[.pointer (some ⟨pb5, 0, none⟩)], .int .i64 0, .int .i64 15, .func (.func 48) #[] #[.pointer (some ⟨pc4, 0, none⟩)], .func (.func 49) #[] #[.pointer (some ⟨pc4, 0, none⟩)], .int .i64 0, .int .i64 1099511627775, .func (.func 48) #[] #[.pointer (some ⟨pc5, 0, none⟩)], .func (.func 49) #[] #[.pointer (some ⟨pc5, 0, none⟩)], .int .i64 0, .int .i64 2199023255552] 82)) = w9 at HV4 HV5 HP9 HR HB9 lt7b pt7b lt8b pt8b hs9 ⊢
  have f9_b4_0 : w9.cell? ⟨b4, 0, none⟩ = some (.func (.func 48) #[] #[.pointer (some ⟨pb4, 0, none⟩)]) := cellb HV4.out.blk rfl
  have f9_b4_1 : w9.cell? ⟨b4, 1, none⟩ = some (.func (.func 49) #[] #[.pointer (some ⟨pb4, 0, none⟩)]) := cellb HV4.out.blk rfl
  have f9_b4_2 : w9.cell? ⟨b4, 2, none⟩ = some (.int .i64 0) := cellb HV4.out.blk rfl
  have f9_b4_3 : w9.cell? ⟨b4, 3, none⟩ = some (.int .i64 1099511627776) := cellb HV4.out.blk rfl
  have f9_b5_0 : w9.cell? ⟨b5, 0, none⟩ = some (.func (.func 48) #[] #[.pointer (some ⟨pb5, 0, none⟩)]) := cellb HV5.out.blk rfl
  have f9_b5_1 : w9.cell? ⟨b5, 1, none⟩ = some (.func (.func 49) #[] #[.pointer (some ⟨pb5, 0, none⟩)]) := cellb HV5.out.blk rfl
  have f9_b5_2 : w9.cell? ⟨b5, 2, none⟩ = some (.int .i64 0) := cellb HV5.out.blk rfl
  have f9_b5_3 : w9.cell? ⟨b5, 3, none⟩ = some (.int .i64 15) := cellb HV5.out.blk rfl
  have f9_p : w9.cell? ⟨S, 0, none⟩ = some (.pointer (some ⟨mb, 0, none⟩)) := HP9.out
  refine hK.out _ _ ?_ (fun hHeld => ?_)
  · try dsimp only
    (refine ⟨?_, ?_, ?_, ?_, ?_, ?_, ?_, ?_, ?_⟩ <;> (first | with_reducible assumption))
  clear hK K
  try simp only [Act.put, List.setIfInBounds_toArray, List.set_cons_zero, List.set_cons_succ]
  refine wpAnyH_ready (rs := [11]) (by kernel_rfl) (by simp) ?_
  refine AllReadyH.cons (by (simp only [List.getElem?_toArray, List.getElem?_cons_succ, List.getElem?_cons_zero]; rfl)) (fun K hK => ?_) AllReadyH.nil
  go_simp
  refine (all_any _ _ _ _).mono ?_
  rintro e w' ⟨rfl, rfl⟩
  refine hK.out _ _ ?_ (fun hHeld => ?_)
  · try dsimp only
    (refine ⟨?_, ?_, ?_, ?_, ?_, ?_, ?_, ?_, ?_⟩ <;> (first | with_reducible assumption))
  clear hK K
  try simp only [Act.put, List.setIfInBounds_toArray, List.set_cons_zero, List.set_cons_succ]
  refine wpAnyH_take (i := 12) (v := ?_) (by (simp only [List.getElem?_toArray, List.getElem?_cons_succ, List.getElem?_cons_zero]; rfl)) (by kernel_rfl) (by kernel_rfl) (by kernel_rfl) (fun _ _ _ h => h) (Or.inl ⟨by rfl, ?_⟩) (by assumption) ?_
  rotate_left
  · (intro w hSw; (try dsimp only at hSw); go_simp; try with_reducible rfl)
  try simp only [Act.put, List.setIfInBounds_toArray, List.set_cons_zero, List.set_cons_succ]
  refine wpAnyH_take (i := 13) (v := ?_) (by (simp only [List.getElem?_toArray, List.getElem?_cons_succ, List.getElem?_cons_zero]; rfl)) (by kernel_rfl) (by kernel_rfl) (by kernel_rfl) (fun _ _ _ h => h) (Or.inl ⟨by rfl, ?_⟩) (by assumption) ?_
  rotate_left
  · (intro w hSw; (try dsimp only at hSw); go_simp; try with_reducible rfl)
  try simp only [Act.put, List.setIfInBounds_toArray, List.set_cons_zero, List.set_cons_succ]
  refine wpAnyH_done (by kernel_rfl) ?_ _
  refine NoPanic.normal ?_
  clear hHeld f6_b4_0 f6_b4_1 f6_b4_2 f6_b4_3 f6_b5_0 f6_b5_1 f6_b5_2 f6_b5_3 f7_b4_0 f7_b4_1 f7_b4_2 f7_b4_3 f7_b5_0 f7_b5_1 f7_b5_2 f7_b5_3 f8_b4_0 f8_b4_1 f8_b4_2 f8_b4_3 f8_b5_0 f8_b5_1 f8_b5_2 f8_b5_3 f9_b4_0 f9_b4_1 f9_b4_2 f9_b4_3 f9_b5_0 f9_b5_1 f9_b5_2 f9_b5_3 f6_p f7_p f8_p f9_p
  have hrow := HR.out
  have V4 := HV4.out
  have V5 := HV5.out
  have hF : FieldsIn w9 w9.heap.size mb (some ⟨R, 0, none⟩) [⟨1, 0, 1099511627776⟩, ⟨2, 0, 15⟩, ⟨4, 0, 1099511627775⟩, ⟨5, 0, 2199023255552⟩] := by
    refine .inr ⟨R, rfl, by omega, ltb hrow, fun i f hf => ?_⟩
    have hi : i < 4 := (List.getElem?_eq_some_iff.1 hf).1
    have hi : i = 0 ∨ i = 1 ∨ i = 2 ∨ i = 3 := by omega
    rcases hi with rfl | rfl | rfl | rfl
    · obtain rfl := Option.some.inj hf
      exact ⟨_, _, .inl ⟨pb4, V4.gt, V4.lt, rfl, rfl, V4.ptr⟩, cellb hrow rfl, cellb hrow rfl, cellb hrow rfl, cellb hrow rfl⟩
    · obtain rfl := Option.some.inj hf
      exact ⟨_, _, .inl ⟨pb5, V5.gt, V5.lt, rfl, rfl, V5.ptr⟩, cellb hrow rfl, cellb hrow rfl, cellb hrow rfl, cellb hrow rfl⟩
    · obtain rfl := Option.some.inj hf
      exact ⟨_, _, .inl ⟨pc4, gt7, lt7b, rfl, rfl, pt7b⟩, cellb hrow rfl, cellb hrow rfl, cellb hrow rfl, cellb hrow rfl⟩
    · obtain rfl := Option.some.inj hf
      exact ⟨_, _, .inl ⟨pc5, gt8, lt8b, rfl, rfl, pt8b⟩, cellb hrow rfl, cellb hrow rfl, cellb hrow rfl, cellb hrow rfl⟩
  have HF := Lib.hid hF
  clear hrow V4 V5 hF
  go_wp2_with fail
  refine bodyPost_ret (v := .tuple #[.slice (some ⟨R, 0, none⟩) 4 4, .bool true]) (by simp [results, Try.results35, go_sem]) rfl ?_
  exact ⟨_, _, rfl, HF.out, by rw [HSW.out]; exact HB9.out⟩

set_option maxRecDepth 100000 in
set_option maxHeartbeats 4000000 in
theorem fields_5 (mb : Nat) (w : World) (v : Nat → Int) (A : Option Addr) (n c : Nat) (hm : MAt w mb v A n c) (hk : v 0 = 5) :
    Calls Try.prog 35 #[.pointer (some ⟨mb, 0, none⟩)] w fun e w' => ∃ R c', e = .returned (.tuple #[.slice R 4 c', .bool true]) ∧ FieldsIn w' w'.heap.size mb R [⟨2, 0, 15⟩, ⟨6, 1, 100⟩, ⟨7, 1, 6⟩, ⟨10, 1, 3⟩] ∧ Below w.heap.size w w' := by
  have HM := Lib.hid hm
  have hml := ltb hm
  obtain ⟨S, hS⟩ : ∃ S, S = w.heap.size := ⟨_, rfl⟩
  have hkk := cellb (i := 0) hm rfl
  rw [hk] at hkk
  have hkb : (w.alloc (.cells #[.pointer (some ⟨mb, 0, none⟩)] 79)).cell? ⟨mb, 0, none⟩ = some (.int .i64 5) := keepA hkk
  have hpb : (w.alloc (.cells #[.pointer (some ⟨mb, 0, none⟩)] 79)).cell? ⟨S, 0, none⟩ = some (.pointer (some ⟨mb, 0, none⟩)) := by rw [hS]; exact cell_of_one (heap_alloc_new w _)
  have hb0 : Below S w (w.alloc (.cells #[.pointer (some ⟨mb, 0, none⟩)] 79)) := by rw [hS]; exact (Below.refl w.heap.size w).alloc (Nat.le_refl _) _
  have HB0 := Lib.hid hb0
  have HK0 := Lib.hid hkb
  have HP0 := Lib.hid hpb
  have hs0 : S < (w.alloc (.cells #[.pointer (some ⟨mb, 0, none⟩)] 79)).heap.size := by simp [hS]
  have hmS : mb < S := by omega
  have HSW : Hid (w.heap.size = S) := Lib.hid hS.symm
  clear hm hkk hkb hpb hb0
  go_enter Try.func35, Try.ntmps35
  go_wp2_with fail
  rw [← hS]
  clear hS hml
  generalize w.alloc (.cells #[.pointer (some ⟨mb, 0, none⟩)] 79) = w0 at HB0 HK0 HP0 hs0 ⊢
  refine (at_any mb 1 0 1099511627776 w0).mono ?_
  rintro e x0 ⟨pb4, rfl, hge, hlt, hc, hb⟩
  have kz : ∀ O, (x0.alloc O).cell? ⟨S, 0, none⟩ = some (.pointer (some ⟨mb, 0, none⟩)) := fun O => keepA ((hb.cell (p := ⟨S, 0, none⟩) hs0).trans HP0.out)
  have kk : ∀ O, (x0.alloc O).cell? ⟨mb, 0, none⟩ = some (.int .i64 5) := fun O => keepA ((hb.cell (p := ⟨mb, 0, none⟩) (by show mb < _; omega)).trans HK0.out)
  have hsx : S < x0.heap.size := Nat.lt_of_lt_of_le hs0 hb.size
  obtain ⟨b4, hbs4⟩ : ∃ b, b = x0.heap.size := ⟨_, rfl⟩
  have hal : Below x0.heap.size x0 (x0.alloc (.cells #[.func (.func 48) #[] #[.pointer (some ⟨pb4, 0, none⟩)], .func (.func 49) #[] #[.pointer (some ⟨pb4, 0, none⟩)], .int .i64 0, .int .i64 1099511627776] 82)) := (Below.refl _ _).alloc (Nat.le_refl _) _
  have HV4 : Hid (VarAt (x0.alloc (.cells #[.func (.func 48) #[] #[.pointer (some ⟨pb4, 0, none⟩)], .func (.func 49) #[] #[.pointer (some ⟨pb4, 0, none⟩)], .int .i64 0, .int .i64 1099511627776] 82)) b4 pb4 mb 1 0 1099511627776) := Lib.hid ⟨by rw [hbs4]; exact heap_alloc_new x0 _, by omega, by simp; omega, keepA hc⟩
  have HB1 := Lib.hid (HB0.out.trans ((hb.trans (hal.mono hb.size)).mono (by omega)))
  have HK1 := Lib.hid (kk (.cells #[.func (.func 48) #[] #[.pointer (some ⟨pb4, 0, none⟩)], .func (.func 49) #[] #[.pointer (some ⟨pb4, 0, none⟩)], .int .i64 0, .int .i64 1099511627776] 82))
  have HP1 := Lib.hid (kz (.cells #[.func (.func 48) #[] #[.pointer (some ⟨pb4, 0, none⟩)], .func (.func 49) #[] #[.pointer (some ⟨pb4, 0, none⟩)], .int .i64 0, .int .i64 1099511627776] 82))
  have hs1 : S < (x0.alloc (.cells #[.func (.func 48) #[] #[.pointer (some ⟨pb4, 0, none⟩)], .func (.func 49) #[] #[.pointer (some ⟨pb4, 0, none⟩)], .int .i64 0, .int .i64 1099511627776] 82)).heap.size := by simp; omega
  clear hb hal hge hlt hc hsx HB0 HK0 HP0 hs0 kk
  go_wp2_with fail
  rw [← hbs4]
  clear kz hbs4
  generalize x0.alloc (.cells #[.func (.func 48) #[] #[.pointer (some ⟨pb4, 0, none⟩)], .func (.func 49) #[] #[.pointer (some ⟨pb4, 0, none⟩)], .int .i64 0, .int .i64 1099511627776] 82) = w1 at HB1 HK1 HP1 hs1 HV4 ⊢
  have kp := HP1.out
  go_wp2_with fail
  clear kp
  refine (at_any mb 2 0 15 w1).mono ?_
  rintro e x1 ⟨pb5, rfl, hge, hlt, hc, hb⟩
  have kz : ∀ O, (x1.alloc O).cell? ⟨S, 0, none⟩ = some (.pointer (some ⟨mb, 0, none⟩)) := fun O => keepA ((hb.cell (p := ⟨S, 0, none⟩) hs1).trans HP1.out)
  have kk : ∀ O, (x1.alloc O).cell? ⟨mb, 0, none⟩ = some (.int .i64 5) := fun O => keepA ((hb.cell (p := ⟨mb, 0, none⟩) (by show mb < _; omega)).trans HK1.out)
  have hsx : S < x1.heap.size := Nat.lt_of_lt_of_le hs1 hb.size
  obtain ⟨b5, hbs5⟩ : ∃ b, b = x1.heap.size := ⟨_, rfl⟩
  have hal : Below x1.heap.size x1 (x1.alloc (.cells #[.func (.func 48) #[] #[.pointer (some ⟨pb5, 0, none⟩)], .func (.func 49) #[] #[.pointer (some ⟨pb5, 0, none⟩)], .int .i64 0, .int .i64 15] 82)) := (Below.refl _ _).alloc (Nat.le_refl _) _
  have HV5 : Hid (VarAt (x1.alloc (.cells #[.func (.func 48) #[] #[.pointer (some ⟨pb5, 0, none⟩)], .func (.func 49) #[] #[.pointer (some ⟨pb5, 0, none⟩)], .int .i64 0, .int .i64 15] 82)) b5 pb5 mb 2 0 15) := Lib.hid ⟨by rw [hbs5]; exact heap_alloc_new x1 _, by omega, by simp; omega, keepA hc⟩
  have HV4 := Lib.hid ((HV4.out.below hb).below hal)
  have HB2 := Lib.hid (HB1.out.trans ((hb.trans (hal.mono hb.size)).mono (by omega)))
  have HK2 := Lib.hid (kk (.cells #[.func (.func 48) #[] #[.pointer (some ⟨pb5, 0, none⟩)], .func (.func 49) #[] #[.pointer (some ⟨pb5, 0, none⟩)], .int .i64 0, .int .i64 15] 82))
  have HP2 := Lib.hid (kz (.cells #[.func (.func 48) #[] #[.pointer (some ⟨pb5, 0, none⟩)], .func (.func 49) #[] #[.pointer (some ⟨pb5, 0, none⟩)], .int .i64 0, .int .i64 15] 82))
  have hs2 : S < (x1.alloc (.cells #[.func (.func 48) #[] #[.pointer (some ⟨pb5, 0, none⟩)], .func (.func 49) #[] #[.pointer (some ⟨pb5, 0, none⟩)], .int .i64 0, .int .i64 15] 82)).heap.size := by simp; omega
  clear hb hal hge hlt hc hsx HB1 HK1 HP1 hs1 kk
  go_wp2_with fail
  rw [← hbs5]
  clear kz hbs5
  generalize x1.alloc (.cells #[.func (.func 48) #[] #[.pointer (some ⟨pb5, 0, none⟩)], .func (.func 49) #[] #[.pointer (some ⟨pb5, 0, none⟩)], .int .i64 0, .int .i64 15] 82) = w2 at HB2 HK2 HP2 hs2 HV4 HV5 ⊢
  have kp := HP2.out
  go_wp2_with fail
  clear kp
  refine (at_any mb 6 1 100 w2).mono ?_
  rintro e x2 ⟨pb6, rfl, hge, hlt, hc, hb⟩
  have kz : ∀ O, (x2.alloc O).cell? ⟨S, 0, none⟩ = some (.pointer (some ⟨mb, 0, none⟩)) := fun O => keepA ((hb.cell (p := ⟨S, 0, none⟩) hs2).trans HP2.out)
  have kk : ∀ O, (x2.alloc O).cell? ⟨mb, 0, none⟩ = some (.int .i64 5) := fun O => keepA ((hb.cell (p := ⟨mb, 0, none⟩) (by show mb < _; omega)).trans HK2.out)
  have hsx : S < x2.heap.size := Nat.lt_of_lt_of_le hs2 hb.size
  obtain ⟨b6, hbs6⟩ : ∃ b, b = x2.heap.size := ⟨_, rfl⟩
  have hal : Below x2.heap.size x2 (x2.alloc (.cells #[.func (.func 48) #[] #[.pointer (some ⟨pb6, 0, none⟩)], .func (.func 49) #[] #[.pointer (some ⟨pb6, 0, none⟩)], .int .i64 1, .int .i64 100] 82)) := (Below.refl _ _).alloc (Nat.le_refl _) _
  have HV6 : Hid (VarAt (x2.alloc (.cells #[.func (.func 48) #[] #[.pointer (some ⟨pb6, 0, none⟩)], .func (.func 49) #[] #[.pointer (some ⟨pb6, 0, none⟩)], .int .i64 1, .int .i64 100] 82)) b6 pb6 mb 6 1 100) := Lib.hid ⟨by rw [hbs6]; exact heap_alloc_new x2 _, by omega, by simp; omega, keepA hc⟩
  have HV4 := Lib.hid ((HV4.out.below hb).below hal)
  have HV5 := Lib.hid ((HV5.out.below hb).below hal)
  have HB3 := Lib.hid (HB2.out.trans ((hb.trans (hal.mono hb.size)).mono (by omega)))
  have HK3 := Lib.hid (kk (.cells #[.func (.func 48) #[] #[.pointer (some ⟨pb6, 0, none⟩)], .func (.func 49) #[] #[.pointer (some ⟨pb6, 0, none⟩)], .int .i64 1, .int .i64 100] 82))
  have HP3 := Lib.hid (kz (.cells #[.func (.func 48) #[] #[.pointer (some ⟨pb6, 0, none⟩)], .func (.func 49) #[] #[.pointer (some ⟨pb6, 0, none⟩)], .int .i64 1, .int .i64 100] 82))
  have hs3 : S < (x2.alloc (.cells #[.func (.func 48) #[] #[.pointer (some ⟨pb6, 0, none⟩)], .func (.func 49) #[] #[.pointer (some ⟨pb6, 0, none⟩)], .int .i64 1, .int .i64 100] 82)).heap.size := by simp; omega
  clear hb hal hge hlt hc hsx HB2 HK2 HP2 hs2 kk
  go_wp2_with fail
  rw [← hbs6]
  clear kz hbs6
  generalize x2.alloc (.cells #[.func (.func 48) #[] #[.pointer (some ⟨pb6, 0, none⟩)], .func (.func 49) #[] #[.pointer (some ⟨pb6, 0, none⟩)], .int .i64 1, .int .i64 100] 82) = w3 at HB3 HK3 HP3 hs3 HV4 HV5 HV6 ⊢
  have kp := HP3.out
  go_wp2_with fail
  clear kp
  refine (at_any mb 7 1 6 w3).mono ?_
  rintro e x3 ⟨pb7, rfl, hge, hlt, hc, hb⟩
  have kz : ∀ O, (x3.alloc O).cell? ⟨S, 0, none⟩ = some (.pointer (some ⟨mb, 0, none⟩)) := fun O => keepA ((hb.cell (p := ⟨S, 0, none⟩) hs3).trans HP3.out)
  have kk : ∀ O, (x3.alloc O).cell? ⟨mb, 0, none⟩ = some (.int .i64 5) := fun O => keepA ((hb.cell (p := ⟨mb, 0, none⟩) (by show mb < _; omega)).trans HK3.out)
  have hsx : S < x3.heap.size := Nat.lt_of_lt_of_le hs3 hb.size
  obtain ⟨b7, hbs7⟩ : ∃ b, b = x3.heap.size := ⟨_, rfl⟩
  have hal : Below x3.heap.size x3 (x3.alloc (.cells #[.func (.func 48) #[] #[.pointer (some ⟨pb7, 0, none⟩)], .func (.func 49) #[] #[.pointer (some ⟨pb7, 0, none⟩)], .int .i64 1, .int .i64 6] 82)) := (Below.refl _ _).alloc (Nat.le_refl _) _
  have HV7 : Hid (VarAt (x3.alloc (.cells #[.func (.func 48) #[] #[.pointer (some ⟨pb7, 0, none⟩)], .func (.func 49) #[] #[.pointer (some ⟨pb7, 0, none⟩)], .int .i64 1, .int .i64 6] 82)) b7 pb7 mb 7 1 6) := Lib.hid ⟨by rw [hbs7]; exact heap_alloc_new x3 _, by omega, by simp; omega, keepA hc⟩
  have HV4 := Lib.hid ((HV4.out.below hb).below hal)
  have HV5 := Lib.hid ((HV5.out.below hb).below hal)
  have HV6 := Lib.hid ((HV6.out.below hb).below hal)
  have HB4 := Lib.hid (HB3.out.trans ((hb.trans (hal.mono hb.size)).mono (by omega)))
  have HK4 := Lib.hid (kk (.cells #[.func (.func 48) #[] #[.pointer (some ⟨pb7, 0, none⟩)], .func (.func 49) #[] #[.pointer (some ⟨pb7, 0, none⟩)], .int .i64 1, .int .i64 6] 82))
  have HP4 := Lib.hid (kz (.cells #[.func (.func 48) #[] #[.pointer (some ⟨pb7, 0, none⟩)], .func (.func 49) #[] #[.pointer (some ⟨pb7, 0, none⟩)], .int .i64 1, .int .i64 6] 82))
  have hs4 : S < (x3.alloc (.cells #[.func (.func 48) #[] #[.pointer (some ⟨pb7, 0, none⟩)], .func (.func 49) #[] #[.pointer (some ⟨pb7, 0, none⟩)], .int .i64 1, .int .i64 6] 82)).heap.size := by simp; omega
  clear hb hal hge hlt hc hsx HB3 HK3 HP3 hs3 kk
  go_wp2_with fail
  rw [← hbs7]
  clear kz hbs7
  generalize x3.alloc (.cells #[.func (.func 48) #[] #[.pointer (some ⟨pb7, 0, none⟩)], .func (.func 49) #[] #[.pointer (some ⟨pb7, 0, none⟩)], .int .i64 1, .int .i64 6] 82) = w4 at HB4 HK4 HP4 hs4 HV4 HV5 HV6 HV7 ⊢
  have kp := HP4.out
  go_wp2_with fail
  clear kp
  refine (at_any mb 15 1 16 w4).mono ?_
  rintro e x4 ⟨pb8, rfl, hge, hlt, hc, hb⟩
  have kz : ∀ O, (x4.alloc O).cell? ⟨S, 0, none⟩ = some (.pointer (some ⟨mb, 0, none⟩)) := fun O => keepA ((hb.cell (p := ⟨S, 0, none⟩) hs4).trans HP4.out)
  have kk : ∀ O, (x4.alloc O).cell? ⟨mb, 0, none⟩ = some (.int .i64 5) := fun O => keepA ((hb.cell (p := ⟨mb, 0, none⟩) (by show mb < _; omega)).trans HK4.out)
  have hsx : S < x4.heap.size := Nat.lt_of_lt_of_le hs4 hb.size
  obtain ⟨b8, hbs8⟩ : ∃ b, b = x4.heap.size := ⟨_, rfl⟩
  have hal : Below x4.heap.size x4 (x4.alloc (.cells #[.func (.func 48) #[] #[.pointer (some ⟨pb8, 0, none⟩)], .func (.func 49) #[] #[.pointer (some ⟨pb8, 0, none⟩)], .int .i64 1, .int .i64 16] 82)) := (Below.refl _ _).alloc (Nat.le_refl _) _
  have HV8 : Hid (VarAt (x4.alloc (.cells #[.func (.func 48) #[] #[.pointer (some ⟨pb8, 0, none⟩)], .func (.func 49) #[] #[.pointer (some ⟨pb8, 0, none⟩)], .int .i64 1, .int .i64 16] 82)) b8 pb8 mb 15 1 16) := Lib.hid ⟨by rw [hbs8]; exact heap_alloc_new x4 _, by omega, by simp; omega, keepA hc⟩
  have HV4 := Lib.hid ((HV4.out.below hb).below hal)
  have HV5 := Lib.hid ((HV5.out.below hb).below hal)
  have HV6 := Lib.hid ((HV6.out.below hb).below hal)
  have HV7 := Lib.hid ((HV7.out.below hb).below hal)
  have HB5 := Lib.hid (HB4.out.trans ((hb.trans (hal.mono hb.size)).mono (by omega)))
  have HK5 := Lib.hid (kk (.cells #[.func (.func 48) #[] #[.pointer (some ⟨pb8, 0, none⟩)], .func (.func 49) #[] #[.pointer (some ⟨pb8, 0, none⟩)], .int .i64 1, .int .i64 16] 82))
  have HP5 := Lib.hid (kz (.cells #[.func (.func 48) #[] #[.pointer (some ⟨pb8, 0, none⟩)], .func (.func 49) #[] #[.pointer (some ⟨pb8, 0, none⟩)], .int .i64 1, .int .i64 16] 82))
  have hs5 : S < (x4.alloc (.cells #[.func (.func 48) #[] #[.pointer (some ⟨pb8, 0, none⟩)], .func (.func 49) #[] #[.pointer (some ⟨pb8, 0, none⟩)], .int .i64 1, .int .i64 16] 82)).heap.size := by simp; omega
  clear hb hal hge hlt hc hsx HB4 HK4 HP4 hs4 kk
  go_wp2_with fail
  rw [← hbs8]
  clear kz hbs8
  generalize x4.alloc (.cells #[.func (.func 48) #[] #[.pointer (some ⟨pb8, 0, none⟩)], .func (.func 49) #[] #[.pointer (some ⟨pb8, 0, none⟩)], .int .i64 1, .int .i64 16] 82) = w5 at HB5 HK5 HP5 hs5 HV4 HV5 HV6 HV7 HV8 ⊢
  have kp := HP5.out
  go_wp2_with fail
  clear kp
  refine (at_any mb 16 1 1099511627776 w5).mono ?_
  rintro e x5 ⟨pb9, rfl, hge, hlt, hc, hb⟩
  have kz : ∀ O, (x5.alloc O).cell? ⟨S, 0, none⟩ = some (.pointer (some ⟨mb, 0, none⟩)) := fun O => keepA ((hb.cell (p := ⟨S, 0, none⟩) hs5).trans HP5.out)
  have kk : ∀ O, (x5.alloc O).cell? ⟨mb, 0, none⟩ = some (.int .i64 5) := fun O => keepA ((hb.cell (p := ⟨mb, 0, none⟩) (by show mb < _; omega)).trans HK5.out)
  have hsx : S < x5.heap.size := Nat.lt_of_lt_of_le hs5 hb.size
  obtain ⟨b9, hbs9⟩ : ∃ b, b = x5.heap.size := ⟨_, rfl⟩
  have hal : Below x5.heap.size x5 (x5.alloc (.cells #[.func (.func 48) #[] #[.pointer (some ⟨pb9, 0, none⟩)], .func (.func 49) #[] #[.pointer (some ⟨pb9, 0, none⟩)], .int .i64 1, .int .i64 1099511627776] 82)) := (Below.refl _ _).alloc (Nat.le_refl _) _
  have HV9 : Hid (VarAt (x5.alloc (.cells #[.func (.func 48) #[] #[.pointer (some ⟨pb9, 0, none⟩)], .func (.func 49) #[] #[.pointer (some ⟨pb9, 0, none⟩)], .int .i64 1, .int .i64 1099511627776] 82)) b9 pb9 mb 16 1 1099511627776) := Lib.hid ⟨by rw [hbs9]; exact heap_alloc_new x5 _, by omega, by simp; omega, keepA hc⟩
  have HV4 := Lib.hid ((HV4.out.below hb).below hal)
  have HV5 := Lib.hid ((HV5.out.below hb).below hal)
  have HV6 := Lib.hid ((HV6.out.below hb).below hal)
  have HV7 := Lib.hid ((HV7.out.below hb).below hal)
  have HV8 := Lib.hid ((HV8.out.below hb).below hal)
  have HB6 := Lib.hid (HB5.out.trans ((hb.trans (hal.mono hb.size)).mono (by omega)))
  have HK6 := Lib.hid (kk (.cells #[.func (.func 48) #[] #[.pointer (some ⟨pb9, 0, none⟩)], .func (.func 49) #[] #[.pointer (some ⟨pb9, 0, none⟩)], .int .i64 1, .int .i64 1099511627776] 82))
  have HP6 := Lib.hid (kz (.cells #[.func (.func 48) #[] #[.pointer (some ⟨pb9, 0, none⟩)], .func (.func 49) #[] #[.pointer (some ⟨pb9, 0, none⟩)], .int .i64 1, .int .i64 1099511627776] 82))
  have hs6 : S < (x5.alloc (.cells #[.func (.func 48) #[] #[.pointer (some ⟨pb9, 0, none⟩)], .func (.func 49) #[] #[.pointer (some ⟨pb9, 0, none⟩)], .int .i64 1, .int .i64 1099511627776] 82)).heap.size := by simp; omega
  clear hb hal hge hlt hc hsx HB5 HK5 HP5 hs5
  go_wp2_with fail
  rw [← hbs9]
  clear kz kk 
  have hz6 : (x5.alloc (.cells #[.func (.func 48) #[] #[.pointer (some ⟨pb9, 0, none⟩)], .func (.func 49) #[] #[.pointer (some ⟨pb9, 0, none⟩)], .int .i64 1, .int .i64 1099511627776] 82)).heap.size = b9 + 1 := by have := hs6; rw [hbs9]; simp
  clear hbs9
  generalize x5.alloc (.cells #[.func (.func 48) #[] #[.pointer (some ⟨pb9, 0, none⟩)], .func (.func 49) #[] #[.pointer (some ⟨pb9, 0, none⟩)], .int .i64 1, .int .i64 1099511627776] 82) = w6 at HB6 HK6 HP6 hs6 hz6 HV4 HV5 HV6 HV7 HV8 HV9 ⊢
  have hd : Below w6.heap.size w6 w6.drew := (Below.refl _ _).drew
  have HV5 := Lib.hid (HV5.out.below hd)
  have HV6 := Lib.hid (HV6.out.below hd)
  have HV7 := Lib.hid (HV7.out.below hd)
  have HP6 : Hid (w6.drew.cell? ⟨S, 0, none⟩ = some (.pointer (some ⟨mb, 0, none⟩))) := HP6
  have HB6 := Lib.hid HB6.out.drew
  have hs6 : S < w6.drew.heap.size := hs6
  clear hd HK6 hz6 HV4 HV8 HV9
  have f6_b5_0 : w6.drew.cell? ⟨b5, 0, none⟩ = some (.func (.func 48) #[] #[.pointer (some ⟨pb5, 0, none⟩)]) := cellb HV5.out.blk rfl
  have f6_b5_1 : w6.drew.cell? ⟨b5, 1, none⟩ = some (.func (.func 49) #[] #[.pointer (some ⟨pb5, 0, none⟩)]) := cellb HV5.out.blk rfl
  have f6_b5_2 : w6.drew.cell? ⟨b5, 2, none⟩ = some (.int .i64 0) := cellb HV5.out.blk rfl
  have f6_b5_3 : w6.drew.cell? ⟨b5, 3, none⟩ = some (.int .i64 15) := cellb HV5.out.blk rfl
  have f6_b6_0 : w6.drew.cell? ⟨b6, 0, none⟩ = some (.func (.func 48) #[] #[.pointer (some ⟨pb6, 0, none⟩)]) := cellb HV6.out.blk rfl
  have f6_b6_1 : w6.drew.cell? ⟨b6, 1, none⟩ = some (.func (.func 49) #[] #[.pointer (some ⟨pb6, 0, none⟩)]) := cellb HV6.out.blk rfl
  have f6_b6_2 : w6.drew.cell? ⟨b6, 2, none⟩ = some (.int .i64 1) := cellb HV6.out.blk rfl
  have f6_b6_3 : w6.drew.cell? ⟨b6, 3, none⟩ = some (.int .i64 100) := cellb HV6.out.blk rfl
  have f6_b7_0 : w6.drew.cell? ⟨b7, 0, none⟩ = some (.func (.func 48) #[] #[.pointer (some ⟨pb7, 0, none⟩)]) := cellb HV7.out.blk rfl
  have f6_b7_1 : w6.drew.cell? ⟨b7, 1, none⟩ = some (.func (.func 49) #[] #[.pointer (some ⟨pb7, 0, none⟩)]) := cellb HV7.out.blk rfl
  have f6_b7_2 : w6.drew.cell? ⟨b7, 2, none⟩ = some (.int .i64 1) := cellb HV7.out.blk rfl
  have f6_b7_3 : w6.drew.cell? ⟨b7, 3, none⟩ = some (.int .i64 6) := cellb HV7.out.blk rfl
  have f6_p : w6.drew.cell? ⟨S, 0, none⟩ = some (.pointer (some ⟨mb, 0, none⟩)) := HP6.out
  refine wp_region_noPanic ?_
  refine wp_region_held_drew (S := fun w' => w'.cell? ⟨b5, 0, none⟩ = some (.func (.func 48) #[] #[.pointer (some ⟨pb5, 0, none⟩)]) ∧ w'.cell? ⟨b5, 1, none⟩ = some (.func (.func 49) #[] #[.pointer (some ⟨pb5, 0, none⟩)]) ∧ w'.cell? ⟨b5, 2, none⟩ = some (.int .i64 0) ∧ w'.cell? ⟨b5, 3, none⟩ = some (.int .i64 15) ∧ w'.cell? ⟨b6, 0, none⟩ = some (.func (.func 48) #[] #[.pointer (some ⟨pb6, 0, none⟩)]) ∧ w'.cell? ⟨b6, 1, none⟩ = some (.func (.func 49) #[] #[.pointer (some ⟨pb6, 0, none⟩)]) ∧ w'.cell? ⟨b6, 2, none⟩ = some (.int .i64 1) ∧ w'.cell? ⟨b6, 3, none⟩ = some (.int .i64 100) ∧ w'.cell? ⟨b7, 0, none⟩ = some (.func (.func 48) #[] #[.pointer (some ⟨pb7, 0, none⟩)]) ∧ w'.cell? ⟨b7, 1, none⟩ = some (.func (.func 49) #[] #[.pointer (some ⟨pb7, 0, none⟩)]) ∧ w'.cell? ⟨b7, 2, none⟩ = some (.int .i64 1) ∧ w'.cell? ⟨b7, 3, none⟩ = some (.int .i64 6) ∧ w'.cell? ⟨S, 0, none⟩ = some (.pointer (some ⟨mb, 0, none⟩))) (by kernel_rfl) ?_ (fun hHeld => ?_)
  · try dsimp only
    (refine ⟨?_, ?_, ?_, ?_, ?_, ?_, ?_, ?_, ?_, ?_, ?_, ?_, ?_⟩ <;> (first | with_reducible assumption))
  refine wpAnyH_take (i := 0) (v := ?_) (by (simp only [List.getElem?_toArray, List.getElem?_cons_zero]; rfl)) (by kernel_rfl) (by kernel_rfl) (by kernel_rfl) (fun _ _ _ h => h) (Or.inl ⟨by rfl, ?_⟩) (by assumption) ?_
  rotate_left
  · (intro w hSw; (try dsimp only at hSw); go_simp; try with_reducible rfl)
  try simp only [Act.put, List.setIfInBounds_toArray, List.set_cons_zero, List.set_cons_succ]
  refine wpAnyH_take (i := 1) (v := ?_) (by (simp only [List.getElem?_toArray, List.getElem?_cons_succ, List.getElem?_cons_zero]; rfl)) (by kernel_rfl) (by kernel_rfl) (by kernel_rfl) (fun _ _ _ h => h) (Or.inl ⟨by rfl, ?_⟩) (by assumption) ?_
  rotate_left
  · (intro w hSw; (try dsimp only at hSw); go_simp; try with_reducible rfl)
  try simp only [Act.put, List.setIfInBounds_toArray, List.set_cons_zero, List.set_cons_succ]
  refine wpAnyH_take (i := 2) (v := ?_) (by (simp only [List.getElem?_toArray, List.getElem?_cons_succ, List.getElem?_cons_zero]; rfl)) (by kernel_rfl) (by kernel_rfl) (by kernel_rfl) (fun _ _ _ h => h) (Or.inl ⟨by rfl, ?_⟩) (by assumption) ?_
  rotate_left
  · (intro w hSw; (try dsimp only at hSw); go_simp; try with_reducible rfl)
  try simp only [Act.put, List.setIfInBounds_toArray, List.set_cons_zero, List.set_cons_succ]
  refine wpAnyH_take (i := 3) (v := ?_) (by (simp only [List.getElem?_toArray, List.getElem?_cons_succ, List.getElem?_cons_zero]; rfl)) (by kernel_rfl) (by kernel_rfl) (by kernel_rfl) (fun _ _ _ h => h) (Or.inl ⟨by rfl, ?_⟩) (by assumption) ?_
  rotate_left
  · (intro w hSw; (try dsimp only at hSw); go_simp; try with_reducible rfl)
  try simp only [Act.put, List.setIfInBounds_toArray, List.set_cons_zero, List.set_cons_succ]
  refine wpAnyH_take (i := 4) (v := ?_) (by (simp only [List.getElem?_toArray, List.getElem?_cons_succ, List.getElem?_cons_zero]; rfl)) (by kernel_rfl) (by kernel_rfl) (by kernel_rfl) (fun _ _ _ h => h) (Or.inl ⟨by rfl, ?_⟩) (by assumption) ?_
  rotate_left
  · (intro w hSw; (try dsimp only at hSw); go_simp; try with_reducible rfl)
  try simp only [Act.put, List.setIfInBounds_toArray, List.set_cons_zero, List.set_cons_succ]
  refine wpAnyH_take (i := 5) (v := ?_) (by (simp only [List.getElem?_toArray, List.getElem?_cons_succ, List.getElem?_cons_zero]; rfl)) (by kernel_rfl) (by kernel_rfl) (by kernel_rfl) (fun _ _ _ h => h) (Or.inl ⟨by rfl, ?_⟩) (by assumption) ?_
  rotate_left
  · (intro w hSw; (try dsimp only at hSw); go_simp; try with_reducible rfl)
  try simp only [Act.put, List.setIfInBounds_toArray, List.set_cons_zero, List.set_cons_succ]
  refine wpAnyH_ready (rs := [6]) (by kernel_rfl) (by simp) ?_
  refine AllReadyH.cons (by (simp only [List.getElem?_toArray, List.getElem?_cons_succ, List.getElem?_cons_zero]; rfl)) (fun K hK => ?_) AllReadyH.nil
  go_simp
  refine (at_any mb 10 1 3 w6.drew).mono ?_
  rintro e w7 ⟨pc10, rfl, ge7, lt7, pt7, hb⟩
  have HV5 := Lib.hid (HV5.out.below hb)
  have HV6 := Lib.hid (HV6.out.below hb)
  have HV7 := Lib.hid (HV7.out.below hb)
  have HP7 := Lib.hid ((hb.cell (p := ⟨S, 0, none⟩) hs6).trans HP6.out)
  have HB7 := Lib.hid (HB6.out.trans (hb.mono (by omega)))
  have hs7 : S < w7.heap.size := Nat.lt_of_lt_of_le hs6 hb.size
  have f7_b5_0 : w7.cell? ⟨b5, 0, none⟩ = some (.func (.func 48) #[] #[.pointer (some ⟨pb5, 0, none⟩)]) := cellb HV5.out.blk rfl
  have f7_b5_1 : w7.cell? ⟨b5, 1, none⟩ = some (.func (.func 49) #[] #[.pointer (some ⟨pb5, 0, none⟩)]) := cellb HV5.out.blk rfl
  have f7_b5_2 : w7.cell? ⟨b5, 2, none⟩ = some (.int .i64 0) := cellb HV5.out.blk rfl
  have f7_b5_3 : w7.cell? ⟨b5, 3, none⟩ = some (.int .i64 15) := cellb HV5.out.blk rfl
  have f7_b6_0 : w7.cell? ⟨b6, 0, none⟩ = some (.func (.func 48) #[] #[.pointer (some ⟨pb6, 0, none⟩)]) := cellb HV6.out.blk rfl
  have f7_b6_1 : w7.cell? ⟨b6, 1, none⟩ = some (.func (.func 49) #[] #[.pointer (some ⟨pb6, 0, none⟩)]) := cellb HV6.out.blk rfl
  have f7_b6_2 : w7.cell? ⟨b6, 2, none⟩ = some (.int .i64 1) := cellb HV6.out.blk rfl
  have f7_b6_3 : w7.cell? ⟨b6, 3, none⟩ = some (.int .i64 100) := cellb HV6.out.blk rfl
  have f7_b7_0 : w7.cell? ⟨b7, 0, none⟩ = some (.func (.func 48) #[] #[.pointer (some ⟨pb7, 0, none⟩)]) := cellb HV7.out.blk rfl
  have f7_b7_1 : w7.cell? ⟨b7, 1, none⟩ = some (.func (.func 49) #[] #[.pointer (some ⟨pb7, 0, none⟩)]) := cellb HV7.out.blk rfl
  have f7_b7_2 : w7.cell? ⟨b7, 2, none⟩ = some (.int .i64 1) := cellb HV7.out.blk rfl
  have f7_b7_3 : w7.cell? ⟨b7, 3, none⟩ = some (.int .i64 6) := cellb HV7.out.blk rfl
  have f7_p : w7.cell? ⟨S, 0, none⟩ = some (.pointer (some ⟨mb, 0, none⟩)) := HP7.out
  have gt7 : mb < pc10 := by omega
  clear hb ge7
  refine hK.out _ _ ?_ (fun hHeld => ?_)
  · try dsimp only
    (refine ⟨?_, ?_, ?_, ?_, ?_, ?_, ?_, ?_, ?_, ?_, ?_, ?_, ?_⟩ <;> (first | with_reducible assumption))
  clear hK K
  try simp only [Act.put, List.setIfInBounds_toArray, List.set_cons_zero, List.set_cons_succ]
  refine wpAnyH_ready (rs := [7]) (by kernel_rfl) (by simp) ?_
  refine AllReadyH.cons (by (simp only [List.getElem?_toArray, List.getElem?_cons_succ, List.getElem?_cons_zero]; rfl)) (fun K hK => ?_) AllReadyH.nil
  go_simp
  have hrow := heap_alloc_new w7 (.cells #[.func (.func 48) #[] #[.pointer (some ⟨pb5, 0, none⟩)], .func (.func 49) #[] #[.pointer (some ⟨pb5, 0, none⟩)], .int .i64 0, .int .i64 15, .func (.func 48) #[] #[.pointer (some ⟨pb6, 0, none⟩)], .func (.func 49) #[] #[.pointer (some ⟨pb6, 0, none⟩)], .int .i64 1, .int .i64 100, .func (.func 48) #[] #[.pointer (some ⟨pb7, 0, none⟩)], .func (.func 49) #[] #[.pointer (some ⟨pb7, 0, none⟩)], .int .i64 1, .int .i64 6, .func (.func 48) #[] #[.pointer (some ⟨pc10, 0, none⟩)], .func (.func 49) #[] #[.pointer (some ⟨pc10, 0, none⟩)], .int .i64 1, .int .i64 3] 82)
  have hal : Below w7.heap.size w7 (w7.alloc (.cells #[.func (.func 48) #[] #[.pointer (some ⟨pb5, 0, none⟩)], .func (.func 49) #[] #[.pointer (some ⟨pb5, 0, none⟩)], .int .i64 0, .int .i64 15, .func (.func 48) #[] #[.pointer (some ⟨pb6, 0, none⟩)], .func (.func 49) #[] #[.pointer (some ⟨pb6, 0, none⟩)], .int .i64 1, .int .i64 100, .func (.func 48) #[] #[.pointer (some ⟨pb7, 0, none⟩)], .func (.func 49) #[] #[.pointer (some ⟨pb7, 0, none⟩)], .int .i64 1, .int .i64 6, .func (.func 48) #[] #[.pointer (some ⟨pc10, 0, none⟩)], .func (.func 49) #[] #[.pointer (some ⟨pc10, 0, none⟩)], .int .i64 1, .int .i64 3] 82)) := (Below.refl _ _).alloc (Nat.le_refl _) _
  obtain ⟨R, hR⟩ : ∃ R, R = w7.heap.size := ⟨_, rfl⟩
  have hmR : mb < R := by omega
  rw [← hR] at hrow ⊢
  have HV5 := Lib.hid (HV5.out.below hal)
  have HV6 := Lib.hid (HV6.out.below hal)
  have HV7 := Lib.hid (HV7.out.below hal)
  have HP8 := Lib.hid (keepA (o := (.cells #[.func (.func 48) #[] #[.pointer (some ⟨pb5, 0, none⟩)], .func (.func 49) #[] #[.pointer (some ⟨pb5, 0, none⟩)], .int .i64 0, .int .i64 15, .func (.func 48) #[] #[.pointer (some ⟨pb6, 0, none⟩)], .func (.func 49) #[] #[.pointer (some ⟨pb6, 0, none⟩)], .int .i64 1, .int .i64 100, .func (.func 48) #[] #[.pointer (some ⟨pb7, 0, none⟩)], .func (.func 49) #[] #[.pointer (some ⟨pb7, 0, none⟩)], .int .i64 1, .int .i64 6, .func (.func 48) #[] #[.pointer (some ⟨pc10, 0, none⟩)], .func (.func 49) #[] #[.pointer (some ⟨pc10, 0, none⟩)], .int .i64 1, .int .i64 3] 82)) HP7.out)
  have HR := Lib.hid hrow
  have HB8 := Lib.hid (HB7.out.trans (hal.mono (by omega)))
  have lt7b : pc10 < (w7.alloc (.cells #[.func (.func 48) #[] #[.pointer (some ⟨pb5, 0, none⟩)], .func (.func 49) #[] #[.pointer (some ⟨pb5, 0, none⟩)], .int .i64 0, .int .i64 15, .func (.func 48) #[] #[.pointer (some ⟨pb6, 0, none⟩)], .func (.func 49) #[] #[.pointer (some ⟨pb6, 0, none⟩)], .int .i64 1, .int .i64 100, .func (.func 48) #[] #[.pointer (some ⟨pb7, 0, none⟩)], .func (.func 49) #[] #[.pointer (some ⟨pb7, 0, none⟩)], .int .i64 1, .int .i64 6, .func (.func 48) #[] #[.pointer (some ⟨pc10, 0, none⟩)], .func (.func 49) #[] #[.pointer (some ⟨pc10, 0, none⟩)], .int .i64 1, .int .i64 3] 82)).heap.size := by simp; omega
  have pt7b := keepA (o := (.cells #[.func (.func 48) #[] #[.pointer (some ⟨pb5, 0, none⟩)], .func (.func 49) #[] #[.pointer (some ⟨pb5, 0, none⟩)], .int .i64 0, .int .i64 15, .func (.func 48) #[] #[.pointer (some ⟨pb6, 0, none⟩)], .func (.func 49) #[] #[.pointer (some ⟨pb6, 0, none⟩)], .int .i64 1, .int .i64 100, .func (.func 48) #[] #[.pointer (some ⟨pb7, 0, none⟩)], .func (.func 49) #[] #[.pointer (some ⟨pb7, 0, none⟩)], .int .i64 1, .int .i64 6, .func (.func 48) #[] #[.pointer (some ⟨pc10, 0, none⟩)], .func (.func 49) #[] #[.pointer (some ⟨pc10, 0, none⟩)], .int .i64 1, .int .i64 3] 82)) pt7
  have hs8 : S < (w7.alloc (.cells #[.func (.func 48) #[] #[.pointer (some ⟨pb5, 0, none⟩)], .func (.func 49) #[] #[.pointer (some ⟨pb5, 0, none⟩)], .int .i64 0, .int .i64 15, .func (.func 48) #[] #[.pointer (some ⟨pb6, 0, none⟩)], .func (.func 49) #[] #[.pointer (some ⟨pb6, 0, none⟩)], .int .i64 1, .int .i64 100, .func (.func 48) #[] #[.pointer (some ⟨pb7, 0, none⟩)], .func (.func 49) #[] #[.pointer (some ⟨pb7, 0, none⟩)], .int .i64 1, .int .i64 6, .func (.func 48) #[] #[.pointer (some ⟨pc10, 0, none⟩)], .func (.func 49) #[] #[.pointer (some ⟨pc10, 0, none⟩)], .int .i64 1, .int .i64 3] 82)).heap.size := by simp; omega
  clear hrow hal hR pt7 lt7
  generalize (w7.alloc (.cells #[.func (.func 48) #[] #[.pointer (some ⟨pb5, 0, none⟩)], .func (.func 49) #[] #[.pointer (some ⟨pb5, 0, none⟩)], .int .i64 0, .int .i64 15, .func (.func 48) #[] #[.pointer (some ⟨pb6, 0, none⟩)], .func (.func 49) #[] #[.pointer (some ⟨pb6, 0, none⟩)], .int .i64 1, .int .i64 100, .func (.func 48) #[] #[.pointer (some ⟨pb7, 0, none⟩)], .func (.func 49) #[] #[.pointer (some ⟨pb7, 0, none⟩)], .int .i64 1, .int .i64 6, .func (.func 48) #[] #[.pointer (some ⟨pc10, 0, none⟩)], .func (.func 49) #[] #[.pointer (some ⟨pc10, 0, none⟩)], .int .i64 1, .int .i64 3] 82)) = w8 at HV5 HV6 HV7 HP8 HR HB8 lt7b pt7b hs8 ⊢
  have f8_b5_0 : w8.cell? ⟨b5, 0, none⟩ = some (.func (.func 48) #[] #[.pointer (some ⟨pb5, 0, none⟩)]) := cellb HV5.out.blk rfl
  have f8_b5_1 : w8.cell? ⟨b5, 1, none⟩ = some (.func (.func 49) #[] #[.pointer (some ⟨pb5, 0, none⟩)]) := cellb HV5.out.blk rfl
  have f8_b5_2 : w8.cell? ⟨b5, 2, none⟩ = some (.int .i64 0) := cellb HV5.out.blk rfl
  have f8_b5_3 : w8.cell? ⟨b5, 3, none⟩ = some (.int .i64 15) := cellb HV5.out.blk rfl
  have f8_b6_0 : w8.cell? ⟨b6, 0, none⟩ = some (.func (.func 48) #[] #[.pointer (some ⟨pb6, 0, none⟩)]) := cellb HV6.out.blk rfl
  have f8_b6_1 : w8.cell? ⟨b6, 1, none⟩ = some (.func (.func 49) #[] #[.pointer (some ⟨pb6, 0, none⟩)]) := cellb HV6.out.blk rfl
  have f8_b6_2 : w8.cell? ⟨b6, 2, none⟩ = some (.int .i64 1) := cellb HV6.out.blk rfl
  have f8_b6_3 : w8.cell? ⟨b6, 3, none⟩ = some (.int .i64 100) := cellb HV6.out.blk rfl
  have f8_b7_0 : w8.cell? ⟨b7, 0, none⟩ = some (.func (.func 48) #[] #[.pointer (some ⟨pb7, 0, none⟩)]) := cellb HV7.out.blk rfl
  have f8_b7_1 : w8.cell? ⟨b7, 1, none⟩ = some (.func (.func 49) #[] #[.pointer (some ⟨pb7, 0, none⟩)]) := cellb HV7.out.blk rfl
  have f8_b7_2 : w8.cell? ⟨b7, 2, none⟩ = some (.int .i64 1) := cellb HV7.out.blk rfl
  have f8_b7_3 : w8.cell? ⟨b7, 3, none⟩ = some (.int .i64 6) := cellb HV7.out.blk rfl
  have f8_p : w8.cell? ⟨S, 0, none⟩ = some (.pointer (some ⟨mb, 0, none⟩)) := HP8.out
  refine hK.out _ _ ?_ (fun hHeld => ?_)
  · try dsimp only
    (refine ⟨?_, ?_, ?_, ?_, ?_, ?_, ?_, ?_, ?_, ?_, ?_, ?_, ?_⟩ <;> (first | with_reducible assumption))
  clear hK K
  try simp only [Act.put, List.setIfInBounds_toArray, List.set_cons_zero, List.set_cons_succ]
  refine wpAnyH_ready (rs := [8]) (by kernel_rfl) (by simp) ?_
  refine AllReadyH.cons (by (simp only [List.getElem?_toArray, List.getElem?_cons_succ, List.getElem?_cons_zero]; rfl)) (fun K hK => ?_) AllReadyH.nil
  go_simp
  refine (all_any _ _ _ _).mono ?_
  rintro e w' ⟨rfl, rfl⟩
  refine hK.out _ _ ?_ (fun hHeld => ?_)
  · try dsimp only
    (refine ⟨?_, ?_, ?_, ?_, ?_, ?_, ?_, ?_, ?_, ?_, ?_, ?_, ?_⟩ <;> (first | with_reducible assumption))
  clear hK K
  try simp only [Act.put, List.setIfInBounds_toArray, List.set_cons_zero, List.set_cons_succ]
  refine wpAnyH_take (i := 9) (v := ?_) (by (simp only [List.getElem?_toArray, List.getElem?_cons_succ, List.getElem?_cons_zero]; rfl)) (by kernel_rfl) (by kernel_rfl) (by kernel_rfl) (fun _ _ _ h => h) (Or.inl ⟨by rfl, ?_⟩) (by assumption) ?_
  rotate_left
  · (intro w hSw; (try dsimp only at hSw); go_simp; try with_reducible rfl)
  try simp only [Act.put, List.setIfInBounds_toArray, List.set_cons_zero, List.set_cons_succ]
  refine wpAnyH_take (i := 10) (v := ?_) (by (simp only [List.getElem?_toArray, List.getElem?_cons_succ, List.getElem?_cons_zero]; rfl)) (by kernel_rfl) (by kernel_rfl) (by kernel_rfl) (fun _ _ _ h => h) (Or.inl ⟨by rfl, ?_⟩) (by assumption) ?_
  rotate_left
  · (intro w hSw; (try dsimp only at hSw); go_simp; try with_reducible rfl)
  try simp only [Act.put, List.setIfInBounds_toArray, List.set_cons_zero, List.set_cons_succ]
  refine wpAnyH_done (by kernel_rfl) ?_ _
  refine NoPanic.normal ?_
  clear hHeld f6_b5_0 f6_b5_1 f6_b5_2 f6_b5_3 f6_b6_0 f6_b6_1 f6_b6_2 f6_b6_3 f6_b7_0 f6_b7_1 f6_b7_2 f6_b7_3 f7_b5_0 f7_b5_1 f7_b5_2 f7_b5_3 f7_b6_0 f7_b6_1 f7_b6_2 f7_b6_3 f7_b7_0 f7_b7_1 f7_b7_2 f7_b7_3 f8_b5_0 f8_b5_1 f8_b5_2 f8_b5_3 f8_b6_0 f8_b6_1 f8_b6_2 f8_b6_3 f8_b7_0 f8_b7_1 f8_b7_2 f8_b7_3 f6_p f7_p f8_p
  have hrow := HR.out
  have V5 := HV5.out
  have V6 := HV6.out
  have V7 := HV7.out
  have hF : FieldsIn w8 w8.heap.size mb (some ⟨R, 0, none⟩) [⟨2, 0, 15⟩, ⟨6, 1, 100⟩, ⟨7, 1, 6⟩, ⟨10, 1, 3⟩] := by
    refine .inr ⟨R, rfl, by omega, ltb hrow, fun i f hf => ?_⟩
    have hi : i < 4 := (List.getElem?_eq_some_iff.1 hf).1
    have hi : i = 0 ∨ i = 1 ∨ i = 2 ∨ i = 3 := by omega
    rcases hi with rfl | rfl | rfl | rfl
    · obtain rfl := Option.some.inj hf
      exact ⟨_, _, .inl ⟨pb5, V5.gt, V5.lt, rfl, rfl, V5.ptr⟩, cellb hrow rfl, cellb hrow rfl, cellb hrow rfl, cellb hrow rfl⟩
    · obtain rfl := Option.some.inj hf
      exact ⟨_, _, .inl ⟨pb6, V6.gt, V6.lt, rfl, rfl, V6.ptr⟩, cellb hrow rfl, cellb hrow rfl, cellb hrow rfl, cellb hrow rfl⟩
    · obtain rfl := Option.some.inj hf
      exact ⟨_, _, .inl ⟨pb7, V7.gt, V7.lt, rfl, rfl, V7.ptr⟩, cellb hrow rfl, cellb hrow rfl, cellb hrow rfl, cellb hrow rfl⟩
    · obtain rfl := Option.some.inj hf
      exact ⟨_, _, .inl ⟨pc10, gt7, lt7b, rfl, rfl, pt7b⟩, cellb hrow rfl, cellb hrow rfl, cellb hrow rfl, cellb hrow rfl⟩
  have HF := Lib.hid hF
  clear hrow V5 V6 V7 hF
  go_wp2_with fail
  refine bodyPost_ret (v := .tuple #[.slice (some ⟨R, 0, none⟩) 4 4, .bool true]) (by simp [results, Try.results35, go_sem]) rfl ?_
  exact ⟨_, _, rfl, HF.out, by rw [HSW.out]; exact HB8.out⟩

set_option maxRecDepth 100000 in
set_option maxHeartbeats 4000000 in
theorem fields_4 (mb : Nat) (w : World) (v : Nat → Int) (A : Option Addr) (n c : Nat) (hm : MAt w mb v A n c) (hk : v 0 = 4) :
    Calls Try.prog 35 #[.pointer (some ⟨mb, 0, none⟩)] w fun e w' => ∃ R c', e = .returned (.tuple #[.slice R 4 c', .bool true]) ∧ FieldsIn w' w'.heap.size mb R [⟨1, 0, 1099511627776⟩, ⟨2, 0, 15⟩, ⟨6, 1, 100⟩, ⟨7, 1, 6⟩] ∧ Below w.heap.size w w' := by
  have HM := Lib.hid hm
  have hml := ltb hm
  obtain ⟨S, hS⟩ : ∃ S, S = w.heap.size := ⟨_, rfl⟩
  have hkk := cellb (i := 0) hm rfl
  rw [hk] at hkk
  have hkb : (w.alloc (.cells #[.pointer (some ⟨mb, 0, none⟩)] 79)).cell? ⟨mb, 0, none⟩ = some (.int .i64 4) := keepA hkk
  have hpb : (w.alloc (.cells #[.pointer (some ⟨mb, 0, none⟩)] 79)).cell? ⟨S, 0, none⟩ = some (.pointer (some ⟨mb, 0, none⟩)) := by rw [hS]; exact cell_of_one (heap_alloc_new w _)
  have hb0 : Below S w (w.alloc (.cells #[.pointer (some ⟨mb, 0, none⟩)] 79)) := by rw [hS]; exact (Below.refl w.heap.size w).alloc (Nat.le_refl _) _
  have HB0 := Lib.hid hb0
  have HK0 := Lib.hid hkb
  have HP0 := Lib.hid hpb
  have hs0 : S < (w.alloc (.cells #[.pointer (some ⟨mb, 0, none⟩)] 79)).heap.size := by simp [hS]
  have hmS : mb < S := by omega
  have HSW : Hid (w.heap.size = S) := Lib.hid hS.symm
  clear hm hkk hkb hpb hb0
  go_enter Try.func35, Try.ntmps35
  go_wp2_with fail
  rw [← hS]
  clear hS hml
  generalize w.alloc (.cells #[.pointer (some ⟨mb, 0, none⟩)] 79) = w0 at HB0 HK0 HP0 hs0 ⊢
  refine (at_any mb 1 0 1099511627776 w0).mono ?_
  rintro e x0 ⟨pb4, rfl, hge, hlt, hc, hb⟩
  have kz : ∀ O, (x0.alloc O).cell? ⟨S, 0, none⟩ = some (.pointer (some ⟨mb, 0, none⟩)) := fun O => keepA ((hb.cell (p := ⟨S, 0, none⟩) hs0).trans HP0.out)
  have kk : ∀ O, (x0.alloc O).cell? ⟨mb, 0, none⟩ = some (.int .i64 4) := fun O => keepA ((hb.cell (p := ⟨mb, 0, none⟩) (by show mb < _; omega)).trans HK0.out)
  have hsx : S < x0.heap.size := Nat.lt_of_lt_of_le hs0 hb.size
  obtain ⟨b4, hbs4⟩ : ∃ b, b = x0.heap.size := ⟨_, rfl⟩
  have hal : Below x0.heap.size x0 (x0.alloc (.cells #[.func (.func 48) #[] #[.pointer (some ⟨pb4, 0, none⟩)], .func (.func 49) #[] #[.pointer (some ⟨pb4, 0, none⟩)], .int .i64 0, .int .i64 1099511627776] 82)) := (Below.refl _ _).alloc (Nat.le_refl _) _
  have HV4 : Hid (VarAt (x0.alloc (.cells #[.func (.func 48) #[] #[.pointer (some ⟨pb4, 0, none⟩)], .func (.func 49) #[] #[.pointer (some ⟨pb4, 0, none⟩)], .int .i64 0, .int .i64 1099511627776] 82)) b4 pb4 mb 1 0 1099511627776) := Lib.hid ⟨by rw [hbs4]; exact heap_alloc_new x0 _, by omega, by simp; omega, keepA hc⟩
  have HB1 := Lib.hid (HB0.out.trans ((hb.trans (hal.mono hb.size)).mono (by omega)))
  have HK1 := Lib.hid (kk (.cells #[.func (.func 48) #[] #[.pointer (some ⟨pb4, 0, none⟩)], .func (.func 49) #[] #[.pointer (some ⟨pb4, 0, none⟩)], .int .i64 0, .int .i64 1099511627776] 82))
  have HP1 := Lib.hid (kz (.cells #[.func (.func 48) #[] #[.pointer (some ⟨pb4, 0, none⟩)], .func (.func 49) #[] #[.pointer (some ⟨pb4, 0, none⟩)], .int .i64 0, .int .i64 1099511627776] 82))
  have hs1 : S < (x0.alloc (.cells #[.func (.func 48) #[] #[.pointer (some ⟨pb4, 0, none⟩)], .func (.func 49) #[] #[.pointer (some ⟨pb4, 0, none⟩)], .int .i64 0, .int .i64 1099511627776] 82)).heap.size := by simp; omega
  clear hb hal hge hlt hc hsx HB0 HK0 HP0 hs0 kk
  go_wp2_with fail
  rw [← hbs4]
  clear kz hbs4
  generalize x0.alloc (.cells #[.func (.func 48) #[] #[.pointer (some ⟨pb4, 0, none⟩)], .func (.func 49) #[] #[.pointer (some ⟨pb4, 0, none⟩)], .int .i64 0, .int .i64 1099511627776] 82) = w1 at HB1 HK1 HP1 hs1 HV4 ⊢
  have kp := HP1.out
  go_wp2_with fail
  clear kp
  refine (at_any mb 2 0 15 w1).mono ?_
  rintro e x1 ⟨pb5, rfl, hge, hlt, hc, hb⟩
  have kz : ∀ O, (x1.alloc O).cell? ⟨S, 0, none⟩ = some (.pointer (some ⟨mb, 0, none⟩)) := fun O => keepA ((hb.cell (p := ⟨S, 0, none⟩) hs1).trans HP1.out)
  have kk : ∀ O, (x1.alloc O).cell? ⟨mb, 0, none⟩ = some (.int .i64 4) := fun O => keepA ((hb.cell (p := ⟨mb, 0, none⟩) (by show mb < _; omega)).trans HK1.out)
  have hsx : S < x1.heap.size := Nat.lt_of_lt_of_le hs1 hb.size
  obtain ⟨b5, hbs5⟩ : ∃ b, b = x1.heap.size := ⟨_, rfl⟩
  have hal : Below x1.heap.size x1 (x1.alloc (.cells #[.func (.func 48) #[] #[.pointer (some ⟨pb5, 0, none⟩)], .func (.func 49) #[] #[.pointer (some ⟨pb5, 0, none⟩)], .int .i64 0, .int .i64 15] 82)) := (Below.refl _ _).alloc (Nat.le_refl _) _
  have HV5 : Hid (VarAt (x1.alloc (.cells #[.func (.func 48) #[] #[.pointer (some ⟨pb5, 0, none⟩)], .func (.func 49) #[] #[.pointer (some ⟨pb5, 0, none⟩)], .int .i64 0, .int .i64 15] 82)) b5 pb5 mb 2 0 15) := Lib.hid ⟨by rw [hbs5]; exact heap_alloc_new x1 _, by omega, by simp; omega, keepA hc⟩
  have HV4 := Lib.hid ((HV4.out.below hb).below hal)
  have HB2 := Lib.hid (HB1.out.trans ((hb.trans (hal.mono hb.size)).mono (by omega)))
  have HK2 := Lib.hid (kk (.cells #[.func (.func 48) #[] #[.pointer (some ⟨pb5, 0, none⟩)], .func (.func 49) #[] #[.pointer (some ⟨pb5, 0, none⟩)], .int .i64 0, .int .i64 15] 82))
  have HP2 := Lib.hid (kz (.cells #[.func (.func 48) #[] #[.pointer (some ⟨pb5, 0, none⟩)], .func (.func 49) #[] #[.pointer (some ⟨pb5, 0, none⟩)], .int .i64 0, .int .i64 15] 82))
  have hs2 : S < (x1.alloc (.cells #[.func (.func 48) #[] #[.pointer (some ⟨pb5, 0, none⟩)], .func (.func 49) #[] #[.pointer (some ⟨pb5, 0, none⟩)], .int .i64 0, .int .i64 15] 82)).heap.size := by simp; omega
  clear hb hal hge hlt hc hsx HB1 HK1 HP1 hs1 kk
  go_wp2_with fail
  rw [← hbs5]
  clear kz hbs5
  generalize x1.alloc (.cells #[.func (.func 48) #[] #[.pointer (some ⟨pb5, 0, none⟩)], .func (.func 49) #[] #[.pointer (some ⟨pb5, 0, none⟩)], .int .i64 0, .int .i64 15] 82) = w2 at HB2 HK2 HP2 hs2 HV4 HV5 ⊢
  have kp := HP2.out
  go_wp2_with fail
  clear kp
  refine (at_any mb 6 1 100 w2).mono ?_
  rintro e x2 ⟨pb6, rfl, hge, hlt, hc, hb⟩
  have kz : ∀ O, (x2.alloc O).cell? ⟨S, 0, none⟩ = some (.pointer (some ⟨mb, 0, none⟩)) := fun O => keepA ((hb.cell (p := ⟨S, 0, none⟩) hs2).trans HP2.out)
  have kk : ∀ O, (x2.alloc O).cell? ⟨mb, 0, none⟩ = some (.int .i64 4) := fun O => keepA ((hb.cell (p := ⟨mb, 0, none⟩) (by show mb < _; omega)).trans HK2.out)
  have hsx : S < x2.heap.size := Nat.lt_of_lt_of_le hs2 hb.size
  obtain ⟨b6, hbs6⟩ : ∃ b, b = x2.heap.size := ⟨_, rfl⟩
  have hal : Below x2.heap.size x2 (x2.alloc (.cells #[.func (.func 48) #[] #[.pointer (some ⟨pb6, 0, none⟩)], .func (.func 49) #[] #[.pointer (some ⟨pb6, 0, none⟩)], .int .i64 1, .int .i64 100] 82)) := (Below.refl _ _).alloc (Nat.le_refl _) _
  have HV6 : Hid (VarAt (x2.alloc (.cells #[.func (.func 48) #[] #[.pointer (some ⟨pb6, 0, none⟩)], .func (.func 49) #[] #[.pointer (some ⟨pb6, 0, none⟩)], .int .i64 1, .int .i64 100] 82)) b6 pb6 mb 6 1 100) := Lib.hid ⟨by rw [hbs6]; exact heap_alloc_new x2 _, by omega, by simp; omega, keepA hc⟩
  have HV4 := Lib.hid ((HV4.out.below hb).below hal)
  have HV5 := Lib.hid ((HV5.out.below hb).below hal)
  have HB3 := Lib.hid (HB2.out.trans ((hb.trans (hal.mono hb.size)).mono (by omega)))
  have HK3 := Lib.hid (kk (.cells #[.func (.func 48) #[] #[.pointer (some ⟨pb6, 0, none⟩)], .func (.func 49) #[] #[.pointer (some ⟨pb6, 0, none⟩)], .int .i64 1, .int .i64 100] 82))
  have HP3 := Lib.hid (kz (.cells #[.func (.func 48) #[] #[.pointer (some ⟨pb6, 0, none⟩)], .func (.func 49) #[] #[.pointer (some ⟨pb6, 0, none⟩)], .int .i64 1, .int .i64 100] 82))
  have hs3 : S < (x2.alloc (.cells #[.func (.func 48) #[] #[.pointer (some ⟨pb6, 0, none⟩)], .func (.func 49) #[] #[.pointer (some ⟨pb6, 0, none⟩)], .int .i64 1, .int .i64 100] 82)).heap.size := by simp; omega
  clear hb hal hge hlt hc hsx HB2 HK2 HP2 hs2 kk
  go_wp2_with fail
  rw [← hbs6]
  clear kz hbs6
  generalize x2.alloc (.cells #[.func (.func 48) #[] #[.pointer (some ⟨pb6, 0, none⟩)], .func (.func 49) #[] #[.pointer (some ⟨pb6, 0, none⟩)], .int .i64 1, .int .i64 100] 82) = w3 at HB3 HK3 HP3 hs3 HV4 HV5 HV6 ⊢
  have kp := HP3.out
  go_wp2_with fail
  clear kp
  refine (at_any mb 7 1 6 w3).mono ?_
  rintro e x3 ⟨pb7, rfl, hge, hlt, hc, hb⟩
  have kz : ∀ O, (x3.alloc O).cell? ⟨S, 0, none⟩ = some (.pointer (some ⟨mb, 0, none⟩)) := fun O => keepA ((hb.cell (p := ⟨S, 0, none⟩) hs3).trans HP3.out)
  have kk : ∀ O, (x3.alloc O).cell? ⟨mb, 0, none⟩ = some (.int .i64 4) := fun O => keepA ((hb.cell (p := ⟨mb, 0, none⟩) (by show mb < _; omega)).trans HK3.out)
  have hsx : S < x3.heap.size := Nat.lt_of_lt_of_le hs3 hb.size
  obtain ⟨b7, hbs7⟩ : ∃ b, b = x3.heap.size := ⟨_, rfl⟩
  have hal : Below x3.heap.size x3 (x3.alloc (.cells #[.func (.func 48) #[] #[.pointer (some ⟨pb7, 0, none⟩)], .func (.func 49) #[] #[.pointer (some ⟨pb7, 0, none⟩)], .int .i64 1, .int .i64 6] 82)) := (Below.refl _ _).alloc (Nat.le_refl _) _
  have HV7 : Hid (VarAt (x3.alloc (.cells #[.func (.func 48) #[] #[.pointer (some ⟨pb7, 0, none⟩)], .func (.func 49) #[] #[.pointer (some ⟨pb7, 0, none⟩)], .int .i64 1, .int .i64 6] 82)) b7 pb7 mb 7 1 6) := Lib.hid ⟨by rw [hbs7]; exact heap_alloc_new x3 _, by omega, by simp; omega, keepA hc⟩
  have HV4 := Lib.hid ((HV4.out.below hb).below hal)
  have HV5 := Lib.hid ((HV5.out.below hb).below hal)
  have HV6 := Lib.hid ((HV6.out.below hb).below hal)
  have HB4 := Lib.hid (HB3.out.trans ((hb.trans (hal.mono hb.size)).mono (by omega)))
  have HK4 := Lib.hid (kk (.cells #[.func (.func 48) #[] #[.pointer (some ⟨pb7, 0, none⟩)], .func (.func 49) #[] #[.pointer (some ⟨pb7, 0, none⟩)], .int .i64 1, .int .i64 6] 82))
  have HP4 := Lib.hid (kz (.cells #[.func (.func 48) #[] #[.pointer (some ⟨pb7, 0, none⟩)], .func (.func 49) #[] #[.pointer (some ⟨pb7, 0, none⟩)], .int .i64 1, .int .i64 6] 82))
  have hs4 : S < (x3.alloc (.cells #[.func (.func 48) #[] #[.pointer (some ⟨pb7, 0, none⟩)], .func (.func 49) #[] #[.pointer (some ⟨pb7, 0, none⟩)], .int .i64 1, .int .i64 6] 82)).heap.size := by simp; omega
  clear hb hal hge hlt hc hsx HB3 HK3 HP3 hs3 kk
  go_wp2_with fail
  rw [← hbs7]
  clear kz hbs7
  generalize x3.alloc (.cells #[.func (.func 48) #[] #[.pointer (some ⟨pb7, 0, none⟩)], .func (.func 49) #[] #[.pointer (some ⟨pb7, 0, none⟩)], .int .i64 1, .int .i64 6] 82) = w4 at HB4 HK4 HP4 hs4 HV4 HV5 HV6 HV7 ⊢
  have kp := HP4.out
  go_wp2_with fail
  clear kp
  refine (at_any mb 15 1 16 w4).mono ?_
  rintro e x4 ⟨pb8, rfl, hge, hlt, hc, hb⟩
  have kz : ∀ O, (x4.alloc O).cell? ⟨S, 0, none⟩ = some (.pointer (some ⟨mb, 0, none⟩)) := fun O => keepA ((hb.cell (p := ⟨S, 0, none⟩) hs4).trans HP4.out)
  have kk : ∀ O, (x4.alloc O).cell? ⟨mb, 0, none⟩ = some (.int .i64 4) := fun O => keepA ((hb.cell (p := ⟨mb, 0, none⟩) (by show mb < _; omega)).trans HK4.out)
  have hsx : S < x4.heap.size := Nat.lt_of_lt_of_le hs4 hb.size
  obtain ⟨b8, hbs8⟩ : ∃ b, b = x4.heap.size := ⟨_, rfl⟩
  have hal : Below x4.heap.size x4 (x4.alloc (.cells #[.func (.func 48) #[] #[.pointer (some ⟨pb8, 0, none⟩)], .func (.func 49) #[] #[.pointer (some ⟨pb8, 0, none⟩)], .int .i64 1, .int .i64 16] 82)) := (Below.refl _ _).alloc (Nat.le_refl _) _
  have HV8 : Hid (VarAt (x4.alloc (.cells #[.func (.func 48) #[] #[.pointer (some ⟨pb8, 0, none⟩)], .func (.func 49) #[] #[.pointer (some ⟨pb8, 0, none⟩)], .int .i64 1, .int .i64 16] 82)) b8 pb8 mb 15 1 16) := Lib.hid ⟨by rw [hbs8]; exact heap_alloc_new x4 _, by omega, by simp; omega, keepA hc⟩
  have HV4 := Lib.hid ((HV4.out.below hb).below hal)
  have HV5 := Lib.hid ((HV5.out.below hb).below hal)
  have HV6 := Lib.hid ((HV6.out.below hb).below hal)
  have HV7 := Lib.hid ((HV7.out.below hb).below hal)
  have HB5 := Lib.hid (HB4.out.trans ((hb.trans (hal.mono hb.size)).mono (by omega)))
  have HK5 := Lib.hid (kk (.cells #[.func (.func 48) #[] #[.pointer (some ⟨pb8, 0, none⟩)], .func (.func 49) #[] #[.pointer (some ⟨pb8, 0, none⟩)], .int .i64 1, .int .i64 16] 82))
  have HP5 := Lib.hid (kz (.cells #[.func (.func 48) #[] #[.pointer (some ⟨pb8, 0, none⟩)], .func (.func 49) #[] #[.pointer (some ⟨pb8, 0, none⟩)], .int .i64 1, .int .i64 16] 82))
  have hs5 : S < (x4.alloc (.cells #[.func (.func 48) #[] #[.pointer (some ⟨pb8, 0, none⟩)], .func (.func 49) #[] #[.pointer (some ⟨pb8, 0, none⟩)], .int .i64 1, .int .i64 16] 82)).heap.size := by simp; omega
  clear hb hal hge hlt hc hsx HB4 HK4 HP4 hs4 kk
  go_wp2_with fail
  rw [← hbs8]
  clear kz hbs8
  generalize x4.alloc (.cells #[.func (.func 48) #[] #[.pointer (some ⟨pb8, 0, none⟩)], .func (.func 49) #[] #[.pointer (some ⟨pb8, 0, none⟩)], .int .i64 1, .int .i64 16] 82) = w5 at HB5 HK5 HP5 hs5 HV4 HV5 HV6 HV7 HV8 ⊢
  have kp := HP5.out
  go_wp2_with fail
  clear kp
  refine (at_any mb 16 1 1099511627776 w5).mono ?_
  rintro e x5 ⟨pb9, rfl, hge, hlt, hc, hb⟩
  have kz : ∀ O, (x5.alloc O).cell? ⟨S, 0, none⟩ = some (.pointer (some ⟨mb, 0, none⟩)) := fun O => keepA ((hb.cell (p := ⟨S, 0, none⟩) hs5).trans HP5.out)
  have kk : ∀ O, (x5.alloc O).cell? ⟨mb, 0, none⟩ = some (.int .i64 4) := fun O => keepA ((hb.cell (p := ⟨mb, 0, none⟩) (by show mb < _; omega)).trans HK5.out)
  have hsx : S < x5.heap.size := Nat.lt_of_lt_of_le hs5 hb.size
  have q4_0 : ∀ O, (x5.alloc O).cell? ⟨b4, 0, none⟩ = some (.func (.func 48) #[] #[.pointer (some ⟨pb4, 0, none⟩)]) := fun O => keepA (cellb (HV4.out.below hb).blk rfl)
  have q4_1 : ∀ O, (x5.alloc O).cell? ⟨b4, 1, none⟩ = some (.func (.func 49) #[] #[.pointer (some ⟨pb4, 0, none⟩)]) := fun O => keepA (cellb (HV4.out.below hb).blk rfl)
  have q4_2 : ∀ O, (x5.alloc O).cell? ⟨b4, 2, none⟩ = some (.int .i64 0) := fun O => keepA (cellb (HV4.out.below hb).blk rfl)
  have q4_3 : ∀ O, (x5.alloc O).cell? ⟨b4, 3, none⟩ = some (.int .i64 1099511627776) := fun O => keepA (cellb (HV4.out.below hb).blk rfl)
  have q5_0 : ∀ O, (x5.alloc O).cell? ⟨b5, 0, none⟩ = some (.func (.func 48) #[] #[.pointer (some ⟨pb5, 0, none⟩)]) := fun O => keepA (cellb (HV5.out.below hb).blk rfl)
  have q5_1 : ∀ O, (x5.alloc O).cell? ⟨b5, 1, none⟩ = some (.func (.func 49) #[] #[.pointer (some ⟨pb5, 0, none⟩)]) := fun O => keepA (cellb (HV5.out.below hb).blk rfl)
  have q5_2 : ∀ O, (x5.alloc O).cell? ⟨b5, 2, none⟩ = some (.int .i64 0) := fun O => keepA (cellb (HV5.out.below hb).blk rfl)
  have q5_3 : ∀ O, (x5.alloc O).cell? ⟨b5, 3, none⟩ = some (.int .i64 15) := fun O => keepA (cellb (HV5.out.below hb).blk rfl)
  have q6_0 : ∀ O, (x5.alloc O).cell? ⟨b6, 0, none⟩ = some (.func (.func 48) #[] #[.pointer (some ⟨pb6, 0, none⟩)]) := fun O => keepA (cellb (HV6.out.below hb).blk rfl)
  have q6_1 : ∀ O, (x5.alloc O).cell? ⟨b6, 1, none⟩ = some (.func (.func 49) #[] #[.pointer (some ⟨pb6, 0, none⟩)]) := fun O => keepA (cellb (HV6.out.below hb).blk rfl)
  have q6_2 : ∀ O, (x5.alloc O).cell? ⟨b6, 2, none⟩ = some (.int .i64 1) := fun O => keepA (cellb (HV6.out.below hb).blk rfl)
  have q6_3 : ∀ O, (x5.alloc O).cell? ⟨b6, 3, none⟩ = some (.int .i64 100) := fun O => keepA (cellb (HV6.out.below hb).blk rfl)
  have q7_0 : ∀ O, (x5.alloc O).cell? ⟨b7, 0, none⟩ = some (.func (.func 48) #[] #[.pointer (some ⟨pb7, 0, none⟩)]) := fun O => keepA (cellb (HV7.out.below hb).blk rfl)
  have q7_1 : ∀ O, (x5.alloc O).cell? ⟨b7, 1, none⟩ = some (.func (.func 49) #[] #[.pointer (some ⟨pb7, 0, none⟩)]) := fun O => keepA (cellb (HV7.out.below hb).blk rfl)
  have q7_2 : ∀ O, (x5.alloc O).cell? ⟨b7, 2, none⟩ = some (.int .i64 1) := fun O => keepA (cellb (HV7.out.below hb).blk rfl)
  have q7_3 : ∀ O, (x5.alloc O).cell? ⟨b7, 3, none⟩ = some (.int .i64 6) := fun O => keepA (cellb (HV7.out.below hb).blk rfl)
  obtain ⟨b9, hbs9⟩ : ∃ b, b = x5.heap.size := ⟨_, rfl⟩
  have hal : Below x5.heap.size x5 (x5.alloc (.cells #[.func (.func 48) #[] #[.pointer (some ⟨pb9, 0, none⟩)], .func (.func 49) #[] #[.pointer (some ⟨pb9, 0, none⟩)], .int .i64 1, .int .i64 1099511627776] 82)) := (Below.refl _ _).alloc (Nat.le_refl _) _
  have HV9 : Hid (VarAt (x5.alloc (.cells #[.func (.func 48) #[] #[.pointer (some ⟨pb9, 0, none⟩)], .func (.func 49) #[] #[.pointer (some ⟨pb9, 0, none⟩)], .int .i64 1, .int .i64 1099511627776] 82)) b9 pb9 mb 16 1 1099511627776) := Lib.hid ⟨by rw [hbs9]; exact heap_alloc_new x5 _, by omega, by simp; omega, keepA hc⟩
  have HV4 := Lib.hid ((HV4.out.below hb).below hal)
  have HV5 := Lib.hid ((HV5.out.below hb).below hal)
  have HV6 := Lib.hid ((HV6.out.below hb).below hal)
  have HV7 := Lib.hid ((HV7.out.below hb).below hal)
  have HV8 := Lib.hid ((HV8.out.below hb).below hal)
  have HB6 := Lib.hid (HB5.out.trans ((hb.trans (hal.mono hb.size)).mono (by omega)))
  have HK6 := Lib.hid (kk (.cells #[.func (.func 48) #[] #[.pointer (some ⟨pb9, 0, none⟩)], .func (.func 49) #[] #[.pointer (some ⟨pb9, 0, none⟩)], .int .i64 1, .int .i64 1099511627776] 82))
  have HP6 := Lib.hid (kz (.cells #[.func (.func 48) #[] #[.pointer (some ⟨pb9, 0, none⟩)], .func (.func 49) #[] #[.pointer (some ⟨pb9, 0, none⟩)], .int .i64 1, .int .i64 1099511627776] 82))
  have hs6 : S < (x5.alloc (.cells #[.func (.func 48) #[] #[.pointer (some ⟨pb9, 0, none⟩)], .func (.func 49) #[] #[.pointer (some ⟨pb9, 0, none⟩)], .int .i64 1, .int .i64 1099511627776] 82)).heap.size := by simp; omega
  clear hb hal hge hlt hc hsx HB5 HK5 HP5 hs5
  go_wp2_with fail
  rw [← hbs9]
  clear kz kk q4_0 q4_1 q4_2 q4_3 q5_0 q5_1 q5_2 q5_3 q6_0 q6_1 q6_2 q6_3 q7_0 q7_1 q7_2 q7_3
  have hz6 : (x5.alloc (.cells #[.func (.func 48) #[] #[.pointer (some ⟨pb9, 0, none⟩)], .func (.func 49) #[] #[.pointer (some ⟨pb9, 0, none⟩)], .int .i64 1, .int .i64 1099511627776] 82)).heap.size = b9 + 1 := by have := hs6; rw [hbs9]; simp
  clear hbs9
  generalize x5.alloc (.cells #[.func (.func 48) #[] #[.pointer (some ⟨pb9, 0, none⟩)], .func (.func 49) #[] #[.pointer (some ⟨pb9, 0, none⟩)], .int .i64 1, .int .i64 1099511627776] 82) = w6 at HB6 HK6 HP6 hs6 hz6 HV4 HV5 HV6 HV7 HV8 HV9 ⊢
  have hrow := heap_alloc_new w6 (.cells #[.func (.func 48) #[] #[.pointer (some ⟨pb4, 0, none⟩)], .func (.func 49) #[] #[.pointer (some ⟨pb4, 0, none⟩)], .int .i64 0, .int .i64 1099511627776, .func (.func 48) #[] #[.pointer (some ⟨pb5, 0, none⟩)], .func (.func 49) #[] #[.pointer (some ⟨pb5, 0, none⟩)], .int .i64 0, .int .i64 15, .func (.func 48) #[] #[.pointer (some ⟨pb6, 0, none⟩)], .func (.func 49) #[] #[.pointer (some ⟨pb6, 0, none⟩)], .int .i64 1, .int .i64 100, .func (.func 48) #[] #[.pointer (some ⟨pb7, 0, none⟩)], .func (.func 49) #[] #[.pointer (some ⟨pb7, 0, none⟩)], .int .i64 1, .int .i64 6] 82)
  rw [hz6] at hrow
  have hal : Below w6.heap.size w6 (w6.alloc (.cells #[.func (.func 48) #[] #[.pointer (some ⟨pb4, 0, none⟩)], .func (.func 49) #[] #[.pointer (some ⟨pb4, 0, none⟩)], .int .i64 0, .int .i64 1099511627776, .func (.func 48) #[] #[.pointer (some ⟨pb5, 0, none⟩)], .func (.func 49) #[] #[.pointer (some ⟨pb5, 0, none⟩)], .int .i64 0, .int .i64 15, .func (.func 48) #[] #[.pointer (some ⟨pb6, 0, none⟩)], .func (.func 49) #[] #[.pointer (some ⟨pb6, 0, none⟩)], .int .i64 1, .int .i64 100, .func (.func 48) #[] #[.pointer (some ⟨pb7, 0, none⟩)], .func (.func 49) #[] #[.pointer (some ⟨pb7, 0, none⟩)], .int .i64 1, .int .i64 6] 82)) := (Below.refl _ _).alloc (Nat.le_refl _) _
  have V4 := HV4.out.below hal
  have V5 := HV5.out.below hal
  have V6 := HV6.out.below hal
  have V7 := HV7.out.below hal
  have hF : FieldsIn (w6.alloc (.cells #[.func (.func 48) #[] #[.pointer (some ⟨pb4, 0, none⟩)], .func (.func 49) #[] #[.pointer (some ⟨pb4, 0, none⟩)], .int .i64 0, .int .i64 1099511627776, .func (.func 48) #[] #[.pointer (some ⟨pb5, 0, none⟩)], .func (.func 49) #[] #[.pointer (some ⟨pb5, 0, none⟩)], .int .i64 0, .int .i64 15, .func (.func 48) #[] #[.pointer (some ⟨pb6, 0, none⟩)], .func (.func 49) #[] #[.pointer (some ⟨pb6, 0, none⟩)], .int .i64 1, .int .i64 100, .func (.func 48) #[] #[.pointer (some ⟨pb7, 0, none⟩)], .func (.func 49) #[] #[.pointer (some ⟨pb7, 0, none⟩)], .int .i64 1, .int .i64 6] 82)) (w6.alloc (.cells #[.func (.func 48) #[] #[.pointer (some ⟨pb4, 0, none⟩)], .func (.func 49) #[] #[.pointer (some ⟨pb4, 0, none⟩)], .int .i64 0, .int .i64 1099511627776, .func (.func 48) #[] #[.pointer (some ⟨pb5, 0, none⟩)], .func (.func 49) #[] #[.pointer (some ⟨pb5, 0, none⟩)], .int .i64 0, .int .i64 15, .func (.func 48) #[] #[.pointer (some ⟨pb6, 0, none⟩)], .func (.func 49) #[] #[.pointer (some ⟨pb6, 0, none⟩)], .int .i64 1, .int .i64 100, .func (.func 48) #[] #[.pointer (some ⟨pb7, 0, none⟩)], .func (.func 49) #[] #[.pointer (some ⟨pb7, 0, none⟩)], .int .i64 1, .int .i64 6] 82)).heap.size mb (some ⟨b9 + 1, 0, none⟩) [⟨1, 0, 1099511627776⟩, ⟨2, 0, 15⟩, ⟨6, 1, 100⟩, ⟨7, 1, 6⟩] := by
    refine .inr ⟨b9 + 1, rfl, by omega, ltb hrow, fun i f hf => ?_⟩
    have hi : i < 4 := (List.getElem?_eq_some_iff.1 hf).1
    have hi : i = 0 ∨ i = 1 ∨ i = 2 ∨ i = 3 := by omega
    rcases hi with rfl | rfl | rfl | rfl
    · obtain rfl := Option.some.inj hf
      exact ⟨_, _, .inl ⟨pb4, V4.gt, V4.lt, rfl, rfl, V4.ptr⟩, cellb hrow rfl, cellb hrow rfl, cellb hrow rfl, cellb hrow rfl⟩
    · obtain rfl := Option.some.inj hf
      exact ⟨_, _, .inl ⟨pb5, V5.gt, V5.lt, rfl, rfl, V5.ptr⟩, cellb hrow rfl, cellb hrow rfl, cellb hrow rfl, cellb hrow rfl⟩
    · obtain rfl := Option.some.inj hf
      exact ⟨_, _, .inl ⟨pb6, V6.gt, V6.lt, rfl, rfl, V6.ptr⟩, cellb hrow rfl, cellb hrow rfl, cellb hrow rfl, cellb hrow rfl⟩
    · obtain rfl := Option.some.inj hf
      exact ⟨_, _, .inl ⟨pb7, V7.gt, V7.lt, rfl, rfl, V7.ptr⟩, cellb hrow rfl, cellb hrow rfl, cellb hrow rfl, cellb hrow rfl⟩
  have HF := Lib.hid hF
  have HB := Lib.hid (HB6.out.trans (hal.mono (by omega)))
  clear hrow hal V4 V5 V6 V7 hF HB6 HK6 HP6 HV4 HV5 HV6 HV7 HV8 HV9
  refine (all_any _ _ _ _).mono ?_
  rintro e w' ⟨rfl, rfl⟩
  go_wp2_with fail
  refine bodyPost_ret (v := .tuple #[.slice (some ⟨b9 + 1, 0, none⟩) 4 4, .bool true]) (by simp [results, Try.results35, go_sem]) rfl ?_
  exact ⟨_, _, rfl, HF.out, by rw [HSW.out]; exact HB.out⟩

set_option maxRecDepth 100000 in
set_option maxHeartbeats 4000000 in
theorem fields_6 (mb : Nat) (w : World) (v : Nat → Int) (A : Option Addr) (n c : Nat) (hm : MAt w mb v A n c) (hk : v 0 = 6) :
    Calls Try.prog 35 #[.pointer (some ⟨mb, 0, none⟩)] w fun e w' => ∃ R c', e = .returned (.tuple #[.slice R 4 c', .bool true]) ∧ FieldsIn w' w'.heap.size mb R [⟨1, 0, 1099511627776⟩, ⟨2, 0, 15⟩, ⟨6, 1, 100⟩, ⟨7, 1, 6⟩] ∧ Below w.heap.size w w' := by
  have HM := Lib.hid hm
  have hml := ltb hm
  obtain ⟨S, hS⟩ : ∃ S, S = w.heap.size := ⟨_, rfl⟩
  have hkk := cellb (i := 0) hm rfl
  rw [hk] at hkk
  have hkb : (w.alloc (.cells #[.pointer (some ⟨mb, 0, none⟩)] 79)).cell? ⟨mb, 0, none⟩ = some (.int .i64 6) := keepA hkk
  have hpb : (w.alloc (.cells #[.pointer (some ⟨mb, 0, none⟩)] 79)).cell? ⟨S, 0, none⟩ = some (.pointer (some ⟨mb, 0, none⟩)) := by rw [hS]; exact cell_of_one (heap_alloc_new w _)
  have hb0 : Below S w (w.alloc (.cells #[.pointer (some ⟨mb, 0, none⟩)] 79)) := by rw [hS]; exact (Below.refl w.heap.size w).alloc (Nat.le_refl _) _
  have HB0 := Lib.hid hb0
  have HK0 := Lib.hid hkb
  have HP0 := Lib.hid hpb
  have hs0 : S < (w.alloc (.cells #[.pointer (some ⟨mb, 0, none⟩)] 79)).heap.size := by simp [hS]
  have hmS : mb < S := by omega
  have HSW : Hid (w.heap.size = S) := Lib.hid hS.symm
  clear hm hkk hkb hpb hb0
  go_enter Try.func35, Try.ntmps35
  go_wp2_with fail
  rw [← hS]
  clear hS hml
  generalize w.alloc (.cells #[.pointer (some ⟨mb, 0, none⟩)] 79) = w0 at HB0 HK0 HP0 hs0 ⊢
  refine (at_any mb 1 0 1099511627776 w0).mono ?_
  rintro e x0 ⟨pb4, rfl, hge, hlt, hc, hb⟩
  have kz : ∀ O, (x0.alloc O).cell? ⟨S, 0, none⟩ = some (.pointer (some ⟨mb, 0, none⟩)) := fun O => keepA ((hb.cell (p := ⟨S, 0, none⟩) hs0).trans HP0.out)
  have kk : ∀ O, (x0.alloc O).cell? ⟨mb, 0, none⟩ = some (.int .i64 6) := fun O => keepA ((hb.cell (p := ⟨mb, 0, none⟩) (by show mb < _; omega)).trans HK0.out)
  have hsx : S < x0.heap.size := Nat.lt_of_lt_of_le hs0 hb.size
  obtain ⟨b4, hbs4⟩ : ∃ b, b = x0.heap.size := ⟨_, rfl⟩
  have hal : Below x0.heap.size x0 (x0.alloc (.cells #[.func (.func 48) #[] #[.pointer (some ⟨pb4, 0, none⟩)], .func (.func 49) #[] #[.pointer (some ⟨pb4, 0, none⟩)], .int .i64 0, .int .i64 1099511627776] 82)) := (Below.refl _ _).alloc (Nat.le_refl _) _
  have HV4 : Hid (VarAt (x0.alloc (.cells #[.func (.func 48) #[] #[.pointer (some ⟨pb4, 0, none⟩)], .func (.func 49) #[] #[.pointer (some ⟨pb4, 0, none⟩)], .int .i64 0, .int .i64 1099511627776] 82)) b4 pb4 mb 1 0 1099511627776) := Lib.hid ⟨by rw [hbs4]; exact heap_alloc_new x0 _, by omega, by simp; omega, keepA hc⟩
  have HB1 := Lib.hid (HB0.out.trans ((hb.trans (hal.mono hb.size)).mono (by omega)))
  have HK1 := Lib.hid (kk (.cells #[.func (.func 48) #[] #[.pointer (some ⟨pb4, 0, none⟩)], .func (.func 49) #[] #[.pointer (some ⟨pb4, 0, none⟩)], .int .i64 0, .int .i64 1099511627776] 82))
  have HP1 := Lib.hid (kz (.cells #[.func (.func 48) #[] #[.pointer (some ⟨pb4, 0, none⟩)], .func (.func 49) #[] #[.pointer (some ⟨pb4, 0, none⟩)], .int .i64 0, .int .i64 1099511627776] 82))
  have hs1 : S < (x0.alloc (.cells #[.func (.func 48) #[] #[.pointer (some ⟨pb4, 0, none⟩)], .func (.func 49) #[] #[.pointer (some ⟨pb4, 0, none⟩)], .int .i64 0, .int .i64 1099511627776] 82)).heap.size := by simp; omega
  clear hb hal hge hlt hc hsx HB0 HK0 HP0 hs0 kk
  go_wp2_with fail
  rw [← hbs4]
  clear kz hbs4
  generalize x0.alloc (.cells #[.func (.func 48) #[] #[.pointer (some ⟨pb4, 0, none⟩)], .func (.func 49) #[] #[.pointer (some ⟨pb4, 0, none⟩)], .int .i64 0, .int .i64 1099511627776] 82) = w1 at HB1 HK1 HP1 hs1 HV4 ⊢
  have kp := HP1.out
  go_wp2_with fail
  clear kp
  refine (at_any mb 2 0 15 w1).mono ?_
  rintro e x1 ⟨pb5, rfl, hge, hlt, hc, hb⟩
  have kz : ∀ O, (x1.alloc O).cell? ⟨S, 0, none⟩ = some (.pointer (some ⟨mb, 0, none⟩)) := fun O => keepA ((hb.cell (p := ⟨S, 0, none⟩) hs1).trans HP1.out)
  have kk : ∀ O, (x1.alloc O).cell? ⟨mb, 0, none⟩ = some (.int .i64 6) := fun O => keepA ((hb.cell (p := ⟨mb, 0, none⟩) (by show mb < _; omega)).trans HK1.out)
  have hsx : S < x1.heap.size := Nat.lt_of_lt_of_le hs1 hb.size
  obtain ⟨b5, hbs5⟩ : ∃ b, b = x1.heap.size := ⟨_, rfl⟩
  have hal : Below x1.heap.size x1 (x1.alloc (.cells #[.func (.func 48) #[] #[.pointer (some ⟨pb5, 0, none⟩)], .func (.func 49) #[] #[.pointer (some ⟨pb5, 0, none⟩)], .int .i64 0, .int .i64 15] 82)) := (Below.refl _ _).alloc (Nat.le_refl _) _
  have HV5 : Hid (VarAt (x1.alloc (.cells #[.func (.func 48) #[] #[.pointer (some ⟨pb5, 0, none⟩)], .func (.func 49) #[] #[.pointer (some ⟨pb5, 0, none⟩)], .int .i64 0, .int .i64 15] 82)) b5 pb5 mb 2 0 15) := Lib.hid ⟨by rw [hbs5]; exact heap_alloc_new x1 _, by omega, by simp; omega, keepA hc⟩
  have HV4 := Lib.hid ((HV4.out.below hb).below hal)
  have HB2 := Lib.hid (HB1.out.trans ((hb.trans (hal.mono hb.size)).mono (by omega)))
  have HK2 := Lib.hid (kk (.cells #[.func (.func 48) #[] #[.pointer (some ⟨pb5, 0, none⟩)], .func (.func 49) #[] #[.pointer (some ⟨pb5, 0, none⟩)], .int .i64 0, .int .i64 15] 82))
  have HP2 := Lib.hid (kz (.cells #[.func (.func 48) #[] #[.pointer (some ⟨pb5, 0, none⟩)], .func (.func 49) #[] #[.pointer (some ⟨pb5, 0, none⟩)], .int .i64 0, .int .i64 15] 82))
  have hs2 : S < (x1.alloc (.cells #[.func (.func 48) #[] #[.pointer (some ⟨pb5, 0, none⟩)], .func (.func 49) #[] #[.pointer (some ⟨pb5, 0, none⟩)], .int .i64 0, .int .i64 15] 82)).heap.size := by simp; omega
  clear hb hal hge hlt hc hsx HB1 HK1 HP1 hs1 kk
  go_wp2_with fail
  rw [← hbs5]
  clear kz hbs5
  generalize x1.alloc (.cells #[.func (.func 48) #[] #[.pointer (some ⟨pb5, 0, none⟩)], .func (.func 49) #[] #[.pointer (some ⟨pb5, 0, none⟩)], .int .i64 0, .int .i64 15] 82) = w2 at HB2 HK2 HP2 hs2 HV4 HV5 ⊢
  have kp := HP2.out
  go_wp2_with fail
  clear kp
  refine (at_any mb 6 1 100 w2).mono ?_
  rintro e x2 ⟨pb6, rfl, hge, hlt, hc, hb⟩
  have kz : ∀ O, (x2.alloc O).cell? ⟨S, 0, none⟩ = some (.pointer (some ⟨mb, 0, none⟩)) := fun O => keepA ((hb.cell (p := ⟨S, 0, none⟩) hs2).trans HP2.out)
  have kk : ∀ O, (x2.alloc O).cell? ⟨mb, 0, none⟩ = some (.int .i64 6) := fun O => keepA ((hb.cell (p := ⟨mb, 0, none⟩) (by show mb < _; omega)).trans HK2.out)
  have hsx : S < x2.heap.size := Nat.lt_of_lt_of_le hs2 hb.size
  obtain ⟨b6, hbs6⟩ : ∃ b, b = x2.heap.size := ⟨_, rfl⟩
  have hal : Below x2.heap.size x2 (x2.alloc (.cells #[.func (.func 48) #[] #[.pointer (some ⟨pb6, 0, none⟩)], .func (.func 49) #[] #[.pointer (some ⟨pb6, 0, none⟩)], .int .i64 1, .int .i64 100] 82)) := (Below.refl _ _).alloc (Nat.le_refl _) _
  have HV6 : Hid (VarAt (x2.alloc (.cells #[.func (.func 48) #[] #[.pointer (some ⟨pb6, 0, none⟩)], .func (.func 49) #[] #[.pointer (some ⟨pb6, 0, none⟩)], .int .i64 1, .int .i64 100] 82)) b6 pb6 mb 6 1 100) := Lib.hid ⟨by rw [hbs6]; exact heap_alloc_new x2 _, by omega, by simp; omega, keepA hc⟩
  have HV4 := Lib.hid ((HV4.out.below hb).below hal)
  have HV5 := Lib.hid ((HV5.out.below hb).below hal)
  have HB3 := Lib.hid (HB2.out.trans ((hb.trans (hal.mono hb.size)).mono (by omega)))
  have HK3 := Lib.hid (kk (.cells #[.func (.func 48) #[] #[.pointer (some ⟨pb6, 0, none⟩)], .func (.func 49) #[] #[.pointer (some ⟨pb6, 0, none⟩)], .int .i64 1, .int .i64 100] 82))
  have HP3 := Lib.hid (kz (.cells #[.func (.func 48) #[] #[.pointer (some ⟨pb6, 0, none⟩)], .func (.func 49) #[] #[.pointer (some ⟨pb6, 0, none⟩)], .int .i64 1, .int .i64 100] 82))
  have hs3 : S < (x2.alloc (.cells #[.func (.func 48) #[] #[.pointer (some ⟨pb6, 0, none⟩)], .func (.func 49) #[] #[.pointer (some ⟨pb6, 0, none⟩)], .int .i64 1, .int .i64 100] 82)).heap.size := by simp; omega
  clear hb hal hge hlt hc hsx HB2 HK2 HP2 hs2 kk
  go_wp2_with fail
  rw [← hbs6]
  clear kz hbs6
  generalize x2.alloc (.cells #[.func (.func 48) #[] #[.pointer (some ⟨pb6, 0, none⟩)], .func (.func 49) #[] #[.pointer (some ⟨pb6, 0, none⟩)], .int .i64 1, .int .i64 100] 82) = w3 at HB3 HK3 HP3 hs3 HV4 HV5 HV6 ⊢
  have kp := HP3.out
  go_wp2_with fail
  clear kp
  refine (at_any mb 7 1 6 w3).mono ?_
  rintro e x3 ⟨pb7, rfl, hge, hlt, hc, hb⟩
  have kz : ∀ O, (x3.alloc O).cell? ⟨S, 0, none⟩ = some (.pointer (some ⟨mb, 0, none⟩)) := fun O => keepA ((hb.cell (p := ⟨S, 0, none⟩) hs3).trans HP3.out)
  have kk : ∀ O, (x3.alloc O).cell? ⟨mb, 0, none⟩ = some (.int .i64 6) := fun O => keepA ((hb.cell (p := ⟨mb, 0, none⟩) (by show mb < _; omega)).trans HK3.out)
  have hsx : S < x3.heap.size := Nat.lt_of_lt_of_le hs3 hb.size
  obtain ⟨b7, hbs7⟩ : ∃ b, b = x3.heap.size := ⟨_, rfl⟩
  have hal : Below x3.heap.size x3 (x3.alloc (.cells #[.func (.func 48) #[] #[.pointer (some ⟨pb7, 0, none⟩)], .func (.func 49) #[] #[.pointer (some ⟨pb7, 0, none⟩)], .int .i64 1, .int .i64 6] 82)) := (Below.refl _ _).alloc (Nat.le_refl _) _
  have HV7 : Hid (VarAt (x3.alloc (.cells #[.func (.func 48) #[] #[.pointer (some ⟨pb7, 0, none⟩)], .func (.func 49) #[] #[.pointer (some ⟨pb7, 0, none⟩)], .int .i64 1, .int .i64 6] 82)) b7 pb7 mb 7 1 6) := Lib.hid ⟨by rw [hbs7]; exact heap_alloc_new x3 _, by omega, by simp; omega, keepA hc⟩
  have HV4 := Lib.hid ((HV4.out.below hb).below hal)
  have HV5 := Lib.hid ((HV5.out.below hb).below hal)
  have HV6 := Lib.hid ((HV6.out.below hb).below hal)
  have HB4 := Lib.hid (HB3.out.trans ((hb.trans (hal.mono hb.size)).mono (by omega)))
  have HK4 := Lib.hid (kk (.cells #[.func (.func 48) #[] #[.pointer (some ⟨pb7, 0, none⟩)], .func (.func 49) #[] #[.pointer (some ⟨pb7, 0, none⟩)], .int .i64 1, .int .i64 6] 82))
  have HP4 := Lib.hid (kz (.cells #[.func (.func 48) #[] #[.pointer (some ⟨pb7, 0, none⟩)], .func (.func 49) #[] #[.pointer (some ⟨pb7, 0, none⟩)], .int .i64 1, .int .i64 6] 82))
  have hs4 : S < (x3.alloc (.cells #[.func (.func 48) #[] #[.pointer (some ⟨pb7, 0, none⟩)], .func (.func 49) #[] #[.pointer (some ⟨pb7, 0, none⟩)], .int .i64 1, .int .i64 6] 82)).heap.size := by simp; omega
  clear hb hal hge hlt hc hsx HB3 HK3 HP3 hs3 kk
  go_wp2_with fail
  rw [← hbs7]
  clear kz hbs7
  generalize x3.alloc (.cells #[.func (.func 48) #[] #[.pointer (some ⟨pb7, 0, none⟩)], .func (.func 49) #[] #[.pointer (some ⟨pb7, 0, none⟩)], .int .i64 1, .int .i64 6] 82) = w4 at HB4 HK4 HP4 hs4 HV4 HV5 HV6 HV7 ⊢
  have kp := HP4.out
  go_wp2_with fail
  clear kp
  refine (at_any mb 15 1 16 w4).mono ?_
  rintro e x4 ⟨pb8, rfl, hge, hlt, hc, hb⟩
  have kz : ∀ O, (x4.alloc O).cell? ⟨S, 0, none⟩ = some (.pointer (some ⟨mb, 0, none⟩)) := fun O => keepA ((hb.cell (p := ⟨S, 0, none⟩) hs4).trans HP4.out)
  have kk : ∀ O, (x4.alloc O).cell? ⟨mb, 0, none⟩ = some (.int .i64 6) := fun O => keepA ((hb.cell (p := ⟨mb, 0, none⟩) (by show mb < _; omega)).trans HK4.out)
  have hsx : S < x4.heap.size := Nat.lt_of_lt_of_le hs4 hb.size
  obtain ⟨b8, hbs8⟩ : ∃ b, b = x4.heap.size := ⟨_, rfl⟩
  have hal : Below x4.heap.size x4 (x4.alloc (.cells #[.func (.func 48) #[] #[.pointer (some ⟨pb8, 0, none⟩)], .func (.func 49) #[] #[.pointer (some ⟨pb8, 0, none⟩)], .int .i64 1, .int .i64 16] 82)) := (Below.refl _ _).alloc (Nat.le_refl _) _
  have HV8 : Hid (VarAt (x4.alloc (.cells #[.func (.func 48) #[] #[.pointer (some ⟨pb8, 0, none⟩)], .func (.func 49) #[] #[.pointer (some ⟨pb8, 0, none⟩)], .int .i64 1, .int .i64 16] 82)) b8 pb8 mb 15 1 16) := Lib.hid ⟨by rw [hbs8]; exact heap_alloc_new x4 _, by omega, by simp; omega, keepA hc⟩
  have HV4 := Lib.hid ((HV4.out.below hb).below hal)
  have HV5 := Lib.hid ((HV5.out.below hb).below hal)
  have HV6 := Lib.hid ((HV6.out.below hb).below hal)
  have HV7 := Lib.hid ((HV7.out.below hb).below hal)
  have HB5 := Lib.hid (HB4.out.trans ((hb.trans (hal.mono hb.size)).mono (by omega)))
  have HK5 := Lib.hid (kk (.cells #[.func (.func 48) #[] #[.pointer (some ⟨pb8, 0, none⟩)], .func (.func 49) #[] #[.pointer (some ⟨pb8, 0, none⟩)], .int .i64 1, .int .i64 16] 82))
  have HP5 := Lib.hid (kz (.cells #[.func (.func 48) #[] #[.pointer (some ⟨pb8, 0, none⟩)], .func (.func 49) #[] #[.pointer (some ⟨pb8, 0, none⟩)], .int .i64 1, .int .i64 16] 82))
  have hs5 : S < (x4.alloc (.cells #[.func (.func 48) #[] #[.pointer (some ⟨pb8, 0, none⟩)], .func (.func 49) #[] #[.pointer (some ⟨pb8, 0, none⟩)], .int .i64 1, .int .i64 16] 82)).heap.size := by simp; omega
  clear hb hal hge hlt hc hsx HB4 HK4 HP4 hs4 kk
  go_wp2_with fail
  rw [← hbs8]
  clear kz hbs8
  generalize x4.alloc (.cells #[.func (.func 48) #[] #[.pointer (some ⟨pb8, 0, none⟩)], .func (.func 49) #[] #[.pointer (some ⟨pb8, 0, none⟩)], .int .i64 1, .int .i64 16] 82) = w5 at HB5 HK5 HP5 hs5 HV4 HV5 HV6 HV7 HV8 ⊢
  have kp := HP5.out
  go_wp2_with fail
  clear kp
  refine (at_any mb 16 1 1099511627776 w5).mono ?_
  rintro e x5 ⟨pb9, rfl, hge, hlt, hc, hb⟩
  have kz : ∀ O, (x5.alloc O).cell? ⟨S, 0, none⟩ = some (.pointer (some ⟨mb, 0, none⟩)) := fun O => keepA ((hb.cell (p := ⟨S, 0, none⟩) hs5).trans HP5.out)
  have kk : ∀ O, (x5.alloc O).cell? ⟨mb, 0, none⟩ = some (.int .i64 6) := fun O => keepA ((hb.cell (p := ⟨mb, 0, none⟩) (by show mb < _; omega)).trans HK5.out)
  have hsx : S < x5.heap.size := Nat.lt_of_lt_of_le hs5 hb.size
  have q4_0 : ∀ O, (x5.alloc O).cell? ⟨b4, 0, none⟩ = some (.func (.func 48) #[] #[.pointer (some ⟨pb4, 0, none⟩)]) := fun O => keepA (cellb (HV4.out.below hb).blk rfl)
  have q4_1 : ∀ O, (x5.alloc O).cell? ⟨b4, 1, none⟩ = some (.func (.func 49) #[] #[.pointer (some ⟨pb4, 0, none⟩)]) := fun O => keepA (cellb (HV4.out.below hb).blk rfl)
  have q4_2 : ∀ O, (x5.alloc O).cell? ⟨b4, 2, none⟩ = some (.int .i64 0) := fun O => keepA (cellb (HV4.out.below hb).blk rfl)
  have q4_3 : ∀ O, (x5.alloc O).cell? ⟨b4, 3, none⟩ = some (.int .i64 1099511627776) := fun O => keepA (cellb (HV4.out.below hb).blk rfl)
  have q5_0 : ∀ O, (x5.alloc O).cell? ⟨b5, 0, none⟩ = some (.func (.func 48) #[] #[.pointer (some ⟨pb5, 0, none⟩)]) := fun O => keepA (cellb (HV5.out.below hb).blk rfl)
  have q5_1 : ∀ O, (x5.alloc O).cell? ⟨b5, 1, none⟩ = some (.func (.func 49) #[] #[.pointer (some ⟨pb5, 0, none⟩)]) := fun O => keepA (cellb (HV5.out.below hb).blk rfl)
  have q5_2 : ∀ O, (x5.alloc O).cell? ⟨b5, 2, none⟩ = some (.int .i64 0) := fun O => keepA (cellb (HV5.out.below hb).blk rfl)
  have q5_3 : ∀ O, (x5.alloc O).cell? ⟨b5, 3, none⟩ = some (.int .i64 15) := fun O => keepA (cellb (HV5.out.below hb).blk rfl)
  have q6_0 : ∀ O, (x5.alloc O).cell? ⟨b6, 0, none⟩ = some (.func (.func 48) #[] #[.pointer (some ⟨pb6, 0, none⟩)]) := fun O => keepA (cellb (HV6.out.below hb).blk rfl)
  have q6_1 : ∀ O, (x5.alloc O).cell? ⟨b6, 1, none⟩ = some (.func (.func 49) #[] #[.pointer (some ⟨pb6, 0, none⟩)]) := fun O => keepA (cellb (HV6.out.below hb).blk rfl)
  have q6_2 : ∀ O, (x5.alloc O).cell? ⟨b6, 2, none⟩ = some (.int .i64 1) := fun O => keepA (cellb (HV6.out.below hb).blk rfl)
  have q6_3 : ∀ O, (x5.alloc O).cell? ⟨b6, 3, none⟩ = some (.int .i64 100) := fun O => keepA (cellb (HV6.out.below hb).blk rfl)
  have q7_0 : ∀ O, (x5.alloc O).cell? ⟨b7, 0, none⟩ = some (.func (.func 48) #[] #[.pointer (some ⟨pb7, 0, none⟩)]) := fun O => keepA (cellb (HV7.out.below hb).blk rfl)
  have q7_1 : ∀ O, (x5.alloc O).cell? ⟨b7, 1, none⟩ = some (.func (.func 49) #[] #[.pointer (some ⟨pb7, 0, none⟩)]) := fun O => keepA (cellb (HV7.out.below hb).blk rfl)
  have q7_2 : ∀ O, (x5.alloc O).cell? ⟨b7, 2, none⟩ = some (.int .i64 1) := fun O => keepA (cellb (HV7.out.below hb).blk rfl)
  have q7_3 : ∀ O, (x5.alloc O).cell? ⟨b7, 3, none⟩ = some (.int .i64 6) := fun O => keepA (cellb (HV7.out.below hb).blk rfl)
  obtain ⟨b9, hbs9⟩ : ∃ b, b = x5.heap.size := ⟨_, rfl⟩
  have hal : Below x5.heap.size x5 (x5.alloc (.cells #[.func (.func 48) #[] #[.pointer (some ⟨pb9, 0, none⟩)], .func (.func 49) #[] #[.pointer (some ⟨pb9, 0, none⟩)], .int .i64 1, .int .i64 1099511627776] 82)) := (Below.refl _ _).alloc (Nat.le_refl _) _
  have HV9 : Hid (VarAt (x5.alloc (.cells #[.func (.func 48) #[] #[.pointer (some ⟨pb9, 0, none⟩)], .func (.func 49) #[] #[.pointer (some ⟨pb9, 0, none⟩)], .int .i64 1, .int .i64 1099511627776] 82)) b9 pb9 mb 16 1 1099511627776) := Lib.hid ⟨by rw [hbs9]; exact heap_alloc_new x5 _, by omega, by simp; omega, keepA hc⟩
  have HV4 := Lib.hid ((HV4.out.below hb).below hal)
  have HV5 := Lib.hid ((HV5.out.below hb).below hal)
  have HV6 := Lib.hid ((HV6.out.below hb).below hal)
  have HV7 := Lib.hid ((HV7.out.below hb).below hal)
  have HV8 := Lib.hid ((HV8.out.below hb).below hal)
  have HB6 := Lib.hid (HB5.out.trans ((hb.trans (hal.mono hb.size)).mono (by omega)))
  have HK6 := Lib.hid (kk (.cells #[.func (.func 48) #[] #[.pointer (some ⟨pb9, 0, none⟩)], .func (.func 49) #[] #[.pointer (some ⟨pb9, 0, none⟩)], .int .i64 1, .int .i64 1099511627776] 82))
  have HP6 := Lib.hid (kz (.cells #[.func (.func 48) #[] #[.pointer (some ⟨pb9, 0, none⟩)], .func (.func 49) #[] #[.pointer (some ⟨pb9, 0, none⟩)], .int .i64 1, .int .i64 1099511627776] 82))
  have hs6 : S < (x5.alloc (.cells #[.func (.func 48) #[] #[.pointer (some ⟨pb9, 0, none⟩)], .func (.func 49) #[] #[.pointer (some ⟨pb9, 0, none⟩)], .int .i64 1, .int .i64 1099511627776] 82)).heap.size := by simp; omega
  clear hb hal hge hlt hc hsx HB5 HK5 HP5 hs5
  go_wp2_with fail
  rw [← hbs9]
  clear kz kk q4_0 q4_1 q4_2 q4_3 q5_0 q5_1 q5_2 q5_3 q6_0 q6_1 q6_2 q6_3 q7_0 q7_1 q7_2 q7_3
  have hz6 : (x5.alloc (.cells #[.func (.func 48) #[] #[.pointer (some ⟨pb9, 0, none⟩)], .func (.func 49) #[] #[.pointer (some ⟨pb9, 0, none⟩)], .int .i64 1, .int .i64 1099511627776] 82)).heap.size = b9 + 1 := by have := hs6; rw [hbs9]; simp
  clear hbs9
  generalize x5.alloc (.cells #[.func (.func 48) #[] #[.pointer (some ⟨pb9, 0, none⟩)], .func (.func 49) #[] #[.pointer (some ⟨pb9, 0, none⟩)], .int .i64 1, .int .i64 1099511627776] 82) = w6 at HB6 HK6 HP6 hs6 hz6 HV4 HV5 HV6 HV7 HV8 HV9 ⊢
  have hrow := heap_alloc_new w6 (.cells #[.func (.func 48) #[] #[.pointer (some ⟨pb4, 0, none⟩)], .func (.func 49) #[] #[.pointer (some ⟨pb4, 0, none⟩)], .int .i64 0, .int .i64 1099511627776, .func (.func 48) #[] #[.pointer (some ⟨pb5, 0, none⟩)], .func (.func 49) #[] #[.pointer (some ⟨pb5, 0, none⟩)], .int .i64 0, .int .i64 15, .func (.func 48) #[] #[.pointer (some ⟨pb6, 0, none⟩)], .func (.func 49) #[] #[.pointer (some ⟨pb6, 0, none⟩)], .int .i64 1, .int .i64 100, .func (.func 48) #[] #[.pointer (some ⟨pb7, 0, none⟩)], .func (.func 49) #[] #[.pointer (some ⟨pb7, 0, none⟩)], .int .i64 1, .int .i64 6] 82)
  rw [hz6] at hrow
  have hal : Below w6.heap.size w6 (w6.alloc (.cells #[.func (.func 48) #[] #[.pointer (some ⟨pb4, 0, none⟩)], .func (.func 49) #[] #[.pointer (some ⟨pb4, 0, none⟩)], .int .i64 0, .int .i64 1099511627776, .func (.func 48) #[] #[.pointer (some ⟨pb5, 0, none⟩)], .func (.func 49) #[] #[.pointer (some ⟨pb5, 0, none⟩)], .int .i64 0, .int .i64 15, .func (.func 48) #[] #[.pointer (some ⟨pb6, 0, none⟩)], .func (.func 49) #[] #[.pointer (some ⟨pb6, 0, none⟩)], .int .i64 1, .int .i64 100, .func (.func 48) #[] #[.pointer (some ⟨pb7, 0, none⟩)], .func (.func 49) #[] #[.pointer (some ⟨pb7, 0, none⟩)], .int .i64 1, .int .i64 6] 82)) := (Below.refl _ _).alloc (Nat.le_refl _) _
  have V4 := HV4.out.below hal
  have V5 := HV5.out.below hal
  have V6 := HV6.out.below hal
  have V7 := HV7.out.below hal
  have hF : FieldsIn (w6.alloc (.cells #[.func (.func 48) #[] #[.pointer (some ⟨pb4, 0, none⟩)], .func (.func 49) #[] #[.pointer (some ⟨pb4, 0, none⟩)], .int .i64 0, .int .i64 1099511627776, .func (.func 48) #[] #[.pointer (some ⟨pb5, 0, none⟩)], .func (.func 49) #[] #[.pointer (some ⟨pb5, 0, none⟩)], .int .i64 0, .int .i64 15, .func (.func 48) #[] #[.pointer (some ⟨pb6, 0, none⟩)], .func (.func 49) #[] #[.pointer (some ⟨pb6, 0, none⟩)], .int .i64 1, .int .i64 100, .func (.func 48) #[] #[.pointer (some ⟨pb7, 0, none⟩)], .func (.func 49) #[] #[.pointer (some ⟨pb7, 0, none⟩)], .int .i64 1, .int .i64 6] 82)) (w6.alloc (.cells #[.func (.func 48) #[] #[.pointer (some ⟨pb4, 0, none⟩)], .func (.func 49) #[] #[.pointer (some ⟨pb4, 0, none⟩)], .int .i64 0, .int .i64 1099511627776, .func (.func 48) #[] #[.pointer (some ⟨pb5, 0, none⟩)], .func (.func 49) #[] #[.pointer (some ⟨pb5, 0, none⟩)], .int .i64 0, .int .i64 15, .func (.func 48) #[] #[.pointer (some ⟨pb6, 0, none⟩)], .func (.func 49) #[] #[.pointer (some ⟨pb6, 0, none⟩)], .int .i64 1, .int .i64 100, .func (.func 48) #[] #[.pointer (some ⟨pb7, 0, none⟩)], .func (.func 49) #[] #[.pointer (some ⟨pb7, 0, none⟩)], .int .i64 1, .int .i64 6] 82)).heap.size mb (some ⟨b9 + 1, 0, none⟩) [⟨1, 0, 1099511627776⟩, ⟨2, 0, 15⟩, ⟨6, 1, 100⟩, ⟨7, 1, 6⟩] := by
    refine .inr ⟨b9 + 1, rfl, by omega, ltb hrow, fun i f hf => ?_⟩
    have hi : i < 4 := (List.getElem?_eq_some_iff.1 hf).1
    have hi : i = 0 ∨ i = 1 ∨ i = 2 ∨ i = 3 := by omega
    rcases hi with rfl | rfl | rfl | rfl
    · obtain rfl := Option.some.inj hf
      exact ⟨_, _, .inl ⟨pb4, V4.gt, V4.lt, rfl, rfl, V4.ptr⟩, cellb hrow rfl, cellb hrow rfl, cellb hrow rfl, cellb hrow rfl⟩
    · obtain rfl := Option.some.inj hf
      exact ⟨_, _, .inl ⟨pb5, V5.gt, V5.lt, rfl, rfl, V5.ptr⟩, cellb hrow rfl, cellb hrow rfl, cellb hrow rfl, cellb hrow rfl⟩
    · obtain rfl := Option.some.inj hf
      exact ⟨_, _, .inl ⟨pb6, V6.gt, V6.lt, rfl, rfl, V6.ptr⟩, cellb hrow rfl, cellb hrow rfl, cellb hrow rfl, cellb hrow rfl⟩
    · obtain rfl := Option.some.inj hf
      exact ⟨_, _, .inl ⟨pb7, V7.gt, V7.lt, rfl, rfl, V7.ptr⟩, cellb hrow rfl, cellb hrow rfl, cellb hrow rfl, cellb hrow rfl⟩
  have HF := Lib.hid hF
  have HB := Lib.hid (HB6.out.trans (hal.mono (by omega)))
  clear hrow hal V4 V5 V6 V7 hF HB6 HK6 HP6 HV4 HV5 HV6 HV7 HV8 HV9
  refine (all_any _ _ _ _).mono ?_
  rintro e w' ⟨rfl, rfl⟩
  go_wp2_with fail
  refine bodyPost_ret (v := .tuple #[.slice (some ⟨b9 + 1, 0, none⟩) 4 4, .bool true]) (by simp [results, Try.results35, go_sem]) rfl ?_
  exact ⟨_, _, rfl, HF.out, by rw [HSW.out]; exact HB.out⟩

end Go.Proofs.Ytoeamofemepgpaa
