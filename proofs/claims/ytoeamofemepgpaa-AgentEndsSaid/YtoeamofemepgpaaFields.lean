/- The fields of a message. -/
import Derived.Test.YtoeamofemepgpaaMsg
import Derived.Test.YtoeamofemepgpaaHeldW
import Derived.Deep.RegionHeld3
namespace Go.Proofs.Ytoeamofemepgpaa
open Go.RowKit

set_option maxRecDepth 100000 in
set_option maxHeartbeats 4000000 in
theorem fields_7 (mb : Nat) (w : World) (v : Nat → Int) (A : Option Addr) (n c : Nat) (hm : MAt w mb v A n c) (hk : v 0 = 7) :
    Calls Try.prog 35 #[.pointer (some ⟨mb, 0, none⟩)] w fun e w' => ∃ R c', e = .returned (.tuple #[.slice R 3 c', .bool true]) ∧ FieldsIn w' w'.heap.size mb R [⟨1, 0, 1099511627776⟩, ⟨15, 1, 16⟩, ⟨16, 1, 1099511627776⟩] ∧ Below w.heap.size w w' := by
  have HM := Lib.hid hm
  have hml := ltb hm
  obtain ⟨S, hS⟩ : ∃ S, S = w.heap.size := ⟨_, rfl⟩
  have hkk := cellb (i := 0) hm rfl
  rw [hk] at hkk
  have hkb : (w.alloc (.cells #[.pointer (some ⟨mb, 0, none⟩)] 79)).cell? ⟨mb, 0, none⟩ = some (.int .i64 7) := keepA hkk
  have hpb : (w.alloc (.cells #[.pointer (some ⟨mb, 0, none⟩)] 79)).cell? ⟨S, 0, none⟩ = some (.pointer (some ⟨mb, 0, none⟩)) := by rw [hS]; exact cell_of_one (heap_alloc_new w _)
  have hb0 : Below S w (w.alloc (.cells #[.pointer (some ⟨mb, 0, none⟩)] 79)) := by rw [hS]; exact (Below.refl w.heap.size w).alloc (Nat.le_refl _) _
  have HB0 := Lib.hid hb0
  have HK0 := Lib.hid hkb
  have HP0 := Lib.hid hpb
  have hs0 : S < (w.alloc (.cells #[.pointer (some ⟨mb, 0, none⟩)] 79)).heap.size := by simp [hS]
  have hmS : mb < S := by omega
  have HSW : Hid (w.heap.size = S) := Lib.hid hS.symm
  clear hm hkk hkb hpb hb0
  go_enter Try.func35, Try.ntmps35
  go_wp2_with fail
  rw [← hS]
  clear hS hml
  generalize w.alloc (.cells #[.pointer (some ⟨mb, 0, none⟩)] 79) = w0 at HB0 HK0 HP0 hs0 ⊢
  refine (at_any mb 1 0 1099511627776 w0).mono ?_
  rintro e x0 ⟨pb4, rfl, hge, hlt, hc, hb⟩
  have kz : ∀ O, (x0.alloc O).cell? ⟨S, 0, none⟩ = some (.pointer (some ⟨mb, 0, none⟩)) := fun O => keepA ((hb.cell (p := ⟨S, 0, none⟩) hs0).trans HP0.out)
  have kk : ∀ O, (x0.alloc O).cell? ⟨mb, 0, none⟩ = some (.int .i64 7) := fun O => keepA ((hb.cell (p := ⟨mb, 0, none⟩) (by show mb < _; omega)).trans HK0.out)
  have hsx : S < x0.heap.size := Nat.lt_of_lt_of_le hs0 hb.size
  obtain ⟨b4, hbs4⟩ : ∃ b, b = x0.heap.size := ⟨_, rfl⟩
  have hal : Below x0.heap.size x0 (x0.alloc (.cells #[.func (.func 48) #[] #[.pointer (some ⟨pb4, 0, none⟩)], .func (.func 49) #[] #[.pointer (some ⟨pb4, 0, none⟩)], .int .i64 0, .int .i64 1099511627776] 82)) := (Below.refl _ _).alloc (Nat.le_refl _) _
  have HV4 : Hid (VarAt (x0.alloc (.cells #[.func (.func 48) #[] #[.pointer (some ⟨pb4, 0, none⟩)], .func (.func 49) #[] #[.pointer (some ⟨pb4, 0, none⟩)], .int .i64 0, .int .i64 1099511627776] 82)) b4 pb4 mb 1 0 1099511627776) := Lib.hid ⟨by rw [hbs4]; exact heap_alloc_new x0 _, by omega, by simp; omega, keepA hc⟩
  have HB1 := Lib.hid (HB0.out.trans ((hb.trans (hal.mono hb.size)).mono (by omega)))
  have HK1 := Lib.hid (kk (.cells #[.func (.func 48) #[] #[.pointer (some ⟨pb4, 0, none⟩)], .func (.func 49) #[] #[.pointer (some ⟨pb4, 0, none⟩)], .int .i64 0, .int .i64 1099511627776] 82))
  have HP1 := Lib.hid (kz (.cells #[.func (.func 48) #[] #[.pointer (some ⟨pb4, 0, none⟩)], .func (.func 49) #[] #[.pointer (some ⟨pb4, 0, none⟩)], .int .i64 0, .int .i64 1099511627776] 82))
  have hs1 : S < (x0.alloc (.cells #[.func (.func 48) #[] #[.pointer (some ⟨pb4, 0, none⟩)], .func (.func 49) #[] #[.pointer (some ⟨pb4, 0, none⟩)], .int .i64 0, .int .i64 1099511627776] 82)).heap.size := by simp; omega
  clear hb hal hge hlt hc hsx HB0 HK0 HP0 hs0 kk
  go_wp2_with fail
  rw [← hbs4]
  clear kz hbs4
  generalize x0.alloc (.cells #[.func (.func 48) #[] #[.pointer (some ⟨pb4, 0, none⟩)], .func (.func 49) #[] #[.pointer (some ⟨pb4, 0, none⟩)], .int .i64 0, .int .i64 1099511627776] 82) = w1 at HB1 HK1 HP1 hs1 HV4 ⊢
  have kp := HP1.out
  go_wp2_with fail
  clear kp
  refine (at_any mb 2 0 15 w1).mono ?_
  rintro e x1 ⟨pb5, rfl, hge, hlt, hc, hb⟩
  have kz : ∀ O, (x1.alloc O).cell? ⟨S, 0, none⟩ = some (.pointer (some ⟨mb, 0, none⟩)) := fun O => keepA ((hb.cell (p := ⟨S, 0, none⟩) hs1).trans HP1.out)
  have kk : ∀ O, (x1.alloc O).cell? ⟨mb, 0, none⟩ = some (.int .i64 7) := fun O => keepA ((hb.cell (p := ⟨mb, 0, none⟩) (by show mb < _; omega)).trans HK1.out)
  have hsx : S < x1.heap.size := Nat.lt_of_lt_of_le hs1 hb.size
  obtain ⟨b5, hbs5⟩ : ∃ b, b = x1.heap.size := ⟨_, rfl⟩
  have hal : Below x1.heap.size x1 (x1.alloc (.cells #[.func (.func 48) #[] #[.pointer (some ⟨pb5, 0, none⟩)], .func (.func 49) #[] #[.pointer (some ⟨pb5, 0, none⟩)], .int .i64 0, .int .i64 15] 82)) := (Below.refl _ _).alloc (Nat.le_refl _) _
  have HV5 : Hid (VarAt (x1.alloc (.cells #[.func (.func 48) #[] #[.pointer (some ⟨pb5, 0, none⟩)], .func (.func 49) #[] #[.pointer (some ⟨pb5, 0, none⟩)], .int .i64 0, .int .i64 15] 82)) b5 pb5 mb 2 0 15) := Lib.hid ⟨by rw [hbs5]; exact heap_alloc_new x1 _, by omega, by simp; omega, keepA hc⟩
  have HV4 := Lib.hid ((HV4.out.below hb).below hal)
  have HB2 := Lib.hid (HB1.out.trans ((hb.trans (hal.mono hb.size)).mono (by omega)))
  have HK2 := Lib.hid (kk (.cells #[.func (.func 48) #[] #[.pointer (some ⟨pb5, 0, none⟩)], .func (.func 49) #[] #[.pointer (some ⟨pb5, 0, none⟩)], .int .i64 0, .int .i64 15] 82))
  have HP2 := Lib.hid (kz (.cells #[.func (.func 48) #[] #[.pointer (some ⟨pb5, 0, none⟩)], .func (.func 49) #[] #[.pointer (some ⟨pb5, 0, none⟩)], .int .i64 0, .int .i64 15] 82))
  have hs2 : S < (x1.alloc (.cells #[.func (.func 48) #[] #[.pointer (some ⟨pb5, 0, none⟩)], .func (.func 49) #[] #[.pointer (some ⟨pb5, 0, none⟩)], .int .i64 0, .int .i64 15] 82)).heap.size := by simp; omega
  clear hb hal hge hlt hc hsx HB1 HK1 HP1 hs1 kk
  go_wp2_with fail
  rw [← hbs5]
  clear kz hbs5
  generalize x1.alloc (.cells #[.func (.func 48) #[] #[.pointer (some ⟨pb5, 0, none⟩)], .func (.func 49) #[] #[.pointer (some ⟨pb5, 0, none⟩)], .int .i64 0, .int .i64 15] 82) = w2 at HB2 HK2 HP2 hs2 HV4 HV5 ⊢
  have kp := HP2.out
  go_wp2_with fail
  clear kp
  refine (at_any mb 6 1 100 w2).mono ?_
  rintro e x2 ⟨pb6, rfl, hge, hlt, hc, hb⟩
  have kz : ∀ O, (x2.alloc O).cell? ⟨S, 0, none⟩ = some (.pointer (some ⟨mb, 0, none⟩)) := fun O => keepA ((hb.cell (p := ⟨S, 0, none⟩) hs2).trans HP2.out)
  have kk : ∀ O, (x2.alloc O).cell? ⟨mb, 0, none⟩ = some (.int .i64 7) := fun O => keepA ((hb.cell (p := ⟨mb, 0, none⟩) (by show mb < _; omega)).trans HK2.out)
  have hsx : S < x2.heap.size := Nat.lt_of_lt_of_le hs2 hb.size
  obtain ⟨b6, hbs6⟩ : ∃ b, b = x2.heap.size := ⟨_, rfl⟩
  have hal : Below x2.heap.size x2 (x2.alloc (.cells #[.func (.func 48) #[] #[.pointer (some ⟨pb6, 0, none⟩)], .func (.func 49) #[] #[.pointer (some ⟨pb6, 0, none⟩)], .int .i64 1, .int .i64 100] 82)) := (Below.refl _ _).alloc (Nat.le_refl _) _
  have HV6 : Hid (VarAt (x2.alloc (.cells #[.func (.func 48) #[] #[.pointer (some ⟨pb6, 0, none⟩)], .func (.func 49) #[] #[.pointer (some ⟨pb6, 0, none⟩)], .int .i64 1, .int .i64 100] 82)) b6 pb6 mb 6 1 100) := Lib.hid ⟨by rw [hbs6]; exact heap_alloc_new x2 _, by omega, by simp; omega, keepA hc⟩
  have HV4 := Lib.hid ((HV4.out.below hb).below hal)
  have HV5 := Lib.hid ((HV5.out.below hb).below hal)
  have HB3 := Lib.hid (HB2.out.trans ((hb.trans (hal.mono hb.size)).mono (by omega)))
  have HK3 := Lib.hid (kk (.cells #[.func (.func 48) #[] #[.pointer (some ⟨pb6, 0, none⟩)], .func (.func 49) #[] #[.pointer (some ⟨pb6, 0, none⟩)], .int .i64 1, .int .i64 100] 82))
  have HP3 := Lib.hid (kz (.cells #[.func (.func 48) #[] #[.pointer (some ⟨pb6, 0, none⟩)], .func (.func 49) #[] #[.pointer (some ⟨pb6, 0, none⟩)], .int .i64 1, .int .i64 100] 82))
  have hs3 : S < (x2.alloc (.cells #[.func (.func 48) #[] #[.pointer (some ⟨pb6, 0, none⟩)], .func (.func 49) #[] #[.pointer (some ⟨pb6, 0, none⟩)], .int .i64 1, .int .i64 100] 82)).heap.size := by simp; omega
  clear hb hal hge hlt hc hsx HB2 HK2 HP2 hs2 kk
  go_wp2_with fail
  rw [← hbs6]
  clear kz hbs6
  generalize x2.alloc (.cells #[.func (.func 48) #[] #[.pointer (some ⟨pb6, 0, none⟩)], .func (.func 49) #[] #[.pointer (some ⟨pb6, 0, none⟩)], .int .i64 1, .int .i64 100] 82) = w3 at HB3 HK3 HP3 hs3 HV4 HV5 HV6 ⊢
  have kp := HP3.out
  go_wp2_with fail
  clear kp
  refine (at_any mb 7 1 6 w3).mono ?_
  rintro e x3 ⟨pb7, rfl, hge, hlt, hc, hb⟩
  have kz : ∀ O, (x3.alloc O).cell? ⟨S, 0, none⟩ = some (.pointer (some ⟨mb, 0, none⟩)) := fun O => keepA ((hb.cell (p := ⟨S, 0, none⟩) hs3).trans HP3.out)
  have kk : ∀ O, (x3.alloc O).cell? ⟨mb, 0, none⟩ = some (.int .i64 7) := fun O => keepA ((hb.cell (p := ⟨mb, 0, none⟩) (by show mb < _; omega)).trans HK3.out)
  have hsx : S < x3.heap.size := Nat.lt_of_lt_of_le hs3 hb.size
  obtain ⟨b7, hbs7⟩ : ∃ b, b = x3.heap.size := ⟨_, rfl⟩
  have hal : Below x3.heap.size x3 (x3.alloc (.cells #[.func (.func 48) #[] #[.pointer (some ⟨pb7, 0, none⟩)], .func (.func 49) #[] #[.pointer (some ⟨pb7, 0, none⟩)], .int .i64 1, .int .i64 6] 82)) := (Below.refl _ _).alloc (Nat.le_refl _) _
  have HV7 : Hid (VarAt (x3.alloc (.cells #[.func (.func 48) #[] #[.pointer (some ⟨pb7, 0, none⟩)], .func (.func 49) #[] #[.pointer (some ⟨pb7, 0, none⟩)], .int .i64 1, .int .i64 6] 82)) b7 pb7 mb 7 1 6) := Lib.hid ⟨by rw [hbs7]; exact heap_alloc_new x3 _, by omega, by simp; omega, keepA hc⟩
  have HV4 := Lib.hid ((HV4.out.below hb).below hal)
  have HV5 := Lib.hid ((HV5.out.below hb).below hal)
  have HV6 := Lib.hid ((HV6.out.below hb).below hal)
  have HB4 := Lib.hid (HB3.out.trans ((hb.trans (hal.mono hb.size)).mono (by omega)))
  have HK4 := Lib.hid (kk (.cells #[.func (.func 48) #[] #[.pointer (some ⟨pb7, 0, none⟩)], .func (.func 49) #[] #[.pointer (some ⟨pb7, 0, none⟩)], .int .i64 1, .int .i64 6] 82))
  have HP4 := Lib.hid (kz (.cells #[.func (.func 48) #[] #[.pointer (some ⟨pb7, 0, none⟩)], .func (.func 49) #[] #[.pointer (some ⟨pb7, 0, none⟩)], .int .i64 1, .int .i64 6] 82))
  have hs4 : S < (x3.alloc (.cells #[.func (.func 48) #[] #[.pointer (some ⟨pb7, 0, none⟩)], .func (.func 49) #[] #[.pointer (some ⟨pb7, 0, none⟩)], .int .i64 1, .int .i64 6] 82)).heap.size := by simp; omega
  clear hb hal hge hlt hc hsx HB3 HK3 HP3 hs3 kk
  go_wp2_with fail
  rw [← hbs7]
  clear kz hbs7
  generalize x3.alloc (.cells #[.func (.func 48) #[] #[.pointer (some ⟨pb7, 0, none⟩)], .func (.func 49) #[] #[.pointer (some ⟨pb7, 0, none⟩)], .int .i64 1, .int .i64 6] 82) = w4 at HB4 HK4 HP4 hs4 HV4 HV5 HV6 HV7 ⊢
  have kp := HP4.out
  go_wp2_with fail
  clear kp
  refine (at_any mb 15 1 16 w4).mono ?_
  rintro e x4 ⟨pb8, rfl, hge, hlt, hc, hb⟩
  have kz : ∀ O, (x4.alloc O).cell? ⟨S, 0, none⟩ = some (.pointer (some ⟨mb, 0, none⟩)) := fun O => keepA ((hb.cell (p := ⟨S, 0, none⟩) hs4).trans HP4.out)
  have kk : ∀ O, (x4.alloc O).cell? ⟨mb, 0, none⟩ = some (.int .i64 7) := fun O => keepA ((hb.cell (p := ⟨mb, 0, none⟩) (by show mb < _; omega)).trans HK4.out)
  have hsx : S < x4.heap.size := Nat.lt_of_lt_of_le hs4 hb.size
  obtain ⟨b8, hbs8⟩ : ∃ b, b = x4.heap.size := ⟨_, rfl⟩
  have hal : Below x4.heap.size x4 (x4.alloc (.cells #[.func (.func 48) #[] #[.pointer (some ⟨pb8, 0, none⟩)], .func (.func 49) #[] #[.pointer (some ⟨pb8, 0, none⟩)], .int .i64 1, .int .i64 16] 82)) := (Below.refl _ _).alloc (Nat.le_refl _) _
  have HV8 : Hid (VarAt (x4.alloc (.cells #[.func (.func 48) #[] #[.pointer (some ⟨pb8, 0, none⟩)], .func (.func 49) #[] #[.pointer (some ⟨pb8, 0, none⟩)], .int .i64 1, .int .i64 16] 82)) b8 pb8 mb 15 1 16) := Lib.hid ⟨by rw [hbs8]; exact heap_alloc_new x4 _, by omega, by simp; omega, keepA hc⟩
  have HV4 := Lib.hid ((HV4.out.below hb).below hal)
  have HV5 := Lib.hid ((HV5.out.below hb).below hal)
  have HV6 := Lib.hid ((HV6.out.below hb).below hal)
  have HV7 := Lib.hid ((HV7.out.below hb).below hal)
  have HB5 := Lib.hid (HB4.out.trans ((hb.trans (hal.mono hb.size)).mono (by omega)))
  have HK5 := Lib.hid (kk (.cells #[.func (.func 48) #[] #[.pointer (some ⟨pb8, 0, none⟩)], .func (.func 49) #[] #[.pointer (some ⟨pb8, 0, none⟩)], .int .i64 1, .int .i64 16] 82))
  have HP5 := Lib.hid (kz (.cells #[.func (.func 48) #[] #[.pointer (some ⟨pb8, 0, none⟩)], .func (.func 49) #[] #[.pointer (some ⟨pb8, 0, none⟩)], .int .i64 1, .int .i64 16] 82))
  have hs5 : S < (x4.alloc (.cells #[.func (.func 48) #[] #[.pointer (some ⟨pb8, 0, none⟩)], .func (.func 49) #[] #[.pointer (some ⟨pb8, 0, none⟩)], .int .i64 1, .int .i64 16] 82)).heap.size := by simp; omega
  clear hb hal hge hlt hc hsx HB4 HK4 HP4 hs4 kk
  go_wp2_with fail
  rw [← hbs8]
  clear kz hbs8
  generalize x4.alloc (.cells #[.func (.func 48) #[] #[.pointer (some ⟨pb8, 0, none⟩)], .func (.func 49) #[] #[.pointer (some ⟨pb8, 0, none⟩)], .int .i64 1, .int .i64 16] 82) = w5 at HB5 HK5 HP5 hs5 HV4 HV5 HV6 HV7 HV8 ⊢
  have kp := HP5.out
  go_wp2_with fail
  clear kp
  refine (at_any mb 16 1 1099511627776 w5).mono ?_
  rintro e x5 ⟨pb9, rfl, hge, hlt, hc, hb⟩
  have kz : ∀ O, (x5.alloc O).cell? ⟨S, 0, none⟩ = some (.pointer (some ⟨mb, 0, none⟩)) := fun O => keepA ((hb.cell (p := ⟨S, 0, none⟩) hs5).trans HP5.out)
  have kk : ∀ O, (x5.alloc O).cell? ⟨mb, 0, none⟩ = some (.int .i64 7) := fun O => keepA ((hb.cell (p := ⟨mb, 0, none⟩) (by show mb < _; omega)).trans HK5.out)
  have hsx : S < x5.heap.size := Nat.lt_of_lt_of_le hs5 hb.size
  have q4_0 : ∀ O, (x5.alloc O).cell? ⟨b4, 0, none⟩ = some (.func (.func 48) #[] #[.pointer (some ⟨pb4, 0, none⟩)]) := fun O => keepA (cellb (HV4.out.below hb).blk rfl)
  have q4_1 : ∀ O, (x5.alloc O).cell? ⟨b4, 1, none⟩ = some (.func (.func 49) #[] #[.pointer (some ⟨pb4, 0, none⟩)]) := fun O => keepA (cellb (HV4.out.below hb).blk rfl)
  have q4_2 : ∀ O, (x5.alloc O).cell? ⟨b4, 2, none⟩ = some (.int .i64 0) := fun O => keepA (cellb (HV4.out.below hb).blk rfl)
  have q4_3 : ∀ O, (x5.alloc O).cell? ⟨b4, 3, none⟩ = some (.int .i64 1099511627776) := fun O => keepA (cellb (HV4.out.below hb).blk rfl)
  have q8_0 : ∀ O, (x5.alloc O).cell? ⟨b8, 0, none⟩ = some (.func (.func 48) #[] #[.pointer (some ⟨pb8, 0, none⟩)]) := fun O => keepA (cellb (HV8.out.below hb).blk rfl)
  have q8_1 : ∀ O, (x5.alloc O).cell? ⟨b8, 1, none⟩ = some (.func (.func 49) #[] #[.pointer (some ⟨pb8, 0, none⟩)]) := fun O => keepA (cellb (HV8.out.below hb).blk rfl)
  have q8_2 : ∀ O, (x5.alloc O).cell? ⟨b8, 2, none⟩ = some (.int .i64 1) := fun O => keepA (cellb (HV8.out.below hb).blk rfl)
  have q8_3 : ∀ O, (x5.alloc O).cell? ⟨b8, 3, none⟩ = some (.int .i64 16) := fun O => keepA (cellb (HV8.out.below hb).blk rfl)
  obtain ⟨b9, hbs9⟩ : ∃ b, b = x5.heap.size := ⟨_, rfl⟩
  have hal : Below x5.heap.size x5 (x5.alloc (.cells #[.func (.func 48) #[] #[.pointer (some ⟨pb9, 0, none⟩)], .func (.func 49) #[] #[.pointer (some ⟨pb9, 0, none⟩)], .int .i64 1, .int .i64 1099511627776] 82)) := (Below.refl _ _).alloc (Nat.le_refl _) _
  have HV9 : Hid (VarAt (x5.alloc (.cells #[.func (.func 48) #[] #[.pointer (some ⟨pb9, 0, none⟩)], .func (.func 49) #[] #[.pointer (some ⟨pb9, 0, none⟩)], .int .i64 1, .int .i64 1099511627776] 82)) b9 pb9 mb 16 1 1099511627776) := Lib.hid ⟨by rw [hbs9]; exact heap_alloc_new x5 _, by omega, by simp; omega, keepA hc⟩
  have HV4 := Lib.hid ((HV4.out.below hb).below hal)
  have HV5 := Lib.hid ((HV5.out.below hb).below hal)
  have HV6 := Lib.hid ((HV6.out.below hb).below hal)
  have HV7 := Lib.hid ((HV7.out.below hb).below hal)
  have HV8 := Lib.hid ((HV8.out.below hb).below hal)
  have HB6 := Lib.hid (HB5.out.trans ((hb.trans (hal.mono hb.size)).mono (by omega)))
  have HK6 := Lib.hid (kk (.cells #[.func (.func 48) #[] #[.pointer (some ⟨pb9, 0, none⟩)], .func (.func 49) #[] #[.pointer (some ⟨pb9, 0, none⟩)], .int .i64 1, .int .i64 1099511627776] 82))
  have HP6 := Lib.hid (kz (.cells #[.func (.func 48) #[] #[.pointer (some ⟨pb9, 0, none⟩)], .func (.func 49) #[] #[.pointer (some ⟨pb9, 0, none⟩)], .int .i64 1, .int .i64 1099511627776] 82))
  have hs6 : S < (x5.alloc (.cells #[.func (.func 48) #[] #[.pointer (some ⟨pb9, 0, none⟩)], .func (.func 49) #[] #[.pointer (some ⟨pb9, 0, none⟩)], .int .i64 1, .int .i64 1099511627776] 82)).heap.size := by simp; omega
  clear hb hal hge hlt hc hsx HB5 HK5 HP5 hs5
  go_wp2_with fail
  rw [← hbs9]
  clear kz kk q4_0 q4_1 q4_2 q4_3 q8_0 q8_1 q8_2 q8_3
  have hz6 : (x5.alloc (.cells #[.func (.func 48) #[] #[.pointer (some ⟨pb9, 0, none⟩)], .func (.func 49) #[] #[.pointer (some ⟨pb9, 0, none⟩)], .int .i64 1, .int .i64 1099511627776] 82)).heap.size = b9 + 1 := by have := hs6; rw [hbs9]; simp
  clear hbs9
  generalize x5.alloc (.cells #[.func (.func 48) #[] #[.pointer (some ⟨pb9, 0, none⟩)], .func (.func 49) #[] #[.pointer (some ⟨pb9, 0, none⟩)], .int .i64 1, .int .i64 1099511627776] 82) = w6 at HB6 HK6 HP6 hs6 hz6 HV4 HV5 HV6 HV7 HV8 HV9 ⊢
  have hrow := heap_alloc_new w6 (.cells #[.func (.func 48) #[] #[.pointer (some ⟨pb4, 0, none⟩)], .func (.func 49) #[] #[.pointer (some ⟨pb4, 0, none⟩)], .int .i64 0, .int .i64 1099511627776, .func (.func 48) #[] #[.pointer (some ⟨pb8, 0, none⟩)], .func (.func 49) #[] #[.pointer (some ⟨pb8, 0, none⟩)], .int .i64 1, .int .i64 16, .func (.func 48) #[] #[.pointer (some ⟨pb9, 0, none⟩)], .func (.func 49) #[] #[.pointer (some ⟨pb9, 0, none⟩)], .int .i64 1, .int .i64 1099511627776] 82)
  rw [hz6] at hrow
  have hal : Below w6.heap.size w6 (w6.alloc (.cells #[.func (.func 48) #[] #[.pointer (some ⟨pb4, 0, none⟩)], .func (.func 49) #[] #[.pointer (some ⟨pb4, 0, none⟩)], .int .i64 0, .int .i64 1099511627776, .func (.func 48) #[] #[.pointer (some ⟨pb8, 0, none⟩)], .func (.func 49) #[] #[.pointer (some ⟨pb8, 0, none⟩)], .int .i64 1, .int .i64 16, .func (.func 48) #[] #[.pointer (some ⟨pb9, 0, none⟩)], .func (.func 49) #[] #[.pointer (some ⟨pb9, 0, none⟩)], .int .i64 1, .int .i64 1099511627776] 82)) := (Below.refl _ _).alloc (Nat.le_refl _) _
  have V4 := HV4.out.below hal
  have V8 := HV8.out.below hal
  have V9 := HV9.out.below hal
  have hF : FieldsIn (w6.alloc (.cells #[.func (.func 48) #[] #[.pointer (some ⟨pb4, 0, none⟩)], .func (.func 49) #[] #[.pointer (some ⟨pb4, 0, none⟩)], .int .i64 0, .int .i64 1099511627776, .func (.func 48) #[] #[.pointer (some ⟨pb8, 0, none⟩)], .func (.func 49) #[] #[.pointer (some ⟨pb8, 0, none⟩)], .int .i64 1, .int .i64 16, .func (.func 48) #[] #[.pointer (some ⟨pb9, 0, none⟩)], .func (.func 49) #[] #[.pointer (some ⟨pb9, 0, none⟩)], .int .i64 1, .int .i64 1099511627776] 82)) (w6.alloc (.cells #[.func (.func 48) #[] #[.pointer (some ⟨pb4, 0, none⟩)], .func (.func 49) #[] #[.pointer (some ⟨pb4, 0, none⟩)], .int .i64 0, .int .i64 1099511627776, .func (.func 48) #[] #[.pointer (some ⟨pb8, 0, none⟩)], .func (.func 49) #[] #[.pointer (some ⟨pb8, 0, none⟩)], .int .i64 1, .int .i64 16, .func (.func 48) #[] #[.pointer (some ⟨pb9, 0, none⟩)], .func (.func 49) #[] #[.pointer (some ⟨pb9, 0, none⟩)], .int .i64 1, .int .i64 1099511627776] 82)).heap.size mb (some ⟨b9 + 1, 0, none⟩) [⟨1, 0, 1099511627776⟩, ⟨15, 1, 16⟩, ⟨16, 1, 1099511627776⟩] := by
    refine .inr ⟨b9 + 1, rfl, by omega, ltb hrow, fun i f hf => ?_⟩
    have hi : i < 3 := (List.getElem?_eq_some_iff.1 hf).1
    have hi : i = 0 ∨ i = 1 ∨ i = 2 := by omega
    rcases hi with rfl | rfl | rfl
    · obtain rfl := Option.some.inj hf
      exact ⟨_, _, .inl ⟨pb4, V4.gt, V4.lt, rfl, rfl, V4.ptr⟩, cellb hrow rfl, cellb hrow rfl, cellb hrow rfl, cellb hrow rfl⟩
    · obtain rfl := Option.some.inj hf
      exact ⟨_, _, .inl ⟨pb8, V8.gt, V8.lt, rfl, rfl, V8.ptr⟩, cellb hrow rfl, cellb hrow rfl, cellb hrow rfl, cellb hrow rfl⟩
    · obtain rfl := Option.some.inj hf
      exact ⟨_, _, .inl ⟨pb9, V9.gt, V9.lt, rfl, rfl, V9.ptr⟩, cellb hrow rfl, cellb hrow rfl, cellb hrow rfl, cellb hrow rfl⟩
  have HF := Lib.hid hF
  have HB := Lib.hid (HB6.out.trans (hal.mono (by omega)))
  clear hrow hal V4 V8 V9 hF HB6 HK6 HP6 HV4 HV5 HV6 HV7 HV8 HV9
  refine (all_any _ _ _ _).mono ?_
  rintro e w' ⟨rfl, rfl⟩
  go_wp2_with fail
  refine bodyPost_ret (v := .tuple #[.slice (some ⟨b9 + 1, 0, none⟩) 3 3, .bool true]) (by simp [results, Try.results35, go_sem]) rfl ?_
  exact ⟨_, _, rfl, HF.out, by rw [HSW.out]; exact HB.out⟩

set_option maxRecDepth 100000 in
set_option maxHeartbeats 4000000 in
theorem fields_8 (mb : Nat) (w : World) (v : Nat → Int) (A : Option Addr) (n c : Nat) (hm : MAt w mb v A n c) (hk : v 0 = 8) :
    Calls Try.prog 35 #[.pointer (some ⟨mb, 0, none⟩)] w fun e w' => ∃ R c', e = .returned (.tuple #[.slice R 6 c', .bool true]) ∧ FieldsIn w' w'.heap.size mb R [⟨1, 0, 1099511627776⟩, ⟨15, 1, 16⟩, ⟨16, 1, 1099511627776⟩, ⟨18, 0, 999⟩, ⟨19, 0, 100⟩, ⟨20, 0, 100⟩] ∧ Below w.heap.size w w' := by
  have HM := Lib.hid hm
  have hml := ltb hm
  obtain ⟨S, hS⟩ : ∃ S, S = w.heap.size := ⟨_, rfl⟩
  have hkk := cellb (i := 0) hm rfl
  rw [hk] at hkk
  have hkb : (w.alloc (.cells #[.pointer (some ⟨mb, 0, none⟩)] 79)).cell? ⟨mb, 0, none⟩ = some (.int .i64 8) := keepA hkk
  have hpb : (w.alloc (.cells #[.pointer (some ⟨mb, 0, none⟩)] 79)).cell? ⟨S, 0, none⟩ = some (.pointer (some ⟨mb, 0, none⟩)) := by rw [hS]; exact cell_of_one (heap_alloc_new w _)
  have hb0 : Below S w (w.alloc (.cells #[.pointer (some ⟨mb, 0, none⟩)] 79)) := by rw [hS]; exact (Below.refl w.heap.size w).alloc (Nat.le_refl _) _
  have HB0 := Lib.hid hb0
  have HK0 := Lib.hid hkb
  have HP0 := Lib.hid hpb
  have hs0 : S < (w.alloc (.cells #[.pointer (some ⟨mb, 0, none⟩)] 79)).heap.size := by simp [hS]
  have hmS : mb < S := by omega
  have HSW : Hid (w.heap.size = S) := Lib.hid hS.symm
  clear hm hkk hkb hpb hb0
  go_enter Try.func35, Try.ntmps35
  go_wp2_with fail
  rw [← hS]
  clear hS hml
  generalize w.alloc (.cells #[.pointer (some ⟨mb, 0, none⟩)] 79) = w0 at HB0 HK0 HP0 hs0 ⊢
  refine (at_any mb 1 0 1099511627776 w0).mono ?_
  rintro e x0 ⟨pb4, rfl, hge, hlt, hc, hb⟩
  have kz : ∀ O, (x0.alloc O).cell? ⟨S, 0, none⟩ = some (.pointer (some ⟨mb, 0, none⟩)) := fun O => keepA ((hb.cell (p := ⟨S, 0, none⟩) hs0).trans HP0.out)
  have kk : ∀ O, (x0.alloc O).cell? ⟨mb, 0, none⟩ = some (.int .i64 8) := fun O => keepA ((hb.cell (p := ⟨mb, 0, none⟩) (by show mb < _; omega)).trans HK0.out)
  have hsx : S < x0.heap.size := Nat.lt_of_lt_of_le hs0 hb.size
  obtain ⟨b4, hbs4⟩ : ∃ b, b = x0.heap.size := ⟨_, rfl⟩
  have hal : Below x0.heap.size x0 (x0.alloc (.cells #[.func (.func 48) #[] #[.pointer (some ⟨pb4, 0, none⟩)], .func (.func 49) #[] #[.pointer (some ⟨pb4, 0, none⟩)], .int .i64 0, .int .i64 1099511627776] 82)) := (Below.refl _ _).alloc (Nat.le_refl _) _
  have HV4 : Hid (VarAt (x0.alloc (.cells #[.func (.func 48) #[] #[.pointer (some ⟨pb4, 0, none⟩)], .func (.func 49) #[] #[.pointer (some ⟨pb4, 0, none⟩)], .int .i64 0, .int .i64 1099511627776] 82)) b4 pb4 mb 1 0 1099511627776) := Lib.hid ⟨by rw [hbs4]; exact heap_alloc_new x0 _, by omega, by simp; omega, keepA hc⟩
  have HB1 := Lib.hid (HB0.out.trans ((hb.trans (hal.mono hb.size)).mono (by omega)))
  have HK1 := Lib.hid (kk (.cells #[.func (.func 48) #[] #[.pointer (some ⟨pb4, 0, none⟩)], .func (.func 49) #[] #[.pointer (some ⟨pb4, 0, none⟩)], .int .i64 0, .int .i64 1099511627776] 82))
  have HP1 := Lib.hid (kz (.cells #[.func (.func 48) #[] #[.pointer (some ⟨pb4, 0, none⟩)], .func (.func 49) #[] #[.pointer (some ⟨pb4, 0, none⟩)], .int .i64 0, .int .i64 1099511627776] 82))
  have hs1 : S < (x0.alloc (.cells #[.func (.func 48) #[] #[.pointer (some ⟨pb4, 0, none⟩)], .func (.func 49) #[] #[.pointer (some ⟨pb4, 0, none⟩)], .int .i64 0, .int .i64 1099511627776] 82)).heap.size := by simp; omega
  clear hb hal hge hlt hc hsx HB0 HK0 HP0 hs0 kk
  go_wp2_with fail
  rw [← hbs4]
  clear kz hbs4
  generalize x0.alloc (.cells #[.func (.func 48) #[] #[.pointer (some ⟨pb4, 0, none⟩)], .func (.func 49) #[] #[.pointer (some ⟨pb4, 0, none⟩)], .int .i64 0, .int .i64 1099511627776] 82) = w1 at HB1 HK1 HP1 hs1 HV4 ⊢
  have kp := HP1.out
  go_wp2_with fail
  clear kp
  refine (at_any mb 2 0 15 w1).mono ?_
  rintro e x1 ⟨pb5, rfl, hge, hlt, hc, hb⟩
  have kz : ∀ O, (x1.alloc O).cell? ⟨S, 0, none⟩ = some (.pointer (some ⟨mb, 0, none⟩)) := fun O => keepA ((hb.cell (p := ⟨S, 0, none⟩) hs1).trans HP1.out)
  have kk : ∀ O, (x1.alloc O).cell? ⟨mb, 0, none⟩ = some (.int .i64 8) := fun O => keepA ((hb.cell (p := ⟨mb, 0, none⟩) (by show mb < _; omega)).trans HK1.out)
  have hsx : S < x1.heap.size := Nat.lt_of_lt_of_le hs1 hb.size
  obtain ⟨b5, hbs5⟩ : ∃ b, b = x1.heap.size := ⟨_, rfl⟩
  have hal : Below x1.heap.size x1 (x1.alloc (.cells #[.func (.func 48) #[] #[.pointer (some ⟨pb5, 0, none⟩)], .func (.func 49) #[] #[.pointer (some ⟨pb5, 0, none⟩)], .int .i64 0, .int .i64 15] 82)) := (Below.refl _ _).alloc (Nat.le_refl _) _
  have HV5 : Hid (VarAt (x1.alloc (.cells #[.func (.func 48) #[] #[.pointer (some ⟨pb5, 0, none⟩)], .func (.func 49) #[] #[.pointer (some ⟨pb5, 0, none⟩)], .int .i64 0, .int .i64 15] 82)) b5 pb5 mb 2 0 15) := Lib.hid ⟨by rw [hbs5]; exact heap_alloc_new x1 _, by omega, by simp; omega, keepA hc⟩
  have HV4 := Lib.hid ((HV4.out.below hb).below hal)
  have HB2 := Lib.hid (HB1.out.trans ((hb.trans (hal.mono hb.size)).mono (by omega)))
  have HK2 := Lib.hid (kk (.cells #[.func (.func 48) #[] #[.pointer (some ⟨pb5, 0, none⟩)], .func (.func 49) #[] #[.pointer (some ⟨pb5, 0, none⟩)], .int .i64 0, .int .i64 15] 82))
  have HP2 := Lib.hid (kz (.cells #[.func (.func 48) #[] #[.pointer (some ⟨pb5, 0, none⟩)], .func (.func 49) #[] #[.pointer (some ⟨pb5, 0, none⟩)], .int .i64 0, .int .i64 15] 82))
  have hs2 : S < (x1.alloc (.cells #[.func (.func 48) #[] #[.pointer (some ⟨pb5, 0, none⟩)], .func (.func 49) #[] #[.pointer (some ⟨pb5, 0, none⟩)], .int .i64 0, .int .i64 15] 82)).heap.size := by simp; omega
  clear hb hal hge hlt hc hsx HB1 HK1 HP1 hs1 kk
  go_wp2_with fail
  rw [← hbs5]
  clear kz hbs5
  generalize x1.alloc (.cells #[.func (.func 48) #[] #[.pointer (some ⟨pb5, 0, none⟩)], .func (.func 49) #[] #[.pointer (some ⟨pb5, 0, none⟩)], .int .i64 0, .int .i64 15] 82) = w2 at HB2 HK2 HP2 hs2 HV4 HV5 ⊢
  have kp := HP2.out
  go_wp2_with fail
  clear kp
  refine (at_any mb 6 1 100 w2).mono ?_
  rintro e x2 ⟨pb6, rfl, hge, hlt, hc, hb⟩
  have kz : ∀ O, (x2.alloc O).cell? ⟨S, 0, none⟩ = some (.pointer (some ⟨mb, 0, none⟩)) := fun O => keepA ((hb.cell (p := ⟨S, 0, none⟩) hs2).trans HP2.out)
  have kk : ∀ O, (x2.alloc O).cell? ⟨mb, 0, none⟩ = some (.int .i64 8) := fun O => keepA ((hb.cell (p := ⟨mb, 0, none⟩) (by show mb < _; omega)).trans HK2.out)
  have hsx : S < x2.heap.size := Nat.lt_of_lt_of_le hs2 hb.size
  obtain ⟨b6, hbs6⟩ : ∃ b, b = x2.heap.size := ⟨_, rfl⟩
  have hal : Below x2.heap.size x2 (x2.alloc (.cells #[.func (.func 48) #[] #[.pointer (some ⟨pb6, 0, none⟩)], .func (.func 49) #[] #[.pointer (some ⟨pb6, 0, none⟩)], .int .i64 1, .int .i64 100] 82)) := (Below.refl _ _).alloc (Nat.le_refl _) _
  have HV6 : Hid (VarAt (x2.alloc (.cells #[.func (.func 48) #[] #[.pointer (some ⟨pb6, 0, none⟩)], .func (.func 49) #[] #[.pointer (some ⟨pb6, 0, none⟩)], .int .i64 1, .int .i64 100] 82)) b6 pb6 mb 6 1 100) := Lib.hid ⟨by rw [hbs6]; exact heap_alloc_new x2 _, by omega, by simp; omega, keepA hc⟩
  have HV4 := Lib.hid ((HV4.out.below hb).below hal)
  have HV5 := Lib.hid ((HV5.out.below hb).below hal)
  have HB3 := Lib.hid (HB2.out.trans ((hb.trans (hal.mono hb.size)).mono (by omega)))
  have HK3 := Lib.hid (kk (.cells #[.func (.func 48) #[] #[.pointer (some ⟨pb6, 0, none⟩)], .func (.func 49) #[] #[.pointer (some ⟨pb6, 0, none⟩)], .int .i64 1, .int .i64 100] 82))
  have HP3 := Lib.hid (kz (.cells #[.func (.func 48) #[] #[.pointer (some ⟨pb6, 0, none⟩)], .func (.func 49) #[] #[.pointer (some ⟨pb6, 0, none⟩)], .int .i64 1, .int .i64 100] 82))
  have hs3 : S < (x2.alloc (.cells #[.func (.func 48) #[] #[.pointer (some ⟨pb6, 0, none⟩)], .func (.func 49) #[] #[.pointer (some ⟨pb6, 0, none⟩)], .int .i64 1, .int .i64 100] 82)).heap.size := by simp; omega
  clear hb hal hge hlt hc hsx HB2 HK2 HP2 hs2 kk
  go_wp2_with fail
  rw [← hbs6]
  clear kz hbs6
  generalize x2.alloc (.cells #[.func (.func 48) #[] #[.pointer (some ⟨pb6, 0, none⟩)], .func (.func 49) #[] #[.pointer (some ⟨pb6, 0, none⟩)], .int .i64 1, .int .i64 100] 82) = w3 at HB3 HK3 HP3 hs3 HV4 HV5 HV6 ⊢
  have kp := HP3.out
  go_wp2_with fail
  clear kp
  refine (at_any mb 7 1 6 w3).mono ?_
  rintro e x3 ⟨pb7, rfl, hge, hlt, hc, hb⟩
  have kz : ∀ O, (x3.alloc O).cell? ⟨S, 0, none⟩ = some (.pointer (some ⟨mb, 0, none⟩)) := fun O => keepA ((hb.cell (p := ⟨S, 0, none⟩) hs3).trans HP3.out)
  have kk : ∀ O, (x3.alloc O).cell? ⟨mb, 0, none⟩ = some (.int .i64 8) := fun O => keepA ((hb.cell (p := ⟨mb, 0, none⟩) (by show mb < _; omega)).trans HK3.out)
  have hsx : S < x3.heap.size := Nat.lt_of_lt_of_le hs3 hb.size
  obtain ⟨b7, hbs7⟩ : ∃ b, b = x3.heap.size := ⟨_, rfl⟩
  have hal : Below x3.heap.size x3 (x3.alloc (.cells #[.func (.func 48) #[] #[.pointer (some ⟨pb7, 0, none⟩)], .func (.func 49) #[] #[.pointer (some ⟨pb7, 0, none⟩)], .int .i64 1, .int .i64 6] 82)) := (Below.refl _ _).alloc (Nat.le_refl _) _
  have HV7 : Hid (VarAt (x3.alloc (.cells #[.func (.func 48) #[] #[.pointer (some ⟨pb7, 0, none⟩)], .func (.func 49) #[] #[.pointer (some ⟨pb7, 0, none⟩)], .int .i64 1, .int .i64 6] 82)) b7 pb7 mb 7 1 6) := Lib.hid ⟨by rw [hbs7]; exact heap_alloc_new x3 _, by omega, by simp; omega, keepA hc⟩
  have HV4 := Lib.hid ((HV4.out.below hb).below hal)
  have HV5 := Lib.hid ((HV5.out.below hb).below hal)
  have HV6 := Lib.hid ((HV6.out.below hb).below hal)
  have HB4 := Lib.hid (HB3.out.trans ((hb.trans (hal.mono hb.size)).mono (by omega)))
  have HK4 := Lib.hid (kk (.cells #[.func (.func 48) #[] #[.pointer (some ⟨pb7, 0, none⟩)], .func (.func 49) #[] #[.pointer (some ⟨pb7, 0, none⟩)], .int .i64 1, .int .i64 6] 82))
  have HP4 := Lib.hid (kz (.cells #[.func (.func 48) #[] #[.pointer (some ⟨pb7, 0, none⟩)], .func (.func 49) #[] #[.pointer (some ⟨pb7, 0, none⟩)], .int .i64 1, .int .i64 6] 82))
  have hs4 : S < (x3.alloc (.cells #[.func (.func 48) #[] #[.pointer (some ⟨pb7, 0, none⟩)], .func (.func 49) #[] #[.pointer (some ⟨pb7, 0, none⟩)], .int .i64 1, .int .i64 6] 82)).heap.size := by simp; omega
  clear hb hal hge hlt hc hsx HB3 HK3 HP3 hs3 kk
  go_wp2_with fail
  rw [← hbs7]
  clear kz hbs7
  generalize x3.alloc (.cells #[.func (.func 48) #[] #[.pointer (some ⟨pb7, 0, none⟩)], .func (.func 49) #[] #[.pointer (some ⟨pb7, 0, none⟩)], .int .i64 1, .int .i64 6] 82) = w4 at HB4 HK4 HP4 hs4 HV4 HV5 HV6 HV7 ⊢
  have kp := HP4.out
  go_wp2_with fail
  clear kp
  refine (at_any mb 15 1 16 w4).mono ?_
  rintro e x4 ⟨pb8, rfl, hge, hlt, hc, hb⟩
  have kz : ∀ O, (x4.alloc O).cell? ⟨S, 0, none⟩ = some (.pointer (some ⟨mb, 0, none⟩)) := fun O => keepA ((hb.cell (p := ⟨S, 0, none⟩) hs4).trans HP4.out)
  have kk : ∀ O, (x4.alloc O).cell? ⟨mb, 0, none⟩ = some (.int .i64 8) := fun O => keepA ((hb.cell (p := ⟨mb, 0, none⟩) (by show mb < _; omega)).trans HK4.out)
  have hsx : S < x4.heap.size := Nat.lt_of_lt_of_le hs4 hb.size
  obtain ⟨b8, hbs8⟩ : ∃ b, b = x4.heap.size := ⟨_, rfl⟩
  have hal : Below x4.heap.size x4 (x4.alloc (.cells #[.func (.func 48) #[] #[.pointer (some ⟨pb8, 0, none⟩)], .func (.func 49) #[] #[.pointer (some ⟨pb8, 0, none⟩)], .int .i64 1, .int .i64 16] 82)) := (Below.refl _ _).alloc (Nat.le_refl _) _
  have HV8 : Hid (VarAt (x4.alloc (.cells #[.func (.func 48) #[] #[.pointer (some ⟨pb8, 0, none⟩)], .func (.func 49) #[] #[.pointer (some ⟨pb8, 0, none⟩)], .int .i64 1, .int .i64 16] 82)) b8 pb8 mb 15 1 16) := Lib.hid ⟨by rw [hbs8]; exact heap_alloc_new x4 _, by omega, by simp; omega, keepA hc⟩
  have HV4 := Lib.hid ((HV4.out.below hb).below hal)
  have HV5 := Lib.hid ((HV5.out.below hb).below hal)
  have HV6 := Lib.hid ((HV6.out.below hb).below hal)
  have HV7 := Lib.hid ((HV7.out.below hb).below hal)
  have HB5 := Lib.hid (HB4.out.trans ((hb.trans (hal.mono hb.size)).mono (by omega)))
  have HK5 := Lib.hid (kk (.cells #[.func (.func 48) #[] #[.pointer (some ⟨pb8, 0, none⟩)], .func (.func 49) #[] #[.pointer (some ⟨pb8, 0, none⟩)], .int .i64 1, .int .i64 16] 82))
  have HP5 := Lib.hid (kz (.cells #[.func (.func 48) #[] #[.pointer (some ⟨pb8, 0, none⟩)], .func (.func 49) #[] #[.pointer (some ⟨pb8, 0, none⟩)], .int .i64 1, .int .i64 16] 82))
  have hs5 : S < (x4.alloc (.cells #[.func (.func 48) #[] #[.pointer (some ⟨pb8, 0, none⟩)], .func (.func 49) #[] #[.pointer (some ⟨pb8, 0, none⟩)], .int .i64 1, .int .i64 16] 82)).heap.size := by simp; omega
  clear hb hal hge hlt hc hsx HB4 HK4 HP4 hs4 kk
  go_wp2_with fail
  rw [← hbs8]
  clear kz hbs8
  generalize x4.alloc (.cells #[.func (.func 48) #[] #[.pointer (some ⟨pb8, 0, none⟩)], .func (.func 49) #[] #[.pointer (some ⟨pb8, 0, none⟩)], .int .i64 1, .int .i64 16] 82) = w5 at HB5 HK5 HP5 hs5 HV4 HV5 HV6 HV7 HV8 ⊢
  have kp := HP5.out
  go_wp2_with fail
  clear kp
  refine (at_any mb 16 1 1099511627776 w5).mono ?_
  rintro e x5 ⟨pb9, rfl, hge, hlt, hc, hb⟩
  have kz : ∀ O, (x5.alloc O).cell? ⟨S, 0, none⟩ = some (.pointer (some ⟨mb, 0, none⟩)) := fun O => keepA ((hb.cell (p := ⟨S, 0, none⟩) hs5).trans HP5.out)
  have kk : ∀ O, (x5.alloc O).cell? ⟨mb, 0, none⟩ = some (.int .i64 8) := fun O => keepA ((hb.cell (p := ⟨mb, 0, none⟩) (by show mb < _; omega)).trans HK5.out)
  have hsx : S < x5.heap.size := Nat.lt_of_lt_of_le hs5 hb.size
  obtain ⟨b9, hbs9⟩ : ∃ b, b = x5.heap.size := ⟨_, rfl⟩
  have hal : Below x5.heap.size x5 (x5.alloc (.cells #[.func (.func 48) #[] #[.pointer (some ⟨pb9, 0, none⟩)], .func (.func 49) #[] #[.pointer (some ⟨pb9, 0, none⟩)], .int .i64 1, .int .i64 1099511627776] 82)) := (Below.refl _ _).alloc (Nat.le_refl _) _
  have HV9 : Hid (VarAt (x5.alloc (.cells #[.func (.func 48) #[] #[.pointer (some ⟨pb9, 0, none⟩)], .func (.func 49) #[] #[.pointer (some ⟨pb9, 0, none⟩)], .int .i64 1, .int .i64 1099511627776] 82)) b9 pb9 mb 16 1 1099511627776) := Lib.hid ⟨by rw [hbs9]; exact heap_alloc_new x5 _, by omega, by simp; omega, keepA hc⟩
  have HV4 := Lib.hid ((HV4.out.below hb).below hal)
  have HV5 := Lib.hid ((HV5.out.below hb).below hal)
  have HV6 := Lib.hid ((HV6.out.below hb).below hal)
  have HV7 := Lib.hid ((HV7.out.below hb).below hal)
  have HV8 := Lib.hid ((HV8.out.below hb).below hal)
  have HB6 := Lib.hid (HB5.out.trans ((hb.trans (hal.mono hb.size)).mono (by omega)))
  have HK6 := Lib.hid (kk (.cells #[.func (.func 48) #[] #[.pointer (some ⟨pb9, 0, none⟩)], .func (.func 49) #[] #[.pointer (some ⟨pb9, 0, none⟩)], .int .i64 1, .int .i64 1099511627776] 82))
  have HP6 := Lib.hid (kz (.cells #[.func (.func 48) #[] #[.pointer (some ⟨pb9, 0, none⟩)], .func (.func 49) #[] #[.pointer (some ⟨pb9, 0, none⟩)], .int .i64 1, .int .i64 1099511627776] 82))
  have hs6 : S < (x5.alloc (.cells #[.func (.func 48) #[] #[.pointer (some ⟨pb9, 0, none⟩)], .func (.func 49) #[] #[.pointer (some ⟨pb9, 0, none⟩)], .int .i64 1, .int .i64 1099511627776] 82)).heap.size := by simp; omega
  clear hb hal hge hlt hc hsx HB5 HK5 HP5 hs5
  go_wp2_with fail
  rw [← hbs9]
  clear kz kk 
  have hz6 : (x5.alloc (.cells #[.func (.func 48) #[] #[.pointer (some ⟨pb9, 0, none⟩)], .func (.func 49) #[] #[.pointer (some ⟨pb9, 0, none⟩)], .int .i64 1, .int .i64 1099511627776] 82)).heap.size = b9 + 1 := by have := hs6; rw [hbs9]; simp
  clear hbs9
  generalize x5.alloc (.cells #[.func (.func 48) #[] #[.pointer (some ⟨pb9, 0, none⟩)], .func (.func 49) #[] #[.pointer (some ⟨pb9, 0, none⟩)], .int .i64 1, .int .i64 1099511627776] 82) = w6 at HB6 HK6 HP6 hs6 hz6 HV4 HV5 HV6 HV7 HV8 HV9 ⊢
  have hrow := heap_alloc_new w6 (.cells #[.func (.func 45) #[] #[.pointer (some ⟨S, 0, none⟩)], .func (.func 46) #[] #[.pointer (some ⟨S, 0, none⟩)], .int .i64 0, .int .i64 999] 82)
  rw [hz6] at hrow
  have hal : Below w6.heap.size w6 (w6.alloc (.cells #[.func (.func 45) #[] #[.pointer (some ⟨S, 0, none⟩)], .func (.func 46) #[] #[.pointer (some ⟨S, 0, none⟩)], .int .i64 0, .int .i64 999] 82)) := (Below.refl _ _).alloc (Nat.le_refl _) _
  have HV4 := Lib.hid (HV4.out.below hal)
  have HV8 := Lib.hid (HV8.out.below hal)
  have HV9 := Lib.hid (HV9.out.below hal)
  have HE7 := Lib.hid hrow
  have HB7 := Lib.hid (HB6.out.trans (hal.mono (by omega)))
  have HP7 := Lib.hid (keepA (o := (.cells #[.func (.func 45) #[] #[.pointer (some ⟨S, 0, none⟩)], .func (.func 46) #[] #[.pointer (some ⟨S, 0, none⟩)], .int .i64 0, .int .i64 999] 82)) HP6.out)
  have hs7 : S < (w6.alloc (.cells #[.func (.func 45) #[] #[.pointer (some ⟨S, 0, none⟩)], .func (.func 46) #[] #[.pointer (some ⟨S, 0, none⟩)], .int .i64 0, .int .i64 999] 82)).heap.size := by simp; omega
  clear hrow hal HB6 HP6 HK6 HV5 HV6 HV7
  generalize w6.alloc (.cells #[.func (.func 45) #[] #[.pointer (some ⟨S, 0, none⟩)], .func (.func 46) #[] #[.pointer (some ⟨S, 0, none⟩)], .int .i64 0, .int .i64 999] 82) = w7 at HV4 HV8 HV9 HE7 HB7 HP7 hs7 ⊢
  have hd : Below w7.heap.size w7 w7.drew := (Below.refl _ _).drew
  have HV4 := Lib.hid (HV4.out.below hd)
  have HV8 := Lib.hid (HV8.out.below hd)
  have HV9 := Lib.hid (HV9.out.below hd)
  have HE7 : Hid (w7.drew.heap[b9 + 1]? = some (.cells #[.func (.func 45) #[] #[.pointer (some ⟨S, 0, none⟩)], .func (.func 46) #[] #[.pointer (some ⟨S, 0, none⟩)], .int .i64 0, .int .i64 999] 82 (0, 0))) := HE7
  have HP7 : Hid (w7.drew.cell? ⟨S, 0, none⟩ = some (.pointer (some ⟨mb, 0, none⟩))) := HP7
  have HB7 := Lib.hid HB7.out.drew
  have hs7 : S < w7.drew.heap.size := hs7
  clear hd
  have f7_b4_0 : w7.drew.cell? ⟨b4, 0, none⟩ = some (.func (.func 48) #[] #[.pointer (some ⟨pb4, 0, none⟩)]) := cellb HV4.out.blk rfl
  have f7_b4_1 : w7.drew.cell? ⟨b4, 1, none⟩ = some (.func (.func 49) #[] #[.pointer (some ⟨pb4, 0, none⟩)]) := cellb HV4.out.blk rfl
  have f7_b4_2 : w7.drew.cell? ⟨b4, 2, none⟩ = some (.int .i64 0) := cellb HV4.out.blk rfl
  have f7_b4_3 : w7.drew.cell? ⟨b4, 3, none⟩ = some (.int .i64 1099511627776) := cellb HV4.out.blk rfl
  have f7_b8_0 : w7.drew.cell? ⟨b8, 0, none⟩ = some (.func (.func 48) #[] #[.pointer (some ⟨pb8, 0, none⟩)]) := cellb HV8.out.blk rfl
  have f7_b8_1 : w7.drew.cell? ⟨b8, 1, none⟩ = some (.func (.func 49) #[] #[.pointer (some ⟨pb8, 0, none⟩)]) := cellb HV8.out.blk rfl
  have f7_b8_2 : w7.drew.cell? ⟨b8, 2, none⟩ = some (.int .i64 1) := cellb HV8.out.blk rfl
  have f7_b8_3 : w7.drew.cell? ⟨b8, 3, none⟩ = some (.int .i64 16) := cellb HV8.out.blk rfl
  have f7_b9_0 : w7.drew.cell? ⟨b9, 0, none⟩ = some (.func (.func 48) #[] #[.pointer (some ⟨pb9, 0, none⟩)]) := cellb HV9.out.blk rfl
  have f7_b9_1 : w7.drew.cell? ⟨b9, 1, none⟩ = some (.func (.func 49) #[] #[.pointer (some ⟨pb9, 0, none⟩)]) := cellb HV9.out.blk rfl
  have f7_b9_2 : w7.drew.cell? ⟨b9, 2, none⟩ = some (.int .i64 1) := cellb HV9.out.blk rfl
  have f7_b9_3 : w7.drew.cell? ⟨b9, 3, none⟩ = some (.int .i64 1099511627776) := cellb HV9.out.blk rfl
  have f7_b9e_0 : w7.drew.cell? ⟨b9 + 1, 0, none⟩ = some (.func (.func 45) #[] #[.pointer (some ⟨S, 0, none⟩)]) := cellb HE7.out rfl
  have f7_b9e_1 : w7.drew.cell? ⟨b9 + 1, 1, none⟩ = some (.func (.func 46) #[] #[.pointer (some ⟨S, 0, none⟩)]) := cellb HE7.out rfl
  have f7_b9e_2 : w7.drew.cell? ⟨b9 + 1, 2, none⟩ = some (.int .i64 0) := cellb HE7.out rfl
  have f7_b9e_3 : w7.drew.cell? ⟨b9 + 1, 3, none⟩ = some (.int .i64 999) := cellb HE7.out rfl
  have f7_p : w7.drew.cell? ⟨S, 0, none⟩ = some (.pointer (some ⟨mb, 0, none⟩)) := HP7.out
  refine wp_region_noPanic ?_
  refine wp_region_held_drew (S := fun w' => w'.cell? ⟨b4, 0, none⟩ = some (.func (.func 48) #[] #[.pointer (some ⟨pb4, 0, none⟩)]) ∧ w'.cell? ⟨b4, 1, none⟩ = some (.func (.func 49) #[] #[.pointer (some ⟨pb4, 0, none⟩)]) ∧ w'.cell? ⟨b4, 2, none⟩ = some (.int .i64 0) ∧ w'.cell? ⟨b4, 3, none⟩ = some (.int .i64 1099511627776) ∧ w'.cell? ⟨b8, 0, none⟩ = some (.func (.func 48) #[] #[.pointer (some ⟨pb8, 0, none⟩)]) ∧ w'.cell? ⟨b8, 1, none⟩ = some (.func (.func 49) #[] #[.pointer (some ⟨pb8, 0, none⟩)]) ∧ w'.cell? ⟨b8, 2, none⟩ = some (.int .i64 1) ∧ w'.cell? ⟨b8, 3, none⟩ = some (.int .i64 16) ∧ w'.cell? ⟨b9, 0, none⟩ = some (.func (.func 48) #[] #[.pointer (some ⟨pb9, 0, none⟩)]) ∧ w'.cell? ⟨b9, 1, none⟩ = some (.func (.func 49) #[] #[.pointer (some ⟨pb9, 0, none⟩)]) ∧ w'.cell? ⟨b9, 2, none⟩ = some (.int .i64 1) ∧ w'.cell? ⟨b9, 3, none⟩ = some (.int .i64 1099511627776) ∧ w'.cell? ⟨b9 + 1, 0, none⟩ = some (.func (.func 45) #[] #[.pointer (some ⟨S, 0, none⟩)]) ∧ w'.cell? ⟨b9 + 1, 1, none⟩ = some (.func (.func 46) #[] #[.pointer (some ⟨S, 0, none⟩)]) ∧ w'.cell? ⟨b9 + 1, 2, none⟩ = some (.int .i64 0) ∧ w'.cell? ⟨b9 + 1, 3, none⟩ = some (.int .i64 999) ∧ w'.cell? ⟨S, 0, none⟩ = some (.pointer (some ⟨mb, 0, none⟩))) (by kernel_rfl) ?_ (fun hHeld => ?_)
  · try dsimp only
    (refine ⟨?_, ?_, ?_, ?_, ?_, ?_, ?_, ?_, ?_, ?_, ?_, ?_, ?_, ?_, ?_, ?_, ?_⟩ <;> (first | with_reducible assumption))
  refine wpAnyH_take (i := 0) (v := ?_) (by (simp only [List.getElem?_toArray, List.getElem?_cons_zero]; rfl)) (by kernel_rfl) (by kernel_rfl) (by kernel_rfl) (fun _ _ _ h => h) (Or.inl ⟨by rfl, ?_⟩) (by assumption) ?_
  rotate_left
  · (intro w hSw; (try dsimp only at hSw); go_simp; try with_reducible rfl)
  try simp only [Act.put, List.setIfInBounds_toArray, List.set_cons_zero, List.set_cons_succ]
  refine wpAnyH_take (i := 1) (v := ?_) (by (simp only [List.getElem?_toArray, List.getElem?_cons_succ, List.getElem?_cons_zero]; rfl)) (by kernel_rfl) (by kernel_rfl) (by kernel_rfl) (fun _ _ _ h => h) (Or.inl ⟨by rfl, ?_⟩) (by assumption) ?_
  rotate_left
  · (intro w hSw; (try dsimp only at hSw); go_simp; try with_reducible rfl)
  try simp only [Act.put, List.setIfInBounds_toArray, List.set_cons_zero, List.set_cons_succ]
  refine wpAnyH_take (i := 2) (v := ?_) (by (simp only [List.getElem?_toArray, List.getElem?_cons_succ, List.getElem?_cons_zero]; rfl)) (by kernel_rfl) (by kernel_rfl) (by kernel_rfl) (fun _ _ _ h => h) (Or.inl ⟨by rfl, ?_⟩) (by assumption) ?_
  rotate_left
  · (intro w hSw; (try dsimp only at hSw); go_simp; try with_reducible rfl)
  try simp only [Act.put, List.setIfInBounds_toArray, List.set_cons_zero, List.set_cons_succ]
  refine wpAnyH_take (i := 3) (v := ?_) (by (simp only [List.getElem?_toArray, List.getElem?_cons_succ, List.getElem?_cons_zero]; rfl)) (by kernel_rfl) (by kernel_rfl) (by kernel_rfl) (fun _ _ _ h => h) (Or.inl ⟨by rfl, ?_⟩) (by assumption) ?_
  rotate_left
  · (intro w hSw; (try dsimp only at hSw); go_simp; try with_reducible rfl)
  try simp only [Act.put, List.setIfInBounds_toArray, List.set_cons_zero, List.set_cons_succ]
  refine wpAnyH_take (i := 4) (v := ?_) (by (simp only [List.getElem?_toArray, List.getElem?_cons_succ, List.getElem?_cons_zero]; rfl)) (by kernel_rfl) (by kernel_rfl) (by kernel_rfl) (fun _ _ _ h => h) (Or.inl ⟨by rfl, ?_⟩) (by assumption) ?_
  rotate_left
  · (intro w hSw; (try dsimp only at hSw); go_simp; try with_reducible rfl)
  try simp only [Act.put, List.setIfInBounds_toArray, List.set_cons_zero, List.set_cons_succ]
  refine wpAnyH_take (i := 5) (v := ?_) (by (simp only [List.getElem?_toArray, List.getElem?_cons_succ, List.getElem?_cons_zero]; rfl)) (by kernel_rfl) (by kernel_rfl) (by kernel_rfl) (fun _ _ _ h => h) (Or.inl ⟨by rfl, ?_⟩) (by assumption) ?_
  rotate_left
  · (intro w hSw; (try dsimp only at hSw); go_simp; try with_reducible rfl)
  try simp only [Act.put, List.setIfInBounds_toArray, List.set_cons_zero, List.set_cons_succ]
  refine wpAnyH_take (i := 6) (v := ?_) (by (simp only [List.getElem?_toArray, List.getElem?_cons_succ, List.getElem?_cons_zero]; rfl)) (by kernel_rfl) (by kernel_rfl) (by kernel_rfl) (fun _ _ _ h => h) (Or.inl ⟨by rfl, ?_⟩) (by assumption) ?_
  rotate_left
  · (intro w hSw; (try dsimp only at hSw); go_simp; try with_reducible rfl)
  try simp only [Act.put, List.setIfInBounds_toArray, List.set_cons_zero, List.set_cons_succ]
  refine wpAnyH_take (i := 7) (v := ?_) (by (simp only [List.getElem?_toArray, List.getElem?_cons_succ, List.getElem?_cons_zero]; rfl)) (by kernel_rfl) (by kernel_rfl) (by kernel_rfl) (fun _ _ _ h => h) (Or.inl ⟨by rfl, ?_⟩) (by assumption) ?_
  rotate_left
  · (intro w hSw; (try dsimp only at hSw); go_simp; try with_reducible rfl)
  try simp only [Act.put, List.setIfInBounds_toArray, List.set_cons_zero, List.set_cons_succ]
  refine wpAnyH_take (i := 9) (v := ?_) (by (simp only [List.getElem?_toArray, List.getElem?_cons_succ, List.getElem?_cons_zero]; rfl)) (by kernel_rfl) (by kernel_rfl) (by kernel_rfl) (fun _ _ _ h => h) (Or.inl ⟨by rfl, ?_⟩) (by assumption) ?_
  rotate_left
  · (intro w hSw; (try dsimp only at hSw); go_simp; try with_reducible rfl)
  try simp only [Act.put, List.setIfInBounds_toArray, List.set_cons_zero, List.set_cons_succ]
  refine wpAnyH_take (i := 10) (v := ?_) (by (simp only [List.getElem?_toArray, List.getElem?_cons_succ, List.getElem?_cons_zero]; rfl)) (by kernel_rfl) (by kernel_rfl) (by kernel_rfl) (fun _ _ _ h => h) (Or.inl ⟨by rfl, ?_⟩) (by assumption) ?_
  rotate_left
  · (intro w hSw; (try dsimp only at hSw); go_simp; try with_reducible rfl)
  try simp only [Act.put, List.setIfInBounds_toArray, List.set_cons_zero, List.set_cons_succ]
  refine wpAnyH_take (i := 11) (v := ?_) (by (simp only [List.getElem?_toArray, List.getElem?_cons_succ, List.getElem?_cons_zero]; rfl)) (by kernel_rfl) (by kernel_rfl) (by kernel_rfl) (fun _ _ _ h => h) (Or.inl ⟨by rfl, ?_⟩) (by assumption) ?_
  rotate_left
  · (intro w hSw; (try dsimp only at hSw); go_simp; try with_reducible rfl)
  try simp only [Act.put, List.setIfInBounds_toArray, List.set_cons_zero, List.set_cons_succ]
  refine wpAnyH_take (i := 12) (v := ?_) (by (simp only [List.getElem?_toArray, List.getElem?_cons_succ, List.getElem?_cons_zero]; rfl)) (by kernel_rfl) (by kernel_rfl) (by kernel_rfl) (fun _ _ _ h => h) (Or.inl ⟨by rfl, ?_⟩) (by assumption) ?_
  rotate_left
  · (intro w hSw; (try dsimp only at hSw); go_simp; try with_reducible rfl)
  try simp only [Act.put, List.setIfInBounds_toArray, List.set_cons_zero, List.set_cons_succ]
  refine wpAnyH_ready (rs := [8]) (by kernel_rfl) (by simp) ?_
  refine AllReadyH.cons (by (simp only [List.getElem?_toArray, List.getElem?_cons_succ, List.getElem?_cons_zero]; rfl)) (fun K hK => ?_) AllReadyH.nil
  go_simp
  refine (at_any mb 19 0 100 w7.drew).mono ?_
  rintro e w8 ⟨pb19, rfl, ge8, lt8, pt8, hb⟩
  have HV4 := Lib.hid (HV4.out.below hb)
  have HV8 := Lib.hid (HV8.out.below hb)
  have HV9 := Lib.hid (HV9.out.below hb)
  have HE8 := Lib.hid ((hb.block (b9 + 1) (ltb HE7.out)).trans HE7.out)
  have HP8 := Lib.hid ((hb.cell (p := ⟨S, 0, none⟩) hs7).trans HP7.out)
  have HB8 := Lib.hid (HB7.out.trans (hb.mono (by omega)))
  have hs8 : S < w8.heap.size := Nat.lt_of_lt_of_le hs7 hb.size
  have f8_b4_0 : w8.cell? ⟨b4, 0, none⟩ = some (.func (.func 48) #[] #[.pointer (some ⟨pb4, 0, none⟩)]) := cellb HV4.out.blk rfl
  have f8_b4_1 : w8.cell? ⟨b4, 1, none⟩ = some (.func (.func 49) #[] #[.pointer (some ⟨pb4, 0, none⟩)]) := cellb HV4.out.blk rfl
  have f8_b4_2 : w8.cell? ⟨b4, 2, none⟩ = some (.int .i64 0) := cellb HV4.out.blk rfl
  have f8_b4_3 : w8.cell? ⟨b4, 3, none⟩ = some (.int .i64 1099511627776) := cellb HV4.out.blk rfl
  have f8_b8_0 : w8.cell? ⟨b8, 0, none⟩ = some (.func (.func 48) #[] #[.pointer (some ⟨pb8, 0, none⟩)]) := cellb HV8.out.blk rfl
  have f8_b8_1 : w8.cell? ⟨b8, 1, none⟩ = some (.func (.func 49) #[] #[.pointer (some ⟨pb8, 0, none⟩)]) := cellb HV8.out.blk rfl
  have f8_b8_2 : w8.cell? ⟨b8, 2, none⟩ = some (.int .i64 1) := cellb HV8.out.blk rfl
  have f8_b8_3 : w8.cell? ⟨b8, 3, none⟩ = some (.int .i64 16) := cellb HV8.out.blk rfl
  have f8_b9_0 : w8.cell? ⟨b9, 0, none⟩ = some (.func (.func 48) #[] #[.pointer (some ⟨pb9, 0, none⟩)]) := cellb HV9.out.blk rfl
  have f8_b9_1 : w8.cell? ⟨b9, 1, none⟩ = some (.func (.func 49) #[] #[.pointer (some ⟨pb9, 0, none⟩)]) := cellb HV9.out.blk rfl
  have f8_b9_2 : w8.cell? ⟨b9, 2, none⟩ = some (.int .i64 1) := cellb HV9.out.blk rfl
  have f8_b9_3 : w8.cell? ⟨b9, 3, none⟩ = some (.int .i64 1099511627776) := cellb HV9.out.blk rfl
  have f8_b9e_0 : w8.cell? ⟨b9 + 1, 0, none⟩ = some (.func (.func 45) #[] #[.pointer (some ⟨S, 0, none⟩)]) := cellb HE8.out rfl
  have f8_b9e_1 : w8.cell? ⟨b9 + 1, 1, none⟩ = some (.func (.func 46) #[] #[.pointer (some ⟨S, 0, none⟩)]) := cellb HE8.out rfl
  have f8_b9e_2 : w8.cell? ⟨b9 + 1, 2, none⟩ = some (.int .i64 0) := cellb HE8.out rfl
  have f8_b9e_3 : w8.cell? ⟨b9 + 1, 3, none⟩ = some (.int .i64 999) := cellb HE8.out rfl
  have f8_p : w8.cell? ⟨S, 0, none⟩ = some (.pointer (some ⟨mb, 0, none⟩)) := HP8.out
  have gt8 : mb < pb19 := by omega
  clear hb ge8
  refine hK.out _ _ ?_ (fun hHeld => ?_)
  · try dsimp only
    (refine ⟨?_, ?_, ?_, ?_, ?_, ?_, ?_, ?_, ?_, ?_, ?_, ?_, ?_, ?_, ?_, ?_, ?_⟩ <;> (first | with_reducible assumption))
  clear hK K
  try simp only [Act.put, List.setIfInBounds_toArray, List.set_cons_zero, List.set_cons_succ]
  refine wpAnyH_ready (rs := [13]) (by kernel_rfl) (by simp) ?_
  refine AllReadyH.cons (by (simp only [List.getElem?_toArray, List.getElem?_cons_succ, List.getElem?_cons_zero]; rfl)) (fun K hK => ?_) AllReadyH.nil
  go_simp
  refine (at_any mb 20 0 100 w8).mono ?_
  rintro e w9 ⟨pb20, rfl, ge9, lt9, pt9, hb⟩
  have HV4 := Lib.hid (HV4.out.below hb)
  have HV8 := Lib.hid (HV8.out.below hb)
  have HV9 := Lib.hid (HV9.out.below hb)
  have HE9 := Lib.hid ((hb.block (b9 + 1) (ltb HE8.out)).trans HE8.out)
  have HP9 := Lib.hid ((hb.cell (p := ⟨S, 0, none⟩) hs8).trans HP8.out)
  have HB9 := Lib.hid (HB8.out.trans (hb.mono (by omega)))
  have hs9 : S < w9.heap.size := Nat.lt_of_lt_of_le hs8 hb.size
  have pt8a : w9.cell? ⟨pb19, 0, none⟩ = some (.pointer (some ⟨mb, 19, none⟩)) := (hb.cell (p := ⟨pb19, 0, none⟩) lt8).trans pt8
  have lt8a : pb19 < w9.heap.size := Nat.lt_of_lt_of_le lt8 hb.size
  have f9_b4_0 : w9.cell? ⟨b4, 0, none⟩ = some (.func (.func 48) #[] #[.pointer (some ⟨pb4, 0, none⟩)]) := cellb HV4.out.blk rfl
  have f9_b4_1 : w9.cell? ⟨b4, 1, none⟩ = some (.func (.func 49) #[] #[.pointer (some ⟨pb4, 0, none⟩)]) := cellb HV4.out.blk rfl
  have f9_b4_2 : w9.cell? ⟨b4, 2, none⟩ = some (.int .i64 0) := cellb HV4.out.blk rfl
  have f9_b4_3 : w9.cell? ⟨b4, 3, none⟩ = some (.int .i64 1099511627776) := cellb HV4.out.blk rfl
  have f9_b8_0 : w9.cell? ⟨b8, 0, none⟩ = some (.func (.func 48) #[] #[.pointer (some ⟨pb8, 0, none⟩)]) := cellb HV8.out.blk rfl
  have f9_b8_1 : w9.cell? ⟨b8, 1, none⟩ = some (.func (.func 49) #[] #[.pointer (some ⟨pb8, 0, none⟩)]) := cellb HV8.out.blk rfl
  have f9_b8_2 : w9.cell? ⟨b8, 2, none⟩ = some (.int .i64 1) := cellb HV8.out.blk rfl
  have f9_b8_3 : w9.cell? ⟨b8, 3, none⟩ = some (.int .i64 16) := cellb HV8.out.blk rfl
  have f9_b9_0 : w9.cell? ⟨b9, 0, none⟩ = some (.func (.func 48) #[] #[.pointer (some ⟨pb9, 0, none⟩)]) := cellb HV9.out.blk rfl
  have f9_b9_1 : w9.cell? ⟨b9, 1, none⟩ = some (.func (.func 49) #[] #[.pointer (some ⟨pb9, 0, none⟩)]) := cellb HV9.out.blk rfl
  have f9_b9_2 : w9.cell? ⟨b9, 2, none⟩ = some (.int .i64 1) := cellb HV9.out.blk rfl
  have f9_b9_3 : w9.cell? ⟨b9, 3, none⟩ = some (.int .i64 1099511627776) := cellb HV9.out.blk rfl
  have f9_b9e_0 : w9.cell? ⟨b9 + 1, 0, none⟩ = some (.func (.func 45) #[] #[.pointer (some ⟨S, 0, none⟩)]) := cellb HE9.out rfl
  have f9_b9e_1 : w9.cell? ⟨b9 + 1, 1, none⟩ = some (.func (.func 46) #[] #[.pointer (some ⟨S, 0, none⟩)]) := cellb HE9.out rfl
  have f9_b9e_2 : w9.cell? ⟨b9 + 1, 2, none⟩ = some (.int .i64 0) := cellb HE9.out rfl
  have f9_b9e_3 : w9.cell? ⟨b9 + 1, 3, none⟩ = some (.int .i64 999) := cellb HE9.out rfl
  have f9_p : w9.cell? ⟨S, 0, none⟩ = some (.pointer (some ⟨mb, 0, none⟩)) := HP9.out
  have gt9 : mb < pb20 := by omega
  clear hb ge9
  refine hK.out _ _ ?_ (fun hHeld => ?_)
  · try dsimp only
    (refine ⟨?_, ?_, ?_, ?_, ?_, ?_, ?_, ?_, ?_, ?_, ?_, ?_, ?_, ?_, ?_, ?_, ?_⟩ <;> (first | with_reducible assumption))
  clear hK K
  try simp only [Act.put, List.setIfInBounds_toArray, List.set_cons_zero, List.set_cons_succ]
  refine wpAnyH_ready (rs := [14]) (by kernel_rfl) (by simp) ?_
  refine AllReadyH.cons (by (simp only [List.getElem?_toArray, List.getElem?_cons_succ, List.getElem?_cons_zero]; rfl)) (fun K hK => ?_) AllReadyH.nil
  go_simp
  have hrow := heap_alloc_new w9 (.cells #[.func (.func 48) #[] #[.pointer (some ⟨pb4, 0, none⟩)], .func (.func 49) #[] #[.pointer (some ⟨pb4, 0, none⟩)], .int .i64 0, .int .i64 1099511627776, .func (.func 48) #[] #[.pointer (some ⟨pb8, 0, none⟩)], .func (.func 49) #[] #[.pointer (some ⟨pb8, 0, none⟩)], .int .i64 1, .int .i64 16, .func (.func 48) #[] #[.pointer (some ⟨pb9, 0, none⟩)], .func (.func 49) #[] #[.pointer (some ⟨pb9, 0, none⟩)], .int .i64 1, .int .i64 1099511627776, .func (.func 45) #[] #[.pointer (some ⟨S, 0, none⟩)], .func (.func 46) #[] #[.pointer (some ⟨S, 0, none⟩)], .int .i64 0, .int .i64 999, .func (.func 48) #[] #[.pointer (some ⟨pb19, 0, none⟩)], .func (.func 49) #[] #[.pointer (some ⟨pb19, 0, none⟩)], .int .i64 0, .int .i64 100, .func (.func 48) #[] #[.pointer (some ⟨pb20, 0, none⟩)], .func (.func 49) #[] #[.pointer (some ⟨pb20, 0, none⟩)], .int .i64 0, .int .i64 100] 82)
  have hal : Below w9.heap.size w9 (w9.alloc (.cells #[.func (.func 48) #[] #[.pointer (some ⟨pb4, 0, none⟩)], .func (.func 49) #[] #[.pointer (some ⟨pb4, 0, none⟩)], .int .i64 0, .int .i64 1099511627776, .func (.func 48) #[] #[.pointer (some ⟨pb8, 0, none⟩)], .func (.func 49) #[] #[.pointer (some ⟨pb8, 0, none⟩)], .int .i64 1, .int .i64 16, .func (.func 48) #[] #[.pointer (some ⟨pb9, 0, none⟩)], .func (.func 49) #[] #[.pointer (some ⟨pb9, 0, none⟩)], .int .i64 1, .int .i64 1099511627776, .func (.func 45) #[] #[.pointer (some ⟨S, 0, none⟩)], .func (.func 46) #[] #[.pointer (some ⟨S, 0, none⟩)], .int .i64 0, .int .i64 999, .func (.func 48) #[] #[.pointer (some ⟨pb19, 0, none⟩)], .func (.func 49) #[] #[.pointer (some ⟨pb19, 0, none⟩)], .int .i64 0, .int .i64 100, .func (.func 48) #[] #[.pointer (some ⟨pb20, 0, none⟩)], .func (.func 49) #[] #[.pointer (some ⟨pb20, 0, none⟩)], .int .i64 0, .int .i64 100] 82)) := (Below.refl _ _).alloc (Nat.le_refl _) _
  obtain ⟨R, hR⟩ : ∃ R, R = w9.heap.size := ⟨_, rfl⟩
  have hmR : mb < R := by omega
  rw [← hR] at hrow ⊢
  have HV4 := Lib.hid (HV4.out.below hal)
  have HV8 := Lib.hid (HV8.out.below hal)
  have HV9 := Lib.hid (HV9.out.below hal)
  have HP10 := Lib.hid (keepA (o := (.cells #[.func (.func 48) #[] #[.pointer (some ⟨pb4, 0, none⟩)], .func (.func 49) #[] #[.pointer (some ⟨pb4, 0, none⟩)], .int .i64 0, .int .i64 1099511627776, .func (.func 48) #[] #[.pointer (some ⟨pb8, 0, none⟩)], .func (.func 49) #[] #[.pointer (some ⟨pb8, 0, none⟩)], .int .i64 1, .int .i64 16, .func (.func 48) #[] #[.pointer (some ⟨pb9, 0, none⟩)], .func (.func 49) #[] #[.pointer (some ⟨pb9, 0, none⟩)], .int .i64 1, .int .i64 1099511627776, .func (.func 45) #[] #[.pointer (some ⟨S, 0, none⟩)], .func (.func 46) #[] #[.pointer (some ⟨S, 0, none⟩)], .int .i64 0, .int .i64 999, .func (.func 48) #[] #[.pointer (some ⟨pb19, 0, none⟩)], .func (.func 49) #[] #[.pointer (some ⟨pb19, 0, none⟩)], .int .i64 0, .int .i64 100, .func (.func 48) #[] #[.pointer (some ⟨pb20, 0, none⟩)], .func (.func 49) #[] #[.pointer (some ⟨pb20, 0, none⟩)], .int .i64 0, .int .i64 100] 82)) HP9.out)
  have HE10 := Lib.hid ((hal.block (b9 + 1) (ltb HE9.out)).trans HE9.out)
  have HR10 := Lib.hid hrow
  have HB10 := Lib.hid (HB9.out.trans (hal.mono (by omega)))
  have lt8b : pb19 < (w9.alloc (.cells #[.func (.func 48) #[] #[.pointer (some ⟨pb4, 0, none⟩)], .func (.func 49) #[] #[.pointer (some ⟨pb4, 0, none⟩)], .int .i64 0, .int .i64 1099511627776, .func (.func 48) #[] #[.pointer (some ⟨pb8, 0, none⟩)], .func (.func 49) #[] #[.pointer (some ⟨pb8, 0, none⟩)], .int .i64 1, .int .i64 16, .func (.func 48) #[] #[.pointer (some ⟨pb9, 0, none⟩)], .func (.func 49) #[] #[.pointer (some ⟨pb9, 0, none⟩)], .int .i64 1, .int .i64 1099511627776, .func (.func 45) #[] #[.pointer (some ⟨S, 0, none⟩)], .func (.func 46) #[] #[.pointer (some ⟨S, 0, none⟩)], .int .i64 0, .int .i64 999, .func (.func 48) #[] #[.pointer (some ⟨pb19, 0, none⟩)], .func (.func 49) #[] #[.pointer (some ⟨pb19, 0, none⟩)], .int .i64 0, .int .i64 100, .func (.func 48) #[] #[.pointer (some ⟨pb20, 0, none⟩)], .func (.func 49) #[] #[.pointer (some ⟨pb20, 0, none⟩)], .int .i64 0, .int .i64 100] 82)).heap.size := by simp; omega
  have lt9b : pb20 < (w9.alloc (.cells #[.func (.func 48) #[] #[.pointer (some ⟨pb4, 0, none⟩)], .func (.func 49) #[] #[.pointer (some ⟨pb4, 0, none⟩)], .int .i64 0, .int .i64 1099511627776, .func (.func 48) #[] #[.pointer (some ⟨pb8, 0, none⟩)], .func (.func 49) #[] #[.pointer (some ⟨pb8, 0, none⟩)], .int .i64 1, .int .i64 16, .func (.func 48) #[] #[.pointer (some ⟨pb9, 0, none⟩)], .func (.func 49) #[] #[.pointer (some ⟨pb9, 0, none⟩)], .int .i64 1, .int .i64 1099511627776, .func (.func 45) #[] #[.pointer (some ⟨S, 0, none⟩)], .func (.func 46) #[] #[.pointer (some ⟨S, 0, none⟩)], .int .i64 0, .int .i64 999, .func (.func 48) #[] #[.pointer (some ⟨pb19, 0, none⟩)], .func (.func 49) #[] #[.pointer (some ⟨pb19, 0, none⟩)], .int .i64 0, .int .i64 100, .func (.func 48) #[] #[.pointer (some ⟨pb20, 0, none⟩)], .func (.func 49) #[] #[.pointer (some ⟨pb20, 0, none⟩)], .int .i64 0, .int .i64 100] 82)).heap.size := by simp; omega
  have pt8b := keepA (o := (.cells #[.func (.func 48) #[] #[.pointer (some ⟨pb4, 0, none⟩)], .func (.func 49) #[] #[.pointer (some ⟨pb4, 0, none⟩)], .int .i64 0, .int .i64 1099511627776, .func (.func 48) #[] #[.pointer (some ⟨pb8, 0, none⟩)], .func (.func 49) #[] #[.pointer (some ⟨pb8, 0, none⟩)], .int .i64 1, .int .i64 16, .func (.func 48) #[] #[.pointer (some ⟨pb9, 0, none⟩)], .func (.func 49) #[] #[.pointer (some ⟨pb9, 0, none⟩)], .int .i64 1, .int .i64 1099511627776, .func (.func 45) #[] #[.pointer (some ⟨S, 0, none⟩)], .func (.func 46) #[] #[.pointer (some ⟨S, 0, none⟩)], .int .i64 0, .int .i64 999, .func (.func 48) #[] #[.pointer (some ⟨pb19, 0, none⟩)], .func (.func 49) #[] #[.pointer (some ⟨pb19, 0, none⟩)], .int .i64 0, .int .i64 100, .func (.func 48) #[] #[.pointer (some ⟨pb20, 0, none⟩)], .func (.func 49) #[] #[.pointer (some ⟨pb20, 0, none⟩)], .int .i64 0, .int .i64 100] 82)) pt8a
  have pt9b := keepA (o := (.cells #[.func (.func 48) #[] #[.pointer (some ⟨pb4, 0, none⟩)], .func (.func 49) #[] #[.pointer (some ⟨pb4, 0, none⟩)], .int .i64 0, .int .i64 1099511627776, .func (.func 48) #[] #[.pointer (some ⟨pb8, 0, none⟩)], .func (.func 49) #[] #[.pointer (some ⟨pb8, 0, none⟩)], .int .i64 1, .int .i64 16, .func (.func 48) #[] #[.pointer (some ⟨pb9, 0, none⟩)], .func (.func 49) #[] #[.pointer (some ⟨pb9, 0, none⟩)], .int .i64 1, .int .i64 1099511627776, .func (.func 45) #[] #[.pointer (some ⟨S, 0, none⟩)], .func (.func 46) #[] #[.pointer (some ⟨S, 0, none⟩)], .int .i64 0, .int .i64 999, .func (.func 48) #[] #[.pointer (some ⟨pb19, 0, none⟩)], .func (.func 49) #[] #[.pointer (some ⟨pb19, 0, none⟩)], .int .i64 0, .int .i64 100, .func (.func 48) #[] #[.pointer (some ⟨pb20, 0, none⟩)], .func (.func 49) #[] #[.pointer (some ⟨pb20, 0, none⟩)], .int .i64 0, .int .i64 100] 82)) pt9
  have hs10 : S < (w9.alloc (.cells #[.func (.func 48) #[] #[.pointer (some ⟨pb4, 0, none⟩)], .func (.func 49) #[] #[.pointer (some ⟨pb4, 0, none⟩)], .int .i64 0, .int .i64 1099511627776, .func (.func 48) #[] #[.pointer (some ⟨pb8, 0, none⟩)], .func (.func 49) #[] #[.pointer (some ⟨pb8, 0, none⟩)], .int .i64 1, .int .i64 16, .func (.func 48) #[] #[.pointer (some ⟨pb9, 0, none⟩)], .func (.func 49) #[] #[.pointer (some ⟨pb9, 0, none⟩)], .int .i64 1, .int .i64 1099511627776, .func (.func 45) #[] #[.pointer (some ⟨S, 0, none⟩)], .func (.func 46) #[] #[.pointer (some ⟨S, 0, none⟩)], .int .i64 0, .int .i64 999, .func (.func 48) #[] #[.pointer (some ⟨pb19, 0, none⟩)], .func (.func 49) #[] #[.pointer (some ⟨pb19, 0, none⟩)], .int .i64 0, .int .i64 100, .func (.func 48) #[] #[.pointer (some ⟨pb20, 0, none⟩)], .func (.func 49) #[] #[.pointer (some ⟨pb20, 0, none⟩)], .int .i64 0, .int .i64 100] 82)).heap.size := by simp; omega
  clear hrow hal hR
  generalize (w9.alloc (.cells #[.func (.func 48) #[] #[.pointer (some ⟨pb4, 0, none⟩)], .func (.func 49) #[] #[.pointer (some ⟨pb4, 0, none⟩)], .int .i64 0, .int .i64 1099511627776, .func (.func 48) #[] #[.pointer (some ⟨pb8, 0, none⟩)], .func (.func 49) #[] #[.pointer (some ⟨pb8, 0, none⟩)], .int .i64 1, .int .i64 16, .func (.func 48) #[] #[.pointer (some ⟨pb9, 0, none⟩)], .func (.func 49) #[] #[.pointer (some ⟨pb9, 0, none⟩)], .int .i64 1, .int .i64 1099511627776, .func (.func 45) #[] #[.pointer (some ⟨S, 0, none⟩)], .func (.func 46) #[] #[.pointer (some ⟨S, 0, none⟩)], .int .i64 0, .int .i64 999, .func (.func 48) #[] #[.pointer (some ⟨pb19, 0, none⟩)], .func (.func 49) #[] #[.pointer (some ⟨pb19, 0, none⟩)], .int .i64 0, .int .i64 100, .func (.func 48) #[] #[.pointer (some ⟨pb20, 0, none⟩)], .func (.func 49) #[] #[.pointer (some ⟨pb20, 0, none⟩)], .int .i64 0, .int .i64 100] 82)) = w10 at HV4 HV8 HV9 HP10 HE10 HR10 HB10 lt8b lt9b pt8b pt9b hs10 ⊢
  have f10_b4_0 : w10.cell? ⟨b4, 0, none⟩ = some (.func (.func 48) #[] #[.pointer (some ⟨pb4, 0, none⟩)]) := cellb HV4.out.blk rfl
  have f10_b4_1 : w10.cell? ⟨b4, 1, none⟩ = some (.func (.func 49) #[] #[.pointer (some ⟨pb4, 0, none⟩)]) := cellb HV4.out.blk rfl
  have f10_b4_2 : w10.cell? ⟨b4, 2, none⟩ = some (.int .i64 0) := cellb HV4.out.blk rfl
  have f10_b4_3 : w10.cell? ⟨b4, 3, none⟩ = some (.int .i64 1099511627776) := cellb HV4.out.blk rfl
  have f10_b8_0 : w10.cell? ⟨b8, 0, none⟩ = some (.func (.func 48) #[] #[.pointer (some ⟨pb8, 0, none⟩)]) := cellb HV8.out.blk rfl
  have f10_b8_1 : w10.cell? ⟨b8, 1, none⟩ = some (.func (.func 49) #[] #[.pointer (some ⟨pb8, 0, none⟩)]) := cellb HV8.out.blk rfl
  have f10_b8_2 : w10.cell? ⟨b8, 2, none⟩ = some (.int .i64 1) := cellb HV8.out.blk rfl
  have f10_b8_3 : w10.cell? ⟨b8, 3, none⟩ = some (.int .i64 16) := cellb HV8.out.blk rfl
  have f10_b9_0 : w10.cell? ⟨b9, 0, none⟩ = some (.func (.func 48) #[] #[.pointer (some ⟨pb9, 0, none⟩)]) := cellb HV9.out.blk rfl
  have f10_b9_1 : w10.cell? ⟨b9, 1, none⟩ = some (.func (.func 49) #[] #[.pointer (some ⟨pb9, 0, none⟩)]) := cellb HV9.out.blk rfl
  have f10_b9_2 : w10.cell? ⟨b9, 2, none⟩ = some (.int .i64 1) := cellb HV9.out.blk rfl
  have f10_b9_3 : w10.cell? ⟨b9, 3, none⟩ = some (.int .i64 1099511627776) := cellb HV9.out.blk rfl
  have f10_b9e_0 : w10.cell? ⟨b9 + 1, 0, none⟩ = some (.func (.func 45) #[] #[.pointer (some ⟨S, 0, none⟩)]) := cellb HE10.out rfl
  have f10_b9e_1 : w10.cell? ⟨b9 + 1, 1, none⟩ = some (.func (.func 46) #[] #[.pointer (some ⟨S, 0, none⟩)]) := cellb HE10.out rfl
  have f10_b9e_2 : w10.cell? ⟨b9 + 1, 2, none⟩ = some (.int .i64 0) := cellb HE10.out rfl
  have f10_b9e_3 : w10.cell? ⟨b9 + 1, 3, none⟩ = some (.int .i64 999) := cellb HE10.out rfl
  have f10_p : w10.cell? ⟨S, 0, none⟩ = some (.pointer (some ⟨mb, 0, none⟩)) := HP10.out
  refine hK.out _ _ ?_ (fun hHeld => ?_)
  · try dsimp only
    (refine ⟨?_, ?_, ?_, ?_, ?_, ?_, ?_, ?_, ?_, ?_, ?_, ?_, ?_, ?_, ?_, ?_, ?_⟩ <;> (first | with_reducible assumption))
  clear hK K
  try simp only [Act.put, List.setIfInBounds_toArray, List.set_cons_zero, List.set_cons_succ]
  refine wpAnyH_ready (rs := [15]) (by kernel_rfl) (by simp) ?_
  refine AllReadyH.cons (by (simp only [List.getElem?_toArray, List.getElem?_cons_succ, List.getElem?_cons_zero]; rfl)) (fun K hK => ?_) AllReadyH.nil
  go_simp
  refine (all_any _ _ _ _).mono ?_
  rintro e w' ⟨rfl, rfl⟩
  refine hK.out _ _ ?_ (fun hHeld => ?_)
  · try dsimp only
    (refine ⟨?_, ?_, ?_, ?_, ?_, ?_, ?_, ?_, ?_, ?_, ?_, ?_, ?_, ?_, ?_, ?_, ?_⟩ <;> (first | with_reducible assumption))
  clear hK K
  try simp only [Act.put, List.setIfInBounds_toArray, List.set_cons_zero, List.set_cons_succ]
  refine wpAnyH_take (i := 16) (v := ?_) (by (simp only [List.getElem?_toArray, List.getElem?_cons_succ, List.getElem?_cons_zero]; rfl)) (by kernel_rfl) (by kernel_rfl) (by kernel_rfl) (fun _ _ _ h => h) (Or.inl ⟨by rfl, ?_⟩) (by assumption) ?_
  rotate_left
  · (intro w hSw; (try dsimp only at hSw); go_simp; try with_reducible rfl)
  try simp only [Act.put, List.setIfInBounds_toArray, List.set_cons_zero, List.set_cons_succ]
  refine wpAnyH_take (i := 17) (v := ?_) (by (simp only [List.getElem?_toArray, List.getElem?_cons_succ, List.getElem?_cons_zero]; rfl)) (by kernel_rfl) (by kernel_rfl) (by kernel_rfl) (fun _ _ _ h => h) (Or.inl ⟨by rfl, ?_⟩) (by assumption) ?_
  rotate_left
  · (intro w hSw; (try dsimp only at hSw); go_simp; try with_reducible rfl)
  try simp only [Act.put, List.setIfInBounds_toArray, List.set_cons_zero, List.set_cons_succ]
  refine wpAnyH_done (by kernel_rfl) ?_ _
  refine NoPanic.normal ?_
  clear hHeld f7_b4_0 f7_b4_1 f7_b4_2 f7_b4_3 f7_b8_0 f7_b8_1 f7_b8_2 f7_b8_3 f7_b9_0 f7_b9_1 f7_b9_2 f7_b9_3 f7_b9e_0 f7_b9e_1 f7_b9e_2 f7_b9e_3 f8_b4_0 f8_b4_1 f8_b4_2 f8_b4_3 f8_b8_0 f8_b8_1 f8_b8_2 f8_b8_3 f8_b9_0 f8_b9_1 f8_b9_2 f8_b9_3 f8_b9e_0 f8_b9e_1 f8_b9e_2 f8_b9e_3 f9_b4_0 f9_b4_1 f9_b4_2 f9_b4_3 f9_b8_0 f9_b8_1 f9_b8_2 f9_b8_3 f9_b9_0 f9_b9_1 f9_b9_2 f9_b9_3 f9_b9e_0 f9_b9e_1 f9_b9e_2 f9_b9e_3 f10_b4_0 f10_b4_1 f10_b4_2 f10_b4_3 f10_b8_0 f10_b8_1 f10_b8_2 f10_b8_3 f10_b9_0 f10_b9_1 f10_b9_2 f10_b9_3 f10_b9e_0 f10_b9e_1 f10_b9e_2 f10_b9e_3 f7_p f8_p f9_p f10_p
  have hrow := HR10.out
  have V4 := HV4.out
  have V8 := HV8.out
  have V9 := HV9.out
  have hF : FieldsIn w10 w10.heap.size mb (some ⟨R, 0, none⟩) [⟨1, 0, 1099511627776⟩, ⟨15, 1, 16⟩, ⟨16, 1, 1099511627776⟩, ⟨18, 0, 999⟩, ⟨19, 0, 100⟩, ⟨20, 0, 100⟩] := by
    refine .inr ⟨R, rfl, by omega, ltb hrow, fun i f hf => ?_⟩
    have hi : i < 6 := (List.getElem?_eq_some_iff.1 hf).1
    have hi : i = 0 ∨ i = 1 ∨ i = 2 ∨ i = 3 ∨ i = 4 ∨ i = 5 := by omega
    rcases hi with rfl | rfl | rfl | rfl | rfl | rfl
    · obtain rfl := Option.some.inj hf
      exact ⟨_, _, .inl ⟨pb4, V4.gt, V4.lt, rfl, rfl, V4.ptr⟩, cellb hrow rfl, cellb hrow rfl, cellb hrow rfl, cellb hrow rfl⟩
    · obtain rfl := Option.some.inj hf
      exact ⟨_, _, .inl ⟨pb8, V8.gt, V8.lt, rfl, rfl, V8.ptr⟩, cellb hrow rfl, cellb hrow rfl, cellb hrow rfl, cellb hrow rfl⟩
    · obtain rfl := Option.some.inj hf
      exact ⟨_, _, .inl ⟨pb9, V9.gt, V9.lt, rfl, rfl, V9.ptr⟩, cellb hrow rfl, cellb hrow rfl, cellb hrow rfl, cellb hrow rfl⟩
    · obtain rfl := Option.some.inj hf
      exact ⟨_, _, .inr ⟨rfl, S, hmS, hs10, rfl, rfl, HP10.out⟩, cellb hrow rfl, cellb hrow rfl, cellb hrow rfl, cellb hrow rfl⟩
    · obtain rfl := Option.some.inj hf
      exact ⟨_, _, .inl ⟨pb19, gt8, lt8b, rfl, rfl, pt8b⟩, cellb hrow rfl, cellb hrow rfl, cellb hrow rfl, cellb hrow rfl⟩
    · obtain rfl := Option.some.inj hf
      exact ⟨_, _, .inl ⟨pb20, gt9, lt9b, rfl, rfl, pt9b⟩, cellb hrow rfl, cellb hrow rfl, cellb hrow rfl, cellb hrow rfl⟩
  have HF := Lib.hid hF
  clear hrow V4 V8 V9 hF
  go_wp2_with fail
  refine bodyPost_ret (v := .tuple #[.slice (some ⟨R, 0, none⟩) 6 6, .bool true]) (by simp [results, Try.results35, go_sem]) rfl ?_
  exact ⟨_, _, rfl, HF.out, by rw [HSW.out]; exact HB10.out⟩
end Go.Proofs.Ytoeamofemepgpaa
