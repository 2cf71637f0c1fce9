/- The fields of a message, of whatever kind. -/
import Derived.Test.YtoeamofemepgpaaFldA
import Derived.Test.YtoeamofemepgpaaFldB
import Derived.Test.YtoeamofemepgpaaFields
namespace Go.Proofs.Ytoeamofemepgpaa
open Go.RowKit

/-- The numbers of a kind, in order. -/
def flK (k : Int) : List FD :=
  if k = 1 then [⟨2, 0, 15⟩, ⟨3, 0, 1099511627775⟩]
  else if k = 2 then [⟨1, 0, 1099511627776⟩, ⟨2, 0, 15⟩, ⟨4, 0, 1099511627775⟩, ⟨5, 0, 2199023255552⟩]
  else if k = 3 then [⟨1, 0, 1099511627776⟩, ⟨2, 0, 15⟩, ⟨6, 1, 100⟩, ⟨7, 1, 6⟩, ⟨8, 0, 1099511627775⟩, ⟨9, 1, 1000⟩, ⟨11, 0, 1073741824⟩, ⟨12, 0, 1073741824⟩, ⟨13, 0, 1073741824⟩, ⟨14, 0, 1073741824⟩]
  else if k = 4 then [⟨1, 0, 1099511627776⟩, ⟨2, 0, 15⟩, ⟨6, 1, 100⟩, ⟨7, 1, 6⟩]
  else if k = 5 then [⟨2, 0, 15⟩, ⟨6, 1, 100⟩, ⟨7, 1, 6⟩, ⟨10, 1, 3⟩]
  else if k = 6 then [⟨1, 0, 1099511627776⟩, ⟨2, 0, 15⟩, ⟨6, 1, 100⟩, ⟨7, 1, 6⟩]
  else if k = 7 then [⟨1, 0, 1099511627776⟩, ⟨15, 1, 16⟩, ⟨16, 1, 1099511627776⟩]
  else if k = 8 then [⟨1, 0, 1099511627776⟩, ⟨15, 1, 16⟩, ⟨16, 1, 1099511627776⟩, ⟨18, 0, 999⟩, ⟨19, 0, 100⟩, ⟨20, 0, 100⟩]
  else []
theorem flK_1 : flK 1 = [⟨2, 0, 15⟩, ⟨3, 0, 1099511627775⟩] := by simp [flK]
theorem flK_2 : flK 2 = [⟨1, 0, 1099511627776⟩, ⟨2, 0, 15⟩, ⟨4, 0, 1099511627775⟩, ⟨5, 0, 2199023255552⟩] := by simp [flK]
theorem flK_3 : flK 3 = [⟨1, 0, 1099511627776⟩, ⟨2, 0, 15⟩, ⟨6, 1, 100⟩, ⟨7, 1, 6⟩, ⟨8, 0, 1099511627775⟩, ⟨9, 1, 1000⟩, ⟨11, 0, 1073741824⟩, ⟨12, 0, 1073741824⟩, ⟨13, 0, 1073741824⟩, ⟨14, 0, 1073741824⟩] := by simp [flK]
theorem flK_4 : flK 4 = [⟨1, 0, 1099511627776⟩, ⟨2, 0, 15⟩, ⟨6, 1, 100⟩, ⟨7, 1, 6⟩] := by simp [flK]
theorem flK_5 : flK 5 = [⟨2, 0, 15⟩, ⟨6, 1, 100⟩, ⟨7, 1, 6⟩, ⟨10, 1, 3⟩] := by simp [flK]
theorem flK_6 : flK 6 = [⟨1, 0, 1099511627776⟩, ⟨2, 0, 15⟩, ⟨6, 1, 100⟩, ⟨7, 1, 6⟩] := by simp [flK]
theorem flK_7 : flK 7 = [⟨1, 0, 1099511627776⟩, ⟨15, 1, 16⟩, ⟨16, 1, 1099511627776⟩] := by simp [flK]
theorem flK_8 : flK 8 = [⟨1, 0, 1099511627776⟩, ⟨15, 1, 16⟩, ⟨16, 1, 1099511627776⟩, ⟨18, 0, 999⟩, ⟨19, 0, 100⟩, ⟨20, 0, 100⟩] := by simp [flK]
/-- Is a kind one? -/
def kB (k : Int) : Bool := decide (1 ≤ k) && decide (k ≤ 8)
theorem kB_cases {k : Int} (h : kB k = true) : k = 1 ∨ k = 2 ∨ k = 3 ∨ k = 4 ∨ k = 5 ∨ k = 6 ∨ k = 7 ∨ k = 8 := by simp [kB] at h; omega
theorem flK_none {k : Int} (h : kB k = false) : flK k = [] := by
  simp [kB] at h
  unfold flK
  rw [if_neg (by omega), if_neg (by omega), if_neg (by omega), if_neg (by omega), if_neg (by omega), if_neg (by omega), if_neg (by omega), if_neg (by omega)]
theorem flK_off (k : Int) : ∀ f ∈ flK k, 1 ≤ f.off ∧ f.off ≤ 20 ∧ f.off ≠ 17 := by
  cases h : kB k
  · rw [flK_none h]; simp
  · rcases kB_cases h with rfl | rfl | rfl | rfl | rfl | rfl | rfl | rfl <;> simp [flK]
theorem flK_nd (k : Int) : ((flK k).map (·.off)).Nodup := by
  cases h : kB k
  · rw [flK_none h]; simp
  · rcases kB_cases h with rfl | rfl | rfl | rfl | rfl | rfl | rfl | rfl <;> simp [flK]
theorem flK_len (k : Int) : (flK k).length ≤ 10 := by
  cases h : kB k
  · rw [flK_none h]; simp
  · rcases kB_cases h with rfl | rfl | rfl | rfl | rfl | rfl | rfl | rfl <;> simp [flK]
theorem flK_ne {k : Int} (h : kB k = true) : flK k ≠ [] := by
  rcases kB_cases h with rfl | rfl | rfl | rfl | rfl | rfl | rfl | rfl <;> simp [flK]
/-- The values of the numbers fit into an int. -/
theorem flK_in (k : Int) : ∀ f ∈ flK k, 0 ≤ f.lo ∧ f.hi ≤ 2199023255552 := by
  cases h : kB k
  · rw [flK_none h]; simp
  · rcases kB_cases h with rfl | rfl | rfl | rfl | rfl | rfl | rfl | rfl <;> simp [flK]

set_option maxRecDepth 100000 in
set_option maxHeartbeats 4000000 in
theorem fields_none (mb : Nat) (w : World) (v : Nat → Int) (A : Option Addr) (n c : Nat) (hm : MAt w mb v A n c) (hk : kB (v 0) = false) :
    Calls Try.prog 35 #[.pointer (some ⟨mb, 0, none⟩)] w fun e w' => e = .returned (.tuple #[.slice none 0 0, .bool false]) ∧ Below w.heap.size w w' := by
  have HM := Lib.hid hm
  have hml := ltb hm
  obtain ⟨S, hS⟩ : ∃ S, S = w.heap.size := ⟨_, rfl⟩
  have hkk := cellb (i := 0) hm rfl
  obtain ⟨kv, hkv⟩ : ∃ k, k = v 0 := ⟨_, rfl⟩
  rw [← hkv] at hkk hk
  have hk : ¬ kv = 1 ∧ ¬ kv = 2 ∧ ¬ kv = 3 ∧ ¬ kv = 4 ∧ ¬ kv = 5 ∧ ¬ kv = 6 ∧ ¬ kv = 7 ∧ ¬ kv = 8 := by simp [kB] at hk; omega
  obtain ⟨k1, k2, k3, k4, k5, k6, k7, k8⟩ := hk
  clear hkv
  have hkb : (w.alloc (.cells #[.pointer (some ⟨mb, 0, none⟩)] 79)).cell? ⟨mb, 0, none⟩ = some (.int .i64 kv) := keepA hkk
  have hpb : (w.alloc (.cells #[.pointer (some ⟨mb, 0, none⟩)] 79)).cell? ⟨S, 0, none⟩ = some (.pointer (some ⟨mb, 0, none⟩)) := by rw [hS]; exact cell_of_one (heap_alloc_new w _)
  have hb0 : Below S w (w.alloc (.cells #[.pointer (some ⟨mb, 0, none⟩)] 79)) := by rw [hS]; exact (Below.refl w.heap.size w).alloc (Nat.le_refl _) _
  have HB0 := Lib.hid hb0
  have HK0 := Lib.hid hkb
  have HP0 := Lib.hid hpb
  have hs0 : S < (w.alloc (.cells #[.pointer (some ⟨mb, 0, none⟩)] 79)).heap.size := by simp [hS]
  have hmS : mb < S := by omega
  have HSW : Hid (w.heap.size = S) := Lib.hid hS.symm
  clear hm hkk hkb hpb hb0
  go_enter Try.func35, Try.ntmps35
  go_wp2_with fail
  rw [← hS]
  clear hS hml
  generalize w.alloc (.cells #[.pointer (some ⟨mb, 0, none⟩)] 79) = w0 at HB0 HK0 HP0 hs0 ⊢
  refine (at_any mb 1 0 1099511627776 w0).mono ?_
  rintro e x0 ⟨pb4, rfl, hge, hlt, hc, hb⟩
  have kz : ∀ O, (x0.alloc O).cell? ⟨S, 0, none⟩ = some (.pointer (some ⟨mb, 0, none⟩)) := fun O => keepA ((hb.cell (p := ⟨S, 0, none⟩) hs0).trans HP0.out)
  have kk : ∀ O, (x0.alloc O).cell? ⟨mb, 0, none⟩ = some (.int .i64 kv) := fun O => keepA ((hb.cell (p := ⟨mb, 0, none⟩) (by show mb < _; omega)).trans HK0.out)
  have hsx : S < x0.heap.size := Nat.lt_of_lt_of_le hs0 hb.size
  obtain ⟨b4, hbs4⟩ : ∃ b, b = x0.heap.size := ⟨_, rfl⟩
  have hal : Below x0.heap.size x0 (x0.alloc (.cells #[.func (.func 48) #[] #[.pointer (some ⟨pb4, 0, none⟩)], .func (.func 49) #[] #[.pointer (some ⟨pb4, 0, none⟩)], .int .i64 0, .int .i64 1099511627776] 82)) := (Below.refl _ _).alloc (Nat.le_refl _) _
  have HV4 : Hid (VarAt (x0.alloc (.cells #[.func (.func 48) #[] #[.pointer (some ⟨pb4, 0, none⟩)], .func (.func 49) #[] #[.pointer (some ⟨pb4, 0, none⟩)], .int .i64 0, .int .i64 1099511627776] 82)) b4 pb4 mb 1 0 1099511627776) := Lib.hid ⟨by rw [hbs4]; exact heap_alloc_new x0 _, by omega, by simp; omega, keepA hc⟩
  have HB1 := Lib.hid (HB0.out.trans ((hb.trans (hal.mono hb.size)).mono (by omega)))
  have HK1 := Lib.hid (kk (.cells #[.func (.func 48) #[] #[.pointer (some ⟨pb4, 0, none⟩)], .func (.func 49) #[] #[.pointer (some ⟨pb4, 0, none⟩)], .int .i64 0, .int .i64 1099511627776] 82))
  have HP1 := Lib.hid (kz (.cells #[.func (.func 48) #[] #[.pointer (some ⟨pb4, 0, none⟩)], .func (.func 49) #[] #[.pointer (some ⟨pb4, 0, none⟩)], .int .i64 0, .int .i64 1099511627776] 82))
  have hs1 : S < (x0.alloc (.cells #[.func (.func 48) #[] #[.pointer (some ⟨pb4, 0, none⟩)], .func (.func 49) #[] #[.pointer (some ⟨pb4, 0, none⟩)], .int .i64 0, .int .i64 1099511627776] 82)).heap.size := by simp; omega
  clear hb hal hge hlt hc hsx HB0 HK0 HP0 hs0 kk
  go_wp2_with fail
  rw [← hbs4]
  clear kz hbs4
  generalize x0.alloc (.cells #[.func (.func 48) #[] #[.pointer (some ⟨pb4, 0, none⟩)], .func (.func 49) #[] #[.pointer (some ⟨pb4, 0, none⟩)], .int .i64 0, .int .i64 1099511627776] 82) = w1 at HB1 HK1 HP1 hs1 HV4 ⊢
  have kp := HP1.out
  go_wp2_with fail
  clear kp
  refine (at_any mb 2 0 15 w1).mono ?_
  rintro e x1 ⟨pb5, rfl, hge, hlt, hc, hb⟩
  have kz : ∀ O, (x1.alloc O).cell? ⟨S, 0, none⟩ = some (.pointer (some ⟨mb, 0, none⟩)) := fun O => keepA ((hb.cell (p := ⟨S, 0, none⟩) hs1).trans HP1.out)
  have kk : ∀ O, (x1.alloc O).cell? ⟨mb, 0, none⟩ = some (.int .i64 kv) := fun O => keepA ((hb.cell (p := ⟨mb, 0, none⟩) (by show mb < _; omega)).trans HK1.out)
  have hsx : S < x1.heap.size := Nat.lt_of_lt_of_le hs1 hb.size
  obtain ⟨b5, hbs5⟩ : ∃ b, b = x1.heap.size := ⟨_, rfl⟩
  have hal : Below x1.heap.size x1 (x1.alloc (.cells #[.func (.func 48) #[] #[.pointer (some ⟨pb5, 0, none⟩)], .func (.func 49) #[] #[.pointer (some ⟨pb5, 0, none⟩)], .int .i64 0, .int .i64 15] 82)) := (Below.refl _ _).alloc (Nat.le_refl _) _
  have HV5 : Hid (VarAt (x1.alloc (.cells #[.func (.func 48) #[] #[.pointer (some ⟨pb5, 0, none⟩)], .func (.func 49) #[] #[.pointer (some ⟨pb5, 0, none⟩)], .int .i64 0, .int .i64 15] 82)) b5 pb5 mb 2 0 15) := Lib.hid ⟨by rw [hbs5]; exact heap_alloc_new x1 _, by omega, by simp; omega, keepA hc⟩
  have HV4 := Lib.hid ((HV4.out.below hb).below hal)
  have HB2 := Lib.hid (HB1.out.trans ((hb.trans (hal.mono hb.size)).mono (by omega)))
  have HK2 := Lib.hid (kk (.cells #[.func (.func 48) #[] #[.pointer (some ⟨pb5, 0, none⟩)], .func (.func 49) #[] #[.pointer (some ⟨pb5, 0, none⟩)], .int .i64 0, .int .i64 15] 82))
  have HP2 := Lib.hid (kz (.cells #[.func (.func 48) #[] #[.pointer (some ⟨pb5, 0, none⟩)], .func (.func 49) #[] #[.pointer (some ⟨pb5, 0, none⟩)], .int .i64 0, .int .i64 15] 82))
  have hs2 : S < (x1.alloc (.cells #[.func (.func 48) #[] #[.pointer (some ⟨pb5, 0, none⟩)], .func (.func 49) #[] #[.pointer (some ⟨pb5, 0, none⟩)], .int .i64 0, .int .i64 15] 82)).heap.size := by simp; omega
  clear hb hal hge hlt hc hsx HB1 HK1 HP1 hs1 kk
  go_wp2_with fail
  rw [← hbs5]
  clear kz hbs5
  generalize x1.alloc (.cells #[.func (.func 48) #[] #[.pointer (some ⟨pb5, 0, none⟩)], .func (.func 49) #[] #[.pointer (some ⟨pb5, 0, none⟩)], .int .i64 0, .int .i64 15] 82) = w2 at HB2 HK2 HP2 hs2 HV4 HV5 ⊢
  have kp := HP2.out
  go_wp2_with fail
  clear kp
  refine (at_any mb 6 1 100 w2).mono ?_
  rintro e x2 ⟨pb6, rfl, hge, hlt, hc, hb⟩
  have kz : ∀ O, (x2.alloc O).cell? ⟨S, 0, none⟩ = some (.pointer (some ⟨mb, 0, none⟩)) := fun O => keepA ((hb.cell (p := ⟨S, 0, none⟩) hs2).trans HP2.out)
  have kk : ∀ O, (x2.alloc O).cell? ⟨mb, 0, none⟩ = some (.int .i64 kv) := fun O => keepA ((hb.cell (p := ⟨mb, 0, none⟩) (by show mb < _; omega)).trans HK2.out)
  have hsx : S < x2.heap.size := Nat.lt_of_lt_of_le hs2 hb.size
  obtain ⟨b6, hbs6⟩ : ∃ b, b = x2.heap.size := ⟨_, rfl⟩
  have hal : Below x2.heap.size x2 (x2.alloc (.cells #[.func (.func 48) #[] #[.pointer (some ⟨pb6, 0, none⟩)], .func (.func 49) #[] #[.pointer (some ⟨pb6, 0, none⟩)], .int .i64 1, .int .i64 100] 82)) := (Below.refl _ _).alloc (Nat.le_refl _) _
  have HV6 : Hid (VarAt (x2.alloc (.cells #[.func (.func 48) #[] #[.pointer (some ⟨pb6, 0, none⟩)], .func (.func 49) #[] #[.pointer (some ⟨pb6, 0, none⟩)], .int .i64 1, .int .i64 100] 82)) b6 pb6 mb 6 1 100) := Lib.hid ⟨by rw [hbs6]; exact heap_alloc_new x2 _, by omega, by simp; omega, keepA hc⟩
  have HV4 := Lib.hid ((HV4.out.below hb).below hal)
  have HV5 := Lib.hid ((HV5.out.below hb).below hal)
  have HB3 := Lib.hid (HB2.out.trans ((hb.trans (hal.mono hb.size)).mono (by omega)))
  have HK3 := Lib.hid (kk (.cells #[.func (.func 48) #[] #[.pointer (some ⟨pb6, 0, none⟩)], .func (.func 49) #[] #[.pointer (some ⟨pb6, 0, none⟩)], .int .i64 1, .int .i64 100] 82))
  have HP3 := Lib.hid (kz (.cells #[.func (.func 48) #[] #[.pointer (some ⟨pb6, 0, none⟩)], .func (.func 49) #[] #[.pointer (some ⟨pb6, 0, none⟩)], .int .i64 1, .int .i64 100] 82))
  have hs3 : S < (x2.alloc (.cells #[.func (.func 48) #[] #[.pointer (some ⟨pb6, 0, none⟩)], .func (.func 49) #[] #[.pointer (some ⟨pb6, 0, none⟩)], .int .i64 1, .int .i64 100] 82)).heap.size := by simp; omega
  clear hb hal hge hlt hc hsx HB2 HK2 HP2 hs2 kk
  go_wp2_with fail
  rw [← hbs6]
  clear kz hbs6
  generalize x2.alloc (.cells #[.func (.func 48) #[] #[.pointer (some ⟨pb6, 0, none⟩)], .func (.func 49) #[] #[.pointer (some ⟨pb6, 0, none⟩)], .int .i64 1, .int .i64 100] 82) = w3 at HB3 HK3 HP3 hs3 HV4 HV5 HV6 ⊢
  have kp := HP3.out
  go_wp2_with fail
  clear kp
  refine (at_any mb 7 1 6 w3).mono ?_
  rintro e x3 ⟨pb7, rfl, hge, hlt, hc, hb⟩
  have kz : ∀ O, (x3.alloc O).cell? ⟨S, 0, none⟩ = some (.pointer (some ⟨mb, 0, none⟩)) := fun O => keepA ((hb.cell (p := ⟨S, 0, none⟩) hs3).trans HP3.out)
  have kk : ∀ O, (x3.alloc O).cell? ⟨mb, 0, none⟩ = some (.int .i64 kv) := fun O => keepA ((hb.cell (p := ⟨mb, 0, none⟩) (by show mb < _; omega)).trans HK3.out)
  have hsx : S < x3.heap.size := Nat.lt_of_lt_of_le hs3 hb.size
  obtain ⟨b7, hbs7⟩ : ∃ b, b = x3.heap.size := ⟨_, rfl⟩
  have hal : Below x3.heap.size x3 (x3.alloc (.cells #[.func (.func 48) #[] #[.pointer (some ⟨pb7, 0, none⟩)], .func (.func 49) #[] #[.pointer (some ⟨pb7, 0, none⟩)], .int .i64 1, .int .i64 6] 82)) := (Below.refl _ _).alloc (Nat.le_refl _) _
  have HV7 : Hid (VarAt (x3.alloc (.cells #[.func (.func 48) #[] #[.pointer (some ⟨pb7, 0, none⟩)], .func (.func 49) #[] #[.pointer (some ⟨pb7, 0, none⟩)], .int .i64 1, .int .i64 6] 82)) b7 pb7 mb 7 1 6) := Lib.hid ⟨by rw [hbs7]; exact heap_alloc_new x3 _, by omega, by simp; omega, keepA hc⟩
  have HV4 := Lib.hid ((HV4.out.below hb).below hal)
  have HV5 := Lib.hid ((HV5.out.below hb).below hal)
  have HV6 := Lib.hid ((HV6.out.below hb).below hal)
  have HB4 := Lib.hid (HB3.out.trans ((hb.trans (hal.mono hb.size)).mono (by omega)))
  have HK4 := Lib.hid (kk (.cells #[.func (.func 48) #[] #[.pointer (some ⟨pb7, 0, none⟩)], .func (.func 49) #[] #[.pointer (some ⟨pb7, 0, none⟩)], .int .i64 1, .int .i64 6] 82))
  have HP4 := Lib.hid (kz (.cells #[.func (.func 48) #[] #[.pointer (some ⟨pb7, 0, none⟩)], .func (.func 49) #[] #[.pointer (some ⟨pb7, 0, none⟩)], .int .i64 1, .int .i64 6] 82))
  have hs4 : S < (x3.alloc (.cells #[.func (.func 48) #[] #[.pointer (some ⟨pb7, 0, none⟩)], .func (.func 49) #[] #[.pointer (some ⟨pb7, 0, none⟩)], .int .i64 1, .int .i64 6] 82)).heap.size := by simp; omega
  clear hb hal hge hlt hc hsx HB3 HK3 HP3 hs3 kk
  go_wp2_with fail
  rw [← hbs7]
  clear kz hbs7
  generalize x3.alloc (.cells #[.func (.func 48) #[] #[.pointer (some ⟨pb7, 0, none⟩)], .func (.func 49) #[] #[.pointer (some ⟨pb7, 0, none⟩)], .int .i64 1, .int .i64 6] 82) = w4 at HB4 HK4 HP4 hs4 HV4 HV5 HV6 HV7 ⊢
  have kp := HP4.out
  go_wp2_with fail
  clear kp
  refine (at_any mb 15 1 16 w4).mono ?_
  rintro e x4 ⟨pb8, rfl, hge, hlt, hc, hb⟩
  have kz : ∀ O, (x4.alloc O).cell? ⟨S, 0, none⟩ = some (.pointer (some ⟨mb, 0, none⟩)) := fun O => keepA ((hb.cell (p := ⟨S, 0, none⟩) hs4).trans HP4.out)
  have kk : ∀ O, (x4.alloc O).cell? ⟨mb, 0, none⟩ = some (.int .i64 kv) := fun O => keepA ((hb.cell (p := ⟨mb, 0, none⟩) (by show mb < _; omega)).trans HK4.out)
  have hsx : S < x4.heap.size := Nat.lt_of_lt_of_le hs4 hb.size
  obtain ⟨b8, hbs8⟩ : ∃ b, b = x4.heap.size := ⟨_, rfl⟩
  have hal : Below x4.heap.size x4 (x4.alloc (.cells #[.func (.func 48) #[] #[.pointer (some ⟨pb8, 0, none⟩)], .func (.func 49) #[] #[.pointer (some ⟨pb8, 0, none⟩)], .int .i64 1, .int .i64 16] 82)) := (Below.refl _ _).alloc (Nat.le_refl _) _
  have HV8 : Hid (VarAt (x4.alloc (.cells #[.func (.func 48) #[] #[.pointer (some ⟨pb8, 0, none⟩)], .func (.func 49) #[] #[.pointer (some ⟨pb8, 0, none⟩)], .int .i64 1, .int .i64 16] 82)) b8 pb8 mb 15 1 16) := Lib.hid ⟨by rw [hbs8]; exact heap_alloc_new x4 _, by omega, by simp; omega, keepA hc⟩
  have HV4 := Lib.hid ((HV4.out.below hb).below hal)
  have HV5 := Lib.hid ((HV5.out.below hb).below hal)
  have HV6 := Lib.hid ((HV6.out.below hb).below hal)
  have HV7 := Lib.hid ((HV7.out.below hb).below hal)
  have HB5 := Lib.hid (HB4.out.trans ((hb.trans (hal.mono hb.size)).mono (by omega)))
  have HK5 := Lib.hid (kk (.cells #[.func (.func 48) #[] #[.pointer (some ⟨pb8, 0, none⟩)], .func (.func 49) #[] #[.pointer (some ⟨pb8, 0, none⟩)], .int .i64 1, .int .i64 16] 82))
  have HP5 := Lib.hid (kz (.cells #[.func (.func 48) #[] #[.pointer (some ⟨pb8, 0, none⟩)], .func (.func 49) #[] #[.pointer (some ⟨pb8, 0, none⟩)], .int .i64 1, .int .i64 16] 82))
  have hs5 : S < (x4.alloc (.cells #[.func (.func 48) #[] #[.pointer (some ⟨pb8, 0, none⟩)], .func (.func 49) #[] #[.pointer (some ⟨pb8, 0, none⟩)], .int .i64 1, .int .i64 16] 82)).heap.size := by simp; omega
  clear hb hal hge hlt hc hsx HB4 HK4 HP4 hs4 kk
  go_wp2_with fail
  rw [← hbs8]
  clear kz hbs8
  generalize x4.alloc (.cells #[.func (.func 48) #[] #[.pointer (some ⟨pb8, 0, none⟩)], .func (.func 49) #[] #[.pointer (some ⟨pb8, 0, none⟩)], .int .i64 1, .int .i64 16] 82) = w5 at HB5 HK5 HP5 hs5 HV4 HV5 HV6 HV7 HV8 ⊢
  have kp := HP5.out
  go_wp2_with fail
  clear kp
  refine (at_any mb 16 1 1099511627776 w5).mono ?_
  rintro e x5 ⟨pb9, rfl, hge, hlt, hc, hb⟩
  have kz : ∀ O, (x5.alloc O).cell? ⟨S, 0, none⟩ = some (.pointer (some ⟨mb, 0, none⟩)) := fun O => keepA ((hb.cell (p := ⟨S, 0, none⟩) hs5).trans HP5.out)
  have kk : ∀ O, (x5.alloc O).cell? ⟨mb, 0, none⟩ = some (.int .i64 kv) := fun O => keepA ((hb.cell (p := ⟨mb, 0, none⟩) (by show mb < _; omega)).trans HK5.out)
  have hsx : S < x5.heap.size := Nat.lt_of_lt_of_le hs5 hb.size
  have q4_0 : ∀ O, (x5.alloc O).cell? ⟨b4, 0, none⟩ = some (.func (.func 48) #[] #[.pointer (some ⟨pb4, 0, none⟩)]) := fun O => keepA (cellb (HV4.out.below hb).blk rfl)
  have q4_1 : ∀ O, (x5.alloc O).cell? ⟨b4, 1, none⟩ = some (.func (.func 49) #[] #[.pointer (some ⟨pb4, 0, none⟩)]) := fun O => keepA (cellb (HV4.out.below hb).blk rfl)
  have q4_2 : ∀ O, (x5.alloc O).cell? ⟨b4, 2, none⟩ = some (.int .i64 0) := fun O => keepA (cellb (HV4.out.below hb).blk rfl)
  have q4_3 : ∀ O, (x5.alloc O).cell? ⟨b4, 3, none⟩ = some (.int .i64 1099511627776) := fun O => keepA (cellb (HV4.out.below hb).blk rfl)
  obtain ⟨b9, hbs9⟩ : ∃ b, b = x5.heap.size := ⟨_, rfl⟩
  have hal : Below x5.heap.size x5 (x5.alloc (.cells #[.func (.func 48) #[] #[.pointer (some ⟨pb9, 0, none⟩)], .func (.func 49) #[] #[.pointer (some ⟨pb9, 0, none⟩)], .int .i64 1, .int .i64 1099511627776] 82)) := (Below.refl _ _).alloc (Nat.le_refl _) _
  have HV9 : Hid (VarAt (x5.alloc (.cells #[.func (.func 48) #[] #[.pointer (some ⟨pb9, 0, none⟩)], .func (.func 49) #[] #[.pointer (some ⟨pb9, 0, none⟩)], .int .i64 1, .int .i64 1099511627776] 82)) b9 pb9 mb 16 1 1099511627776) := Lib.hid ⟨by rw [hbs9]; exact heap_alloc_new x5 _, by omega, by simp; omega, keepA hc⟩
  have HV4 := Lib.hid ((HV4.out.below hb).below hal)
  have HV5 := Lib.hid ((HV5.out.below hb).below hal)
  have HV6 := Lib.hid ((HV6.out.below hb).below hal)
  have HV7 := Lib.hid ((HV7.out.below hb).below hal)
  have HV8 := Lib.hid ((HV8.out.below hb).below hal)
  have HB6 := Lib.hid (HB5.out.trans ((hb.trans (hal.mono hb.size)).mono (by omega)))
  have HK6 := Lib.hid (kk (.cells #[.func (.func 48) #[] #[.pointer (some ⟨pb9, 0, none⟩)], .func (.func 49) #[] #[.pointer (some ⟨pb9, 0, none⟩)], .int .i64 1, .int .i64 1099511627776] 82))
  have HP6 := Lib.hid (kz (.cells #[.func (.func 48) #[] #[.pointer (some ⟨pb9, 0, none⟩)], .func (.func 49) #[] #[.pointer (some ⟨pb9, 0, none⟩)], .int .i64 1, .int .i64 1099511627776] 82))
  have hs6 : S < (x5.alloc (.cells #[.func (.func 48) #[] #[.pointer (some ⟨pb9, 0, none⟩)], .func (.func 49) #[] #[.pointer (some ⟨pb9, 0, none⟩)], .int .i64 1, .int .i64 1099511627776] 82)).heap.size := by simp; omega
  clear hb hal hge hlt hc hsx HB5 HK5 HP5 hs5
  go_wp2_with fail
  rw [← hbs9]
  clear kz kk q4_0 q4_1 q4_2 q4_3
  have hz6 : (x5.alloc (.cells #[.func (.func 48) #[] #[.pointer (some ⟨pb9, 0, none⟩)], .func (.func 49) #[] #[.pointer (some ⟨pb9, 0, none⟩)], .int .i64 1, .int .i64 1099511627776] 82)).heap.size = b9 + 1 := by have := hs6; rw [hbs9]; simp
  clear hbs9
  generalize x5.alloc (.cells #[.func (.func 48) #[] #[.pointer (some ⟨pb9, 0, none⟩)], .func (.func 49) #[] #[.pointer (some ⟨pb9, 0, none⟩)], .int .i64 1, .int .i64 1099511627776] 82) = w6 at HB6 HK6 HP6 hs6 hz6 HV4 HV5 HV6 HV7 HV8 HV9 ⊢
  have HB := HB6.out
  clear HB6 HK6 HP6 HV4 HV5 HV6 HV7 HV8 HV9
  refine bodyPost_ret (v := .tuple #[.slice none 0 0, .bool false]) (by simp [results, Try.results35, go_sem]) rfl ?_
  exact ⟨rfl, by rw [HSW.out]; exact HB⟩

theorem fields_any (mb : Nat) (w : World) (v : Nat → Int) (A : Option Addr) (n c : Nat) (hm : MAt w mb v A n c) (hk : kB (v 0) = true) :
    Calls Try.prog 35 #[.pointer (some ⟨mb, 0, none⟩)] w fun e w' => ∃ R c', e = .returned (.tuple #[.slice R (flK (v 0)).length c', .bool true]) ∧ FieldsIn w' w'.heap.size mb R (flK (v 0)) ∧ Below w.heap.size w w' := by
  rcases kB_cases hk with h | h | h | h | h | h | h | h
  · rw [h, flK_1]; exact fields_1 mb w v A n c hm h
  · rw [h, flK_2]; exact fields_2 mb w v A n c hm h
  · rw [h, flK_3]; exact fields_3 mb w v A n c hm h
  · rw [h, flK_4]; exact fields_4 mb w v A n c hm h
  · rw [h, flK_5]; exact fields_5 mb w v A n c hm h
  · rw [h, flK_6]; exact fields_6 mb w v A n c hm h
  · rw [h, flK_7]; exact fields_7 mb w v A n c hm h
  · rw [h, flK_8]; exact fields_8 mb w v A n c hm h
end Go.Proofs.Ytoeamofemepgpaa
