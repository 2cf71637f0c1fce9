/- Whether a message has no field but its kind. -/
import Derived.Test.YtoeamofemepgpaaFields
import Derived.Test.YtoeamofemepgpaaRight
namespace Go.Proofs.Ytoeamofemepgpaa
open Go.RowKit

def noL : List FD := [⟨1, 0, 0⟩, ⟨2, 0, 0⟩, ⟨3, 0, 0⟩, ⟨4, 0, 0⟩, ⟨5, 0, 0⟩, ⟨6, 0, 0⟩, ⟨7, 0, 0⟩, ⟨8, 0, 0⟩, ⟨9, 0, 0⟩, ⟨10, 0, 0⟩, ⟨15, 0, 0⟩, ⟨16, 0, 0⟩]
/-- No number but the kind, no amount, no reply. -/
def Nil (v : Nat → Int) : Prop := (∀ f ∈ noL, v f.off = 0) ∧ (v 11 = 0 ∧ v 12 = 0 ∧ v 13 = 0 ∧ v 14 = 0) ∧ (v 18 = 0 ∧ v 19 = 0 ∧ v 20 = 0)
set_option maxRecDepth 100000 in
set_option maxHeartbeats 4000000 in
theorem nothing_any (v : Nat → Int) (A : Option Addr) (n c : Nat) (w : World) :
    Calls Try.prog 36 #[.agg #[.int .i64 (v 0), .int .i64 (v 1), .int .i64 (v 2), .int .i64 (v 3), .int .i64 (v 4), .int .i64 (v 5), .int .i64 (v 6), .int .i64 (v 7), .int .i64 (v 8), .int .i64 (v 9), .int .i64 (v 10), .int .i64 (v 11), .int .i64 (v 12), .int .i64 (v 13), .int .i64 (v 14), .int .i64 (v 15), .int .i64 (v 16), .slice A n c, .int .i64 (v 18), .int .i64 (v 19), .int .i64 (v 20)]] w fun e w' => ∃ b : Bool, e = .returned (.bool b) ∧ (b = true ↔ Nil v) ∧ Below w.heap.size w w' := by
  have hm : MAt (w.alloc (.cells #[.int .i64 (v 0), .int .i64 (v 1), .int .i64 (v 2), .int .i64 (v 3), .int .i64 (v 4), .int .i64 (v 5), .int .i64 (v 6), .int .i64 (v 7), .int .i64 (v 8), .int .i64 (v 9), .int .i64 (v 10), .int .i64 (v 11), .int .i64 (v 12), .int .i64 (v 13), .int .i64 (v 14), .int .i64 (v 15), .int .i64 (v 16), .slice A n c, .int .i64 (v 18), .int .i64 (v 19), .int .i64 (v 20)] 35)) w.heap.size v A n c := heap_alloc_new w _
  have HM0 := Lib.hid hm
  have HB0 := Lib.hid ((Below.refl w.heap.size w).alloc (Nat.le_refl _) (.cells #[.int .i64 (v 0), .int .i64 (v 1), .int .i64 (v 2), .int .i64 (v 3), .int .i64 (v 4), .int .i64 (v 5), .int .i64 (v 6), .int .i64 (v 7), .int .i64 (v 8), .int .i64 (v 9), .int .i64 (v 10), .int .i64 (v 11), .int .i64 (v 12), .int .i64 (v 13), .int .i64 (v 14), .int .i64 (v 15), .int .i64 (v 16), .slice A n c, .int .i64 (v 18), .int .i64 (v 19), .int .i64 (v 20)] 35))
  obtain ⟨S, hS⟩ : ∃ S, S = w.heap.size := ⟨_, rfl⟩
  have hs0 : S < (w.alloc (.cells #[.int .i64 (v 0), .int .i64 (v 1), .int .i64 (v 2), .int .i64 (v 3), .int .i64 (v 4), .int .i64 (v 5), .int .i64 (v 6), .int .i64 (v 7), .int .i64 (v 8), .int .i64 (v 9), .int .i64 (v 10), .int .i64 (v 11), .int .i64 (v 12), .int .i64 (v 13), .int .i64 (v 14), .int .i64 (v 15), .int .i64 (v 16), .slice A n c, .int .i64 (v 18), .int .i64 (v 19), .int .i64 (v 20)] 35)).heap.size := by simp [hS]
  have HSW : Hid (w.heap.size = S) := Lib.hid hS.symm
  clear hm
  go_enter Try.func36, Try.ntmps36
  go_wp2_with fail
  rw [← hS]
  rw [← hS] at HM0 HB0
  clear hS
  generalize w.alloc (.cells #[.int .i64 (v 0), .int .i64 (v 1), .int .i64 (v 2), .int .i64 (v 3), .int .i64 (v 4), .int .i64 (v 5), .int .i64 (v 6), .int .i64 (v 7), .int .i64 (v 8), .int .i64 (v 9), .int .i64 (v 10), .int .i64 (v 11), .int .i64 (v 12), .int .i64 (v 13), .int .i64 (v 14), .int .i64 (v 15), .int .i64 (v 16), .slice A n c, .int .i64 (v 18), .int .i64 (v 19), .int .i64 (v 20)] 35) = w0 at HM0 HB0 hs0 ⊢
  refine (at_any S 1 0 0 w0).mono ?_
  rintro e w1 ⟨p0, rfl, ge, lt, pt, hb⟩
  have HM1 := Lib.hid (HM0.out.below hb hs0)
  have HB1 := Lib.hid (HB0.out.trans (hb.mono (by omega)))
  have hs1 : S < w1.heap.size := Nat.lt_of_lt_of_le hs0 hb.size
  have HC0 : Hid (Clos w1 w1.heap.size S 1 (.func (.func 48) #[] #[.pointer (some ⟨p0, 0, none⟩)]) (.func (.func 49) #[] #[.pointer (some ⟨p0, 0, none⟩)])) := Lib.hid (.inl ⟨p0, by omega, lt, rfl, rfl, pt⟩)
  clear ge lt pt hb HM0 HB0 hs0
  go_wp2_with fail
  refine (at_any S 2 0 0 w1).mono ?_
  rintro e w2 ⟨p1, rfl, ge, lt, pt, hb⟩
  have HM2 := Lib.hid (HM1.out.below hb hs1)
  have HB2 := Lib.hid (HB1.out.trans (hb.mono (by omega)))
  have hs2 : S < w2.heap.size := Nat.lt_of_lt_of_le hs1 hb.size
  have HC0 := Lib.hid ((HC0.out.below hb (Nat.le_refl _)).more hb.size)
  have HC1 : Hid (Clos w2 w2.heap.size S 2 (.func (.func 48) #[] #[.pointer (some ⟨p1, 0, none⟩)]) (.func (.func 49) #[] #[.pointer (some ⟨p1, 0, none⟩)])) := Lib.hid (.inl ⟨p1, by omega, lt, rfl, rfl, pt⟩)
  clear ge lt pt hb HM1 HB1 hs1
  go_wp2_with fail
  refine (at_any S 3 0 0 w2).mono ?_
  rintro e w3 ⟨p2, rfl, ge, lt, pt, hb⟩
  have HM3 := Lib.hid (HM2.out.below hb hs2)
  have HB3 := Lib.hid (HB2.out.trans (hb.mono (by omega)))
  have hs3 : S < w3.heap.size := Nat.lt_of_lt_of_le hs2 hb.size
  have HC0 := Lib.hid ((HC0.out.below hb (Nat.le_refl _)).more hb.size)
  have HC1 := Lib.hid ((HC1.out.below hb (Nat.le_refl _)).more hb.size)
  have HC2 : Hid (Clos w3 w3.heap.size S 3 (.func (.func 48) #[] #[.pointer (some ⟨p2, 0, none⟩)]) (.func (.func 49) #[] #[.pointer (some ⟨p2, 0, none⟩)])) := Lib.hid (.inl ⟨p2, by omega, lt, rfl, rfl, pt⟩)
  clear ge lt pt hb HM2 HB2 hs2
  go_wp2_with fail
  refine (at_any S 4 0 0 w3).mono ?_
  rintro e w4 ⟨p3, rfl, ge, lt, pt, hb⟩
  have HM4 := Lib.hid (HM3.out.below hb hs3)
  have HB4 := Lib.hid (HB3.out.trans (hb.mono (by omega)))
  have hs4 : S < w4.heap.size := Nat.lt_of_lt_of_le hs3 hb.size
  have HC0 := Lib.hid ((HC0.out.below hb (Nat.le_refl _)).more hb.size)
  have HC1 := Lib.hid ((HC1.out.below hb (Nat.le_refl _)).more hb.size)
  have HC2 := Lib.hid ((HC2.out.below hb (Nat.le_refl _)).more hb.size)
  have HC3 : Hid (Clos w4 w4.heap.size S 4 (.func (.func 48) #[] #[.pointer (some ⟨p3, 0, none⟩)]) (.func (.func 49) #[] #[.pointer (some ⟨p3, 0, none⟩)])) := Lib.hid (.inl ⟨p3, by omega, lt, rfl, rfl, pt⟩)
  clear ge lt pt hb HM3 HB3 hs3
  go_wp2_with fail
  refine (at_any S 5 0 0 w4).mono ?_
  rintro e w5 ⟨p4, rfl, ge, lt, pt, hb⟩
  have HM5 := Lib.hid (HM4.out.below hb hs4)
  have HB5 := Lib.hid (HB4.out.trans (hb.mono (by omega)))
  have hs5 : S < w5.heap.size := Nat.lt_of_lt_of_le hs4 hb.size
  have HC0 := Lib.hid ((HC0.out.below hb (Nat.le_refl _)).more hb.size)
  have HC1 := Lib.hid ((HC1.out.below hb (Nat.le_refl _)).more hb.size)
  have HC2 := Lib.hid ((HC2.out.below hb (Nat.le_refl _)).more hb.size)
  have HC3 := Lib.hid ((HC3.out.below hb (Nat.le_refl _)).more hb.size)
  have HC4 : Hid (Clos w5 w5.heap.size S 5 (.func (.func 48) #[] #[.pointer (some ⟨p4, 0, none⟩)]) (.func (.func 49) #[] #[.pointer (some ⟨p4, 0, none⟩)])) := Lib.hid (.inl ⟨p4, by omega, lt, rfl, rfl, pt⟩)
  clear ge lt pt hb HM4 HB4 hs4
  go_wp2_with fail
  refine (at_any S 6 0 0 w5).mono ?_
  rintro e w6 ⟨p5, rfl, ge, lt, pt, hb⟩
  have HM6 := Lib.hid (HM5.out.below hb hs5)
  have HB6 := Lib.hid (HB5.out.trans (hb.mono (by omega)))
  have hs6 : S < w6.heap.size := Nat.lt_of_lt_of_le hs5 hb.size
  have HC0 := Lib.hid ((HC0.out.below hb (Nat.le_refl _)).more hb.size)
  have HC1 := Lib.hid ((HC1.out.below hb (Nat.le_refl _)).more hb.size)
  have HC2 := Lib.hid ((HC2.out.below hb (Nat.le_refl _)).more hb.size)
  have HC3 := Lib.hid ((HC3.out.below hb (Nat.le_refl _)).more hb.size)
  have HC4 := Lib.hid ((HC4.out.below hb (Nat.le_refl _)).more hb.size)
  have HC5 : Hid (Clos w6 w6.heap.size S 6 (.func (.func 48) #[] #[.pointer (some ⟨p5, 0, none⟩)]) (.func (.func 49) #[] #[.pointer (some ⟨p5, 0, none⟩)])) := Lib.hid (.inl ⟨p5, by omega, lt, rfl, rfl, pt⟩)
  clear ge lt pt hb HM5 HB5 hs5
  go_wp2_with fail
  refine (at_any S 7 0 0 w6).mono ?_
  rintro e w7 ⟨p6, rfl, ge, lt, pt, hb⟩
  have HM7 := Lib.hid (HM6.out.below hb hs6)
  have HB7 := Lib.hid (HB6.out.trans (hb.mono (by omega)))
  have hs7 : S < w7.heap.size := Nat.lt_of_lt_of_le hs6 hb.size
  have HC0 := Lib.hid ((HC0.out.below hb (Nat.le_refl _)).more hb.size)
  have HC1 := Lib.hid ((HC1.out.below hb (Nat.le_refl _)).more hb.size)
  have HC2 := Lib.hid ((HC2.out.below hb (Nat.le_refl _)).more hb.size)
  have HC3 := Lib.hid ((HC3.out.below hb (Nat.le_refl _)).more hb.size)
  have HC4 := Lib.hid ((HC4.out.below hb (Nat.le_refl _)).more hb.size)
  have HC5 := Lib.hid ((HC5.out.below hb (Nat.le_refl _)).more hb.size)
  have HC6 : Hid (Clos w7 w7.heap.size S 7 (.func (.func 48) #[] #[.pointer (some ⟨p6, 0, none⟩)]) (.func (.func 49) #[] #[.pointer (some ⟨p6, 0, none⟩)])) := Lib.hid (.inl ⟨p6, by omega, lt, rfl, rfl, pt⟩)
  clear ge lt pt hb HM6 HB6 hs6
  go_wp2_with fail
  refine (at_any S 8 0 0 w7).mono ?_
  rintro e w8 ⟨p7, rfl, ge, lt, pt, hb⟩
  have HM8 := Lib.hid (HM7.out.below hb hs7)
  have HB8 := Lib.hid (HB7.out.trans (hb.mono (by omega)))
  have hs8 : S < w8.heap.size := Nat.lt_of_lt_of_le hs7 hb.size
  have HC0 := Lib.hid ((HC0.out.below hb (Nat.le_refl _)).more hb.size)
  have HC1 := Lib.hid ((HC1.out.below hb (Nat.le_refl _)).more hb.size)
  have HC2 := Lib.hid ((HC2.out.below hb (Nat.le_refl _)).more hb.size)
  have HC3 := Lib.hid ((HC3.out.below hb (Nat.le_refl _)).more hb.size)
  have HC4 := Lib.hid ((HC4.out.below hb (Nat.le_refl _)).more hb.size)
  have HC5 := Lib.hid ((HC5.out.below hb (Nat.le_refl _)).more hb.size)
  have HC6 := Lib.hid ((HC6.out.below hb (Nat.le_refl _)).more hb.size)
  have HC7 : Hid (Clos w8 w8.heap.size S 8 (.func (.func 48) #[] #[.pointer (some ⟨p7, 0, none⟩)]) (.func (.func 49) #[] #[.pointer (some ⟨p7, 0, none⟩)])) := Lib.hid (.inl ⟨p7, by omega, lt, rfl, rfl, pt⟩)
  clear ge lt pt hb HM7 HB7 hs7
  go_wp2_with fail
  refine (at_any S 9 0 0 w8).mono ?_
  rintro e w9 ⟨p8, rfl, ge, lt, pt, hb⟩
  have HM9 := Lib.hid (HM8.out.below hb hs8)
  have HB9 := Lib.hid (HB8.out.trans (hb.mono (by omega)))
  have hs9 : S < w9.heap.size := Nat.lt_of_lt_of_le hs8 hb.size
  have HC0 := Lib.hid ((HC0.out.below hb (Nat.le_refl _)).more hb.size)
  have HC1 := Lib.hid ((HC1.out.below hb (Nat.le_refl _)).more hb.size)
  have HC2 := Lib.hid ((HC2.out.below hb (Nat.le_refl _)).more hb.size)
  have HC3 := Lib.hid ((HC3.out.below hb (Nat.le_refl _)).more hb.size)
  have HC4 := Lib.hid ((HC4.out.below hb (Nat.le_refl _)).more hb.size)
  have HC5 := Lib.hid ((HC5.out.below hb (Nat.le_refl _)).more hb.size)
  have HC6 := Lib.hid ((HC6.out.below hb (Nat.le_refl _)).more hb.size)
  have HC7 := Lib.hid ((HC7.out.below hb (Nat.le_refl _)).more hb.size)
  have HC8 : Hid (Clos w9 w9.heap.size S 9 (.func (.func 48) #[] #[.pointer (some ⟨p8, 0, none⟩)]) (.func (.func 49) #[] #[.pointer (some ⟨p8, 0, none⟩)])) := Lib.hid (.inl ⟨p8, by omega, lt, rfl, rfl, pt⟩)
  clear ge lt pt hb HM8 HB8 hs8
  go_wp2_with fail
  refine (at_any S 10 0 0 w9).mono ?_
  rintro e w10 ⟨p9, rfl, ge, lt, pt, hb⟩
  have HM10 := Lib.hid (HM9.out.below hb hs9)
  have HB10 := Lib.hid (HB9.out.trans (hb.mono (by omega)))
  have hs10 : S < w10.heap.size := Nat.lt_of_lt_of_le hs9 hb.size
  have HC0 := Lib.hid ((HC0.out.below hb (Nat.le_refl _)).more hb.size)
  have HC1 := Lib.hid ((HC1.out.below hb (Nat.le_refl _)).more hb.size)
  have HC2 := Lib.hid ((HC2.out.below hb (Nat.le_refl _)).more hb.size)
  have HC3 := Lib.hid ((HC3.out.below hb (Nat.le_refl _)).more hb.size)
  have HC4 := Lib.hid ((HC4.out.below hb (Nat.le_refl _)).more hb.size)
  have HC5 := Lib.hid ((HC5.out.below hb (Nat.le_refl _)).more hb.size)
  have HC6 := Lib.hid ((HC6.out.below hb (Nat.le_refl _)).more hb.size)
  have HC7 := Lib.hid ((HC7.out.below hb (Nat.le_refl _)).more hb.size)
  have HC8 := Lib.hid ((HC8.out.below hb (Nat.le_refl _)).more hb.size)
  have HC9 : Hid (Clos w10 w10.heap.size S 10 (.func (.func 48) #[] #[.pointer (some ⟨p9, 0, none⟩)]) (.func (.func 49) #[] #[.pointer (some ⟨p9, 0, none⟩)])) := Lib.hid (.inl ⟨p9, by omega, lt, rfl, rfl, pt⟩)
  clear ge lt pt hb HM9 HB9 hs9
  go_wp2_with fail
  refine (at_any S 15 0 0 w10).mono ?_
  rintro e w11 ⟨p10, rfl, ge, lt, pt, hb⟩
  have HM11 := Lib.hid (HM10.out.below hb hs10)
  have HB11 := Lib.hid (HB10.out.trans (hb.mono (by omega)))
  have hs11 : S < w11.heap.size := Nat.lt_of_lt_of_le hs10 hb.size
  have HC0 := Lib.hid ((HC0.out.below hb (Nat.le_refl _)).more hb.size)
  have HC1 := Lib.hid ((HC1.out.below hb (Nat.le_refl _)).more hb.size)
  have HC2 := Lib.hid ((HC2.out.below hb (Nat.le_refl _)).more hb.size)
  have HC3 := Lib.hid ((HC3.out.below hb (Nat.le_refl _)).more hb.size)
  have HC4 := Lib.hid ((HC4.out.below hb (Nat.le_refl _)).more hb.size)
  have HC5 := Lib.hid ((HC5.out.below hb (Nat.le_refl _)).more hb.size)
  have HC6 := Lib.hid ((HC6.out.below hb (Nat.le_refl _)).more hb.size)
  have HC7 := Lib.hid ((HC7.out.below hb (Nat.le_refl _)).more hb.size)
  have HC8 := Lib.hid ((HC8.out.below hb (Nat.le_refl _)).more hb.size)
  have HC9 := Lib.hid ((HC9.out.below hb (Nat.le_refl _)).more hb.size)
  have HC10 : Hid (Clos w11 w11.heap.size S 15 (.func (.func 48) #[] #[.pointer (some ⟨p10, 0, none⟩)]) (.func (.func 49) #[] #[.pointer (some ⟨p10, 0, none⟩)])) := Lib.hid (.inl ⟨p10, by omega, lt, rfl, rfl, pt⟩)
  clear ge lt pt hb HM10 HB10 hs10
  go_wp2_with fail
  refine (at_any S 16 0 0 w11).mono ?_
  rintro e w12 ⟨p11, rfl, ge, lt, pt, hb⟩
  have HM12 := Lib.hid (HM11.out.below hb hs11)
  have HB12 := Lib.hid (HB11.out.trans (hb.mono (by omega)))
  have hs12 : S < w12.heap.size := Nat.lt_of_lt_of_le hs11 hb.size
  have HC0 := Lib.hid ((HC0.out.below hb (Nat.le_refl _)).more hb.size)
  have HC1 := Lib.hid ((HC1.out.below hb (Nat.le_refl _)).more hb.size)
  have HC2 := Lib.hid ((HC2.out.below hb (Nat.le_refl _)).more hb.size)
  have HC3 := Lib.hid ((HC3.out.below hb (Nat.le_refl _)).more hb.size)
  have HC4 := Lib.hid ((HC4.out.below hb (Nat.le_refl _)).more hb.size)
  have HC5 := Lib.hid ((HC5.out.below hb (Nat.le_refl _)).more hb.size)
  have HC6 := Lib.hid ((HC6.out.below hb (Nat.le_refl _)).more hb.size)
  have HC7 := Lib.hid ((HC7.out.below hb (Nat.le_refl _)).more hb.size)
  have HC8 := Lib.hid ((HC8.out.below hb (Nat.le_refl _)).more hb.size)
  have HC9 := Lib.hid ((HC9.out.below hb (Nat.le_refl _)).more hb.size)
  have HC10 := Lib.hid ((HC10.out.below hb (Nat.le_refl _)).more hb.size)
  have HC11 : Hid (Clos w12 w12.heap.size S 16 (.func (.func 48) #[] #[.pointer (some ⟨p11, 0, none⟩)]) (.func (.func 49) #[] #[.pointer (some ⟨p11, 0, none⟩)])) := Lib.hid (.inl ⟨p11, by omega, lt, rfl, rfl, pt⟩)
  clear ge lt pt hb HM11 HB11 hs11
  have hrow := heap_alloc_new w12 (.cells #[.func (.func 48) #[] #[.pointer (some ⟨p0, 0, none⟩)], .func (.func 49) #[] #[.pointer (some ⟨p0, 0, none⟩)], .int .i64 0, .int .i64 0, .func (.func 48) #[] #[.pointer (some ⟨p1, 0, none⟩)], .func (.func 49) #[] #[.pointer (some ⟨p1, 0, none⟩)], .int .i64 0, .int .i64 0, .func (.func 48) #[] #[.pointer (some ⟨p2, 0, none⟩)], .func (.func 49) #[] #[.pointer (some ⟨p2, 0, none⟩)], .int .i64 0, .int .i64 0, .func (.func 48) #[] #[.pointer (some ⟨p3, 0, none⟩)], .func (.func 49) #[] #[.pointer (some ⟨p3, 0, none⟩)], .int .i64 0, .int .i64 0, .func (.func 48) #[] #[.pointer (some ⟨p4, 0, none⟩)], .func (.func 49) #[] #[.pointer (some ⟨p4, 0, none⟩)], .int .i64 0, .int .i64 0, .func (.func 48) #[] #[.pointer (some ⟨p5, 0, none⟩)], .func (.func 49) #[] #[.pointer (some ⟨p5, 0, none⟩)], .int .i64 0, .int .i64 0, .func (.func 48) #[] #[.pointer (some ⟨p6, 0, none⟩)], .func (.func 49) #[] #[.pointer (some ⟨p6, 0, none⟩)], .int .i64 0, .int .i64 0, .func (.func 48) #[] #[.pointer (some ⟨p7, 0, none⟩)], .func (.func 49) #[] #[.pointer (some ⟨p7, 0, none⟩)], .int .i64 0, .int .i64 0, .func (.func 48) #[] #[.pointer (some ⟨p8, 0, none⟩)], .func (.func 49) #[] #[.pointer (some ⟨p8, 0, none⟩)], .int .i64 0, .int .i64 0, .func (.func 48) #[] #[.pointer (some ⟨p9, 0, none⟩)], .func (.func 49) #[] #[.pointer (some ⟨p9, 0, none⟩)], .int .i64 0, .int .i64 0, .func (.func 48) #[] #[.pointer (some ⟨p10, 0, none⟩)], .func (.func 49) #[] #[.pointer (some ⟨p10, 0, none⟩)], .int .i64 0, .int .i64 0, .func (.func 48) #[] #[.pointer (some ⟨p11, 0, none⟩)], .func (.func 49) #[] #[.pointer (some ⟨p11, 0, none⟩)], .int .i64 0, .int .i64 0] 82)
  have hal : Below w12.heap.size w12 (w12.alloc (.cells #[.func (.func 48) #[] #[.pointer (some ⟨p0, 0, none⟩)], .func (.func 49) #[] #[.pointer (some ⟨p0, 0, none⟩)], .int .i64 0, .int .i64 0, .func (.func 48) #[] #[.pointer (some ⟨p1, 0, none⟩)], .func (.func 49) #[] #[.pointer (some ⟨p1, 0, none⟩)], .int .i64 0, .int .i64 0, .func (.func 48) #[] #[.pointer (some ⟨p2, 0, none⟩)], .func (.func 49) #[] #[.pointer (some ⟨p2, 0, none⟩)], .int .i64 0, .int .i64 0, .func (.func 48) #[] #[.pointer (some ⟨p3, 0, none⟩)], .func (.func 49) #[] #[.pointer (some ⟨p3, 0, none⟩)], .int .i64 0, .int .i64 0, .func (.func 48) #[] #[.pointer (some ⟨p4, 0, none⟩)], .func (.func 49) #[] #[.pointer (some ⟨p4, 0, none⟩)], .int .i64 0, .int .i64 0, .func (.func 48) #[] #[.pointer (some ⟨p5, 0, none⟩)], .func (.func 49) #[] #[.pointer (some ⟨p5, 0, none⟩)], .int .i64 0, .int .i64 0, .func (.func 48) #[] #[.pointer (some ⟨p6, 0, none⟩)], .func (.func 49) #[] #[.pointer (some ⟨p6, 0, none⟩)], .int .i64 0, .int .i64 0, .func (.func 48) #[] #[.pointer (some ⟨p7, 0, none⟩)], .func (.func 49) #[] #[.pointer (some ⟨p7, 0, none⟩)], .int .i64 0, .int .i64 0, .func (.func 48) #[] #[.pointer (some ⟨p8, 0, none⟩)], .func (.func 49) #[] #[.pointer (some ⟨p8, 0, none⟩)], .int .i64 0, .int .i64 0, .func (.func 48) #[] #[.pointer (some ⟨p9, 0, none⟩)], .func (.func 49) #[] #[.pointer (some ⟨p9, 0, none⟩)], .int .i64 0, .int .i64 0, .func (.func 48) #[] #[.pointer (some ⟨p10, 0, none⟩)], .func (.func 49) #[] #[.pointer (some ⟨p10, 0, none⟩)], .int .i64 0, .int .i64 0, .func (.func 48) #[] #[.pointer (some ⟨p11, 0, none⟩)], .func (.func 49) #[] #[.pointer (some ⟨p11, 0, none⟩)], .int .i64 0, .int .i64 0] 82)) := (Below.refl _ _).alloc (Nat.le_refl _) _
  have C0 := (HC0.out.below hal (Nat.le_refl _)).more hal.size
  have C1 := (HC1.out.below hal (Nat.le_refl _)).more hal.size
  have C2 := (HC2.out.below hal (Nat.le_refl _)).more hal.size
  have C3 := (HC3.out.below hal (Nat.le_refl _)).more hal.size
  have C4 := (HC4.out.below hal (Nat.le_refl _)).more hal.size
  have C5 := (HC5.out.below hal (Nat.le_refl _)).more hal.size
  have C6 := (HC6.out.below hal (Nat.le_refl _)).more hal.size
  have C7 := (HC7.out.below hal (Nat.le_refl _)).more hal.size
  have C8 := (HC8.out.below hal (Nat.le_refl _)).more hal.size
  have C9 := (HC9.out.below hal (Nat.le_refl _)).more hal.size
  have C10 := (HC10.out.below hal (Nat.le_refl _)).more hal.size
  have C11 := (HC11.out.below hal (Nat.le_refl _)).more hal.size
  have hF : FieldsIn (w12.alloc (.cells #[.func (.func 48) #[] #[.pointer (some ⟨p0, 0, none⟩)], .func (.func 49) #[] #[.pointer (some ⟨p0, 0, none⟩)], .int .i64 0, .int .i64 0, .func (.func 48) #[] #[.pointer (some ⟨p1, 0, none⟩)], .func (.func 49) #[] #[.pointer (some ⟨p1, 0, none⟩)], .int .i64 0, .int .i64 0, .func (.func 48) #[] #[.pointer (some ⟨p2, 0, none⟩)], .func (.func 49) #[] #[.pointer (some ⟨p2, 0, none⟩)], .int .i64 0, .int .i64 0, .func (.func 48) #[] #[.pointer (some ⟨p3, 0, none⟩)], .func (.func 49) #[] #[.pointer (some ⟨p3, 0, none⟩)], .int .i64 0, .int .i64 0, .func (.func 48) #[] #[.pointer (some ⟨p4, 0, none⟩)], .func (.func 49) #[] #[.pointer (some ⟨p4, 0, none⟩)], .int .i64 0, .int .i64 0, .func (.func 48) #[] #[.pointer (some ⟨p5, 0, none⟩)], .func (.func 49) #[] #[.pointer (some ⟨p5, 0, none⟩)], .int .i64 0, .int .i64 0, .func (.func 48) #[] #[.pointer (some ⟨p6, 0, none⟩)], .func (.func 49) #[] #[.pointer (some ⟨p6, 0, none⟩)], .int .i64 0, .int .i64 0, .func (.func 48) #[] #[.pointer (some ⟨p7, 0, none⟩)], .func (.func 49) #[] #[.pointer (some ⟨p7, 0, none⟩)], .int .i64 0, .int .i64 0, .func (.func 48) #[] #[.pointer (some ⟨p8, 0, none⟩)], .func (.func 49) #[] #[.pointer (some ⟨p8, 0, none⟩)], .int .i64 0, .int .i64 0, .func (.func 48) #[] #[.pointer (some ⟨p9, 0, none⟩)], .func (.func 49) #[] #[.pointer (some ⟨p9, 0, none⟩)], .int .i64 0, .int .i64 0, .func (.func 48) #[] #[.pointer (some ⟨p10, 0, none⟩)], .func (.func 49) #[] #[.pointer (some ⟨p10, 0, none⟩)], .int .i64 0, .int .i64 0, .func (.func 48) #[] #[.pointer (some ⟨p11, 0, none⟩)], .func (.func 49) #[] #[.pointer (some ⟨p11, 0, none⟩)], .int .i64 0, .int .i64 0] 82)) (w12.alloc (.cells #[.func (.func 48) #[] #[.pointer (some ⟨p0, 0, none⟩)], .func (.func 49) #[] #[.pointer (some ⟨p0, 0, none⟩)], .int .i64 0, .int .i64 0, .func (.func 48) #[] #[.pointer (some ⟨p1, 0, none⟩)], .func (.func 49) #[] #[.pointer (some ⟨p1, 0, none⟩)], .int .i64 0, .int .i64 0, .func (.func 48) #[] #[.pointer (some ⟨p2, 0, none⟩)], .func (.func 49) #[] #[.pointer (some ⟨p2, 0, none⟩)], .int .i64 0, .int .i64 0, .func (.func 48) #[] #[.pointer (some ⟨p3, 0, none⟩)], .func (.func 49) #[] #[.pointer (some ⟨p3, 0, none⟩)], .int .i64 0, .int .i64 0, .func (.func 48) #[] #[.pointer (some ⟨p4, 0, none⟩)], .func (.func 49) #[] #[.pointer (some ⟨p4, 0, none⟩)], .int .i64 0, .int .i64 0, .func (.func 48) #[] #[.pointer (some ⟨p5, 0, none⟩)], .func (.func 49) #[] #[.pointer (some ⟨p5, 0, none⟩)], .int .i64 0, .int .i64 0, .func (.func 48) #[] #[.pointer (some ⟨p6, 0, none⟩)], .func (.func 49) #[] #[.pointer (some ⟨p6, 0, none⟩)], .int .i64 0, .int .i64 0, .func (.func 48) #[] #[.pointer (some ⟨p7, 0, none⟩)], .func (.func 49) #[] #[.pointer (some ⟨p7, 0, none⟩)], .int .i64 0, .int .i64 0, .func (.func 48) #[] #[.pointer (some ⟨p8, 0, none⟩)], .func (.func 49) #[] #[.pointer (some ⟨p8, 0, none⟩)], .int .i64 0, .int .i64 0, .func (.func 48) #[] #[.pointer (some ⟨p9, 0, none⟩)], .func (.func 49) #[] #[.pointer (some ⟨p9, 0, none⟩)], .int .i64 0, .int .i64 0, .func (.func 48) #[] #[.pointer (some ⟨p10, 0, none⟩)], .func (.func 49) #[] #[.pointer (some ⟨p10, 0, none⟩)], .int .i64 0, .int .i64 0, .func (.func 48) #[] #[.pointer (some ⟨p11, 0, none⟩)], .func (.func 49) #[] #[.pointer (some ⟨p11, 0, none⟩)], .int .i64 0, .int .i64 0] 82)).heap.size S (some ⟨w12.heap.size, 0, none⟩) noL := by
    refine .inr ⟨w12.heap.size, rfl, hs12, ltb hrow, fun i f hf => ?_⟩
    have hi : i < 12 := (List.getElem?_eq_some_iff.1 hf).1
    have hi : i = 0 ∨ i = 1 ∨ i = 2 ∨ i = 3 ∨ i = 4 ∨ i = 5 ∨ i = 6 ∨ i = 7 ∨ i = 8 ∨ i = 9 ∨ i = 10 ∨ i = 11 := by omega
    rcases hi with rfl | rfl | rfl | rfl | rfl | rfl | rfl | rfl | rfl | rfl | rfl | rfl
    · obtain rfl := Option.some.inj hf
      exact ⟨_, _, C0, cellb hrow rfl, cellb hrow rfl, cellb hrow rfl, cellb hrow rfl⟩
    · obtain rfl := Option.some.inj hf
      exact ⟨_, _, C1, cellb hrow rfl, cellb hrow rfl, cellb hrow rfl, cellb hrow rfl⟩
    · obtain rfl := Option.some.inj hf
      exact ⟨_, _, C2, cellb hrow rfl, cellb hrow rfl, cellb hrow rfl, cellb hrow rfl⟩
    · obtain rfl := Option.some.inj hf
      exact ⟨_, _, C3, cellb hrow rfl, cellb hrow rfl, cellb hrow rfl, cellb hrow rfl⟩
    · obtain rfl := Option.some.inj hf
      exact ⟨_, _, C4, cellb hrow rfl, cellb hrow rfl, cellb hrow rfl, cellb hrow rfl⟩
    · obtain rfl := Option.some.inj hf
      exact ⟨_, _, C5, cellb hrow rfl, cellb hrow rfl, cellb hrow rfl, cellb hrow rfl⟩
    · obtain rfl := Option.some.inj hf
      exact ⟨_, _, C6, cellb hrow rfl, cellb hrow rfl, cellb hrow rfl, cellb hrow rfl⟩
    · obtain rfl := Option.some.inj hf
      exact ⟨_, _, C7, cellb hrow rfl, cellb hrow rfl, cellb hrow rfl, cellb hrow rfl⟩
    · obtain rfl := Option.some.inj hf
      exact ⟨_, _, C8, cellb hrow rfl, cellb hrow rfl, cellb hrow rfl, cellb hrow rfl⟩
    · obtain rfl := Option.some.inj hf
      exact ⟨_, _, C9, cellb hrow rfl, cellb hrow rfl, cellb hrow rfl, cellb hrow rfl⟩
    · obtain rfl := Option.some.inj hf
      exact ⟨_, _, C10, cellb hrow rfl, cellb hrow rfl, cellb hrow rfl, cellb hrow rfl⟩
    · obtain rfl := Option.some.inj hf
      exact ⟨_, _, C11, cellb hrow rfl, cellb hrow rfl, cellb hrow rfl, cellb hrow rfl⟩
  obtain ⟨R, hR⟩ : ∃ R, R = w12.heap.size := ⟨_, rfl⟩
  rw [← hR] at hF
  have HF := Lib.hid hF
  have HM := Lib.hid (HM12.out.below hal hs12)
  have HB := Lib.hid (HB12.out.trans (hal.mono (by omega)))
  have hsr : S < (w12.alloc (.cells #[.func (.func 48) #[] #[.pointer (some ⟨p0, 0, none⟩)], .func (.func 49) #[] #[.pointer (some ⟨p0, 0, none⟩)], .int .i64 0, .int .i64 0, .func (.func 48) #[] #[.pointer (some ⟨p1, 0, none⟩)], .func (.func 49) #[] #[.pointer (some ⟨p1, 0, none⟩)], .int .i64 0, .int .i64 0, .func (.func 48) #[] #[.pointer (some ⟨p2, 0, none⟩)], .func (.func 49) #[] #[.pointer (some ⟨p2, 0, none⟩)], .int .i64 0, .int .i64 0, .func (.func 48) #[] #[.pointer (some ⟨p3, 0, none⟩)], .func (.func 49) #[] #[.pointer (some ⟨p3, 0, none⟩)], .int .i64 0, .int .i64 0, .func (.func 48) #[] #[.pointer (some ⟨p4, 0, none⟩)], .func (.func 49) #[] #[.pointer (some ⟨p4, 0, none⟩)], .int .i64 0, .int .i64 0, .func (.func 48) #[] #[.pointer (some ⟨p5, 0, none⟩)], .func (.func 49) #[] #[.pointer (some ⟨p5, 0, none⟩)], .int .i64 0, .int .i64 0, .func (.func 48) #[] #[.pointer (some ⟨p6, 0, none⟩)], .func (.func 49) #[] #[.pointer (some ⟨p6, 0, none⟩)], .int .i64 0, .int .i64 0, .func (.func 48) #[] #[.pointer (some ⟨p7, 0, none⟩)], .func (.func 49) #[] #[.pointer (some ⟨p7, 0, none⟩)], .int .i64 0, .int .i64 0, .func (.func 48) #[] #[.pointer (some ⟨p8, 0, none⟩)], .func (.func 49) #[] #[.pointer (some ⟨p8, 0, none⟩)], .int .i64 0, .int .i64 0, .func (.func 48) #[] #[.pointer (some ⟨p9, 0, none⟩)], .func (.func 49) #[] #[.pointer (some ⟨p9, 0, none⟩)], .int .i64 0, .int .i64 0, .func (.func 48) #[] #[.pointer (some ⟨p10, 0, none⟩)], .func (.func 49) #[] #[.pointer (some ⟨p10, 0, none⟩)], .int .i64 0, .int .i64 0, .func (.func 48) #[] #[.pointer (some ⟨p11, 0, none⟩)], .func (.func 49) #[] #[.pointer (some ⟨p11, 0, none⟩)], .int .i64 0, .int .i64 0] 82)).heap.size := by simp; omega
  clear hrow hal hF HM12 HB12 hs12 C0 HC0 C1 HC1 C2 HC2 C3 HC3 C4 HC4 C5 HC5 C6 HC6 C7 HC7 C8 HC8 C9 HC9 C10 HC10 C11 HC11
  go_wp2_with fail
  rw [← hR]
  clear hR
  generalize (w12.alloc (.cells #[.func (.func 48) #[] #[.pointer (some ⟨p0, 0, none⟩)], .func (.func 49) #[] #[.pointer (some ⟨p0, 0, none⟩)], .int .i64 0, .int .i64 0, .func (.func 48) #[] #[.pointer (some ⟨p1, 0, none⟩)], .func (.func 49) #[] #[.pointer (some ⟨p1, 0, none⟩)], .int .i64 0, .int .i64 0, .func (.func 48) #[] #[.pointer (some ⟨p2, 0, none⟩)], .func (.func 49) #[] #[.pointer (some ⟨p2, 0, none⟩)], .int .i64 0, .int .i64 0, .func (.func 48) #[] #[.pointer (some ⟨p3, 0, none⟩)], .func (.func 49) #[] #[.pointer (some ⟨p3, 0, none⟩)], .int .i64 0, .int .i64 0, .func (.func 48) #[] #[.pointer (some ⟨p4, 0, none⟩)], .func (.func 49) #[] #[.pointer (some ⟨p4, 0, none⟩)], .int .i64 0, .int .i64 0, .func (.func 48) #[] #[.pointer (some ⟨p5, 0, none⟩)], .func (.func 49) #[] #[.pointer (some ⟨p5, 0, none⟩)], .int .i64 0, .int .i64 0, .func (.func 48) #[] #[.pointer (some ⟨p6, 0, none⟩)], .func (.func 49) #[] #[.pointer (some ⟨p6, 0, none⟩)], .int .i64 0, .int .i64 0, .func (.func 48) #[] #[.pointer (some ⟨p7, 0, none⟩)], .func (.func 49) #[] #[.pointer (some ⟨p7, 0, none⟩)], .int .i64 0, .int .i64 0, .func (.func 48) #[] #[.pointer (some ⟨p8, 0, none⟩)], .func (.func 49) #[] #[.pointer (some ⟨p8, 0, none⟩)], .int .i64 0, .int .i64 0, .func (.func 48) #[] #[.pointer (some ⟨p9, 0, none⟩)], .func (.func 49) #[] #[.pointer (some ⟨p9, 0, none⟩)], .int .i64 0, .int .i64 0, .func (.func 48) #[] #[.pointer (some ⟨p10, 0, none⟩)], .func (.func 49) #[] #[.pointer (some ⟨p10, 0, none⟩)], .int .i64 0, .int .i64 0, .func (.func 48) #[] #[.pointer (some ⟨p11, 0, none⟩)], .func (.func 49) #[] #[.pointer (some ⟨p11, 0, none⟩)], .int .i64 0, .int .i64 0] 82)) = wr0 at HF HM HB hsr ⊢
  refine (all_any _ _ _ _).mono ?_
  rintro e w' ⟨rfl, rfl⟩
  go_wp2_with fail
  obtain ⟨BN, hBN⟩ : ∃ B, B = wr0.heap.size := ⟨_, rfl⟩
  rw [← hBN] at HF
  go_loopw [34] (fun i wr => ∃ j : Nat, j ≤ 12 ∧ i = .int .i64 j ∧ BN ≤ wr.heap.size ∧ S < BN ∧ Hid (FieldsIn wr BN S (some ⟨R, 0, none⟩) noL) ∧ Hid (MAt wr S v A n c) ∧ Hid (Below S w wr) ∧ Hid (∀ f ∈ noL.take j, v f.off = 0)) (fun i _ => 12 - (intOf i).toNat)
  case atStart => exact ⟨0, by omega, rfl, by omega, by omega, HF, HM, HB, Lib.hid (fun f hf => by simp at hf)⟩
  case round =>
    clear HF HM HB hsr hBN
    obtain ⟨j, hj, rfl, hbn, hSB, HF, HM, HB, HZ⟩ := hrel
    by_cases hj12 : j < 12
    · have hj' : (j : Int) < 12 := by omega
      have hj0 : (0 : Int) ≤ (j : Int) := by omega
      obtain ⟨f, hf⟩ : ∃ f, noL[j]? = some f := ⟨noL[j]'hj12, List.getElem?_eq_getElem hj12⟩
      have hmem : f ∈ noL := List.mem_of_getElem? hf
      have hoff : ∀ f ∈ noL, f.off ≤ 16 := by decide
      have ho := hoff f hmem
      obtain ⟨sb, esb, _, hsb, hrows⟩ := HF.out.resolve_left (by simp [noL])
      injection esb with esb
      injection esb with esb _ _
      subst esb
      obtain ⟨g, s, hc, c1, c2, c3, c4⟩ := hrows j f hf
      rcases hc with ⟨pb, _, lt, rfl, rfl, pt⟩ | ⟨e18, _⟩
      · obtain ⟨x, hx⟩ : ∃ x, x = v f.off := ⟨_, rfl⟩
        have hcx := HM.out.cell (o := f.off) (by omega) (by omega)
        rw [← hx] at hcx
        obtain ⟨lo, hlo⟩ : ∃ x, x = f.lo := ⟨_, rfl⟩
        obtain ⟨hi, hhi⟩ : ∃ x, x = f.hi := ⟨_, rfl⟩
        rw [← hlo] at c3
        rw [← hhi] at c4
        obtain ⟨off, hof⟩ : ∃ x, x = f.off := ⟨_, rfl⟩
        rw [← hof] at hcx pt
        have HX := Lib.hid hx
        have HG := Lib.hid (fun (o : Obj) => get1 pb S off x (wr.alloc o) (keepA pt) (keepA hcx))
        clear hx hcx pt hlo hhi hrows hoff
        have hal : ∀ o, Below wr.heap.size wr (wr.alloc o) := fun o => (Below.refl _ _).alloc (Nat.le_refl _) o
        have HAL := Lib.hid hal
        clear hal
        go_wp2_with fail
        refine (HG.out _).mono ?_
        rintro e w' ⟨rfl, rfl⟩
        clear c1 c2 c3 c4
        by_cases hz : x = 0
        · have hz2 : (x != 0) = false := by simp [hz]
          go_wp2_with fail
          go_roundw
          case rel => exact ⟨j + 1, by omega, by go_num, by simp; omega, hSB, Lib.hid (HF.out.below (HAL.out _) hbn), Lib.hid (HM.out.below (HAL.out _) (by omega)), Lib.hid (HB.out.trans ((HAL.out _).mono (by omega))), Lib.hid (fun f' hf' => by
            rw [List.take_add_one, hf] at hf'
            simp at hf'
            rcases hf' with hf' | rfl
            · exact HZ.out f' hf'
            · rw [← HX.out, hz])⟩
          case measure => simp [intOf]; omega
        · have hz2 : (x != 0) = true := by simp [hz]
          go_wp2_with fail
          go_ret
          refine ⟨false, rfl, ⟨fun h => by simp at h, fun h => absurd ((HX.out).trans (h.1 f hmem)) hz⟩, ?_⟩
          rw [HSW.out]
          exact HB.out.trans ((HAL.out _).mono (by omega))
      · omega
    · have hj : j = 12 := by omega
      subst hj
      have hZ : ∀ f ∈ noL, v f.off = 0 := HZ.out
      have HZ := Lib.hid hZ
      clear hZ HF
      have m11 := cellb (i := 11) HM.out rfl
      have m12 := cellb (i := 12) HM.out rfl
      have m13 := cellb (i := 13) HM.out rfl
      have m14 := cellb (i := 14) HM.out rfl
      have m18 := cellb (i := 18) HM.out rfl
      have m19 := cellb (i := 19) HM.out rfl
      have m20 := cellb (i := 20) HM.out rfl
      by_cases hD : v 11 = 0 ∧ v 12 = 0 ∧ v 13 = 0 ∧ v 14 = 0
      · have q1 : ∀ w, (Go.binOp .eql 26 (.agg #[.int .i64 (v 11), .int .i64 (v 12), .int .i64 (v 13), .int .i64 (v 14)]) (.agg #[.int .i64 0, .int .i64 0, .int .i64 0, .int .i64 0])).run Try.prog w = .ok (.bool true) w := fun w => by rw [eq_vec]; simp [hD]
        by_cases hR : v 18 = 0 ∧ v 19 = 0 ∧ v 20 = 0
        · have q2 : ∀ w, (Go.binOp .eql 33 (.agg #[.int .i64 (v 18), .int .i64 (v 19), .int .i64 (v 20)]) (.agg #[.int .i64 0, .int .i64 0, .int .i64 0])).run Try.prog w = .ok (.bool true) w := fun w => by rw [eq_rep]; simp [hR]
          have HD := Lib.hid hD
          have HR := Lib.hid hR
          clear hD hR
          go_wp2_with fail
          go_ret
          exact ⟨true, rfl, ⟨fun _ => ⟨HZ.out, HD.out, HR.out⟩, fun _ => rfl⟩, by rw [HSW.out]; exact HB.out⟩
        · have q2 : ∀ w, (Go.binOp .eql 33 (.agg #[.int .i64 (v 18), .int .i64 (v 19), .int .i64 (v 20)]) (.agg #[.int .i64 0, .int .i64 0, .int .i64 0])).run Try.prog w = .ok (.bool false) w := fun w => by rw [eq_rep]; simp only [hR, decide_false]
          have HD := Lib.hid hD
          have HR := Lib.hid hR
          clear hD hR
          go_wp2_with fail
          go_ret
          exact ⟨false, rfl, ⟨fun h => by simp at h, fun h => absurd h.2.2 HR.out⟩, by rw [HSW.out]; exact HB.out⟩
      · have q1 : ∀ w, (Go.binOp .eql 26 (.agg #[.int .i64 (v 11), .int .i64 (v 12), .int .i64 (v 13), .int .i64 (v 14)]) (.agg #[.int .i64 0, .int .i64 0, .int .i64 0, .int .i64 0])).run Try.prog w = .ok (.bool false) w := fun w => by rw [eq_vec]; simp only [hD, decide_false]
        have HD := Lib.hid hD
        clear hD
        go_wp2_with fail
        go_ret
        exact ⟨false, rfl, ⟨fun h => by simp at h, fun h => absurd h.2.1 HD.out⟩, by rw [HSW.out]; exact HB.out⟩
end Go.Proofs.Ytoeamofemepgpaa
