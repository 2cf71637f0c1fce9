/- The fields of a message of the kind 3: a loop that appends. -/
import Derived.Test.YtoeamofemepgpaaMsg
import Derived.Test.YtoeamofemepgpaaHeldW
import Derived.Test.YtoeamofemepgpaaChT
import Derived.Deep.RegionHeld3
namespace Go.Proofs.Ytoeamofemepgpaa
open Go.RowKit

theorem Try.infoF : (Try.prog.info? 82).map (fun i => (i.zero, i.size, i.bytes)) = some (some (.agg #[.nilFunc, .nilFunc, .int .i64 0, .int .i64 0]), 4, 32) := by kernel_rfl
/-- The values of a row of fields. -/
def RowF (w : World) (B mb : Nat) (xs : List Value) (l : List FD) : Prop :=
  xs.length = l.length * 4 ∧ ∀ i f, l[i]? = some f → ∃ g s, Clos w B mb f.off g s ∧ xs[i * 4]? = some g ∧ xs[i * 4 + 1]? = some s ∧ xs[i * 4 + 2]? = some (.int .i64 f.lo) ∧ xs[i * 4 + 3]? = some (.int .i64 f.hi)
theorem RowF.nil (w : World) (B mb : Nat) : RowF w B mb [] [] := ⟨rfl, fun i f hf => by simp at hf⟩
theorem RowF.snoc {w : World} {B mb : Nat} {xs : List Value} {l : List FD} (h : RowF w B mb xs l) (f : FD) (g s : Value) (hc : Clos w B mb f.off g s) : RowF w B mb (xs ++ [g, s, .int .i64 f.lo, .int .i64 f.hi]) (l ++ [f]) := by
  refine ⟨by simp [h.1]; omega, fun i f' hf => ?_⟩
  by_cases hi : i < l.length
  · rw [List.getElem?_append_left hi] at hf
    obtain ⟨g', s', h1, h2, h3, h4, h5⟩ := h.2 i f' hf
    have e := h.1
    exact ⟨g', s', h1, by rw [List.getElem?_append_left (by omega)]; exact h2, by rw [List.getElem?_append_left (by omega)]; exact h3, by rw [List.getElem?_append_left (by omega)]; exact h4, by rw [List.getElem?_append_left (by omega)]; exact h5⟩
  · have hl := (List.getElem?_eq_some_iff.1 hf).1
    have hi : i = l.length := by simp at hl; omega
    subst hi
    simp at hf
    subst hf
    have e := h.1
    refine ⟨g, s, hc, ?_, ?_, ?_, ?_⟩ <;> rw [List.getElem?_append_right (by omega), e] <;> simp
theorem RowF.kept {w w' : World} {B mb : Nat} {xs : List Value} {l : List FD} (h : RowF w B mb xs l) {B' : Nat} (hk : ∀ k, mb < k → k < B → w'.heap[k]? = w.heap[k]?) (hB : B ≤ B') : RowF w' B' mb xs l :=
  ⟨h.1, fun i f hf => by obtain ⟨g, s, h1, h2⟩ := h.2 i f hf; exact ⟨g, s, (h1.kept hk (Nat.le_refl _)).more hB, h2⟩⟩
/-- A closure's box is none of the fields' rows. -/
theorem Clos.grown {w w' : World} {mb off : Nat} {g s : Value} {row : Option Nat} (h : Clos w w.heap.size mb off g s) (hg : w.grownBy w' row) (hx : ∀ k, row = some k → ∀ p, w.cell? ⟨k, 0, none⟩ ≠ some (.pointer p)) : Clos w' w'.heap.size mb off g s := by
  have q : ∀ pb p, pb < w.heap.size → w.cell? ⟨pb, 0, none⟩ = some (.pointer p) → w'.cell? ⟨pb, 0, none⟩ = some (.pointer p) := fun pb p h1 hv => by
    have e : w'.cell? ⟨pb, 0, none⟩ = w.cell? ⟨pb, 0, none⟩ := by simp [World.cell?, hg.block pb h1 (fun e => hx pb e.symm p hv)]
    rw [e]; exact hv
  have hs := hg.size
  rcases h with ⟨pb, h0, h1, h2, h3, h4⟩ | ⟨e, pb, h0, h1, h2, h3, h4⟩
  · exact .inl ⟨pb, h0, by omega, h2, h3, q _ _ h1 h4⟩
  · exact .inr ⟨e, pb, h0, by omega, h2, h3, q _ _ h1 h4⟩
theorem RowF.first {w : World} {base mb n c : Nat} {A : Option Addr} {xs : List Value} {l : List FD} (h : RowF w w.heap.size mb xs l) (ho : w.ownsRow base 82 4 (.slice A n c) n xs) (hl : l ≠ []) : ∀ k, (Value.slice A n c).ownBlock = some k → ∀ p, w.cell? ⟨k, 0, none⟩ ≠ some (.pointer p) := by
  intro k hk p hp
  obtain ⟨f, hf⟩ : ∃ f, l[0]? = some f := by cases l with
    | nil => exact absurd rfl hl
    | cons f l => exact ⟨f, rfl⟩
  obtain ⟨g, s, hc, h2, _⟩ := h.2 0 f hf
  have := ho.cells (g := k) hk 0 g (by simpa using h2)
  rw [Addr.add_lit] at this
  rw [hp] at this
  injection this with e
  subst e
  rcases hc with ⟨pb, _, _, e, _⟩ | ⟨_, pb, _, _, e, _⟩ <;> cases e
theorem RowF.grown {w w' : World} {mb : Nat} {xs : List Value} {l : List FD} {row : Option Nat} (h : RowF w w.heap.size mb xs l) (hg : w.grownBy w' row) (hx : ∀ k, row = some k → ∀ p, w.cell? ⟨k, 0, none⟩ ≠ some (.pointer p)) : RowF w' w'.heap.size mb xs l :=
  ⟨h.1, fun i f hf => by obtain ⟨g, s, h1, h2⟩ := h.2 i f hf; exact ⟨g, s, h1.grown hg hx, h2⟩⟩
theorem RowF.fields {w : World} {base mb n c : Nat} {A : Option Addr} {xs : List Value} {l : List FD} (h : RowF w w.heap.size mb xs l) (ho : w.ownsRow base 82 4 (.slice A n c) n xs) (hb : mb < base) (hl : l ≠ []) : FieldsIn w w.heap.size mb A l := by
  rcases ho.2 with ⟨hv, h0⟩ | ⟨g, cap, cur, hv, hg, hgg, rest⟩
  · exfalso
    have h1 := ho.1
    have h2 := h.1
    have : l.length = 0 := by rw [h0] at h1; omega
    exact hl (List.eq_nil_of_length_eq_zero this)
  · injection hv with e1 e2 e3
    subst e1 e3
    refine .inr ⟨g, rfl, by omega, (Array.getElem?_eq_some_iff.1 hgg).1, fun i f hf => ?_⟩
    obtain ⟨g', s', h1, h2, h3, h4, h5⟩ := h.2 i f hf
    have q : ∀ j u, xs[j]? = some u → w.cell? ⟨g, j, none⟩ = some u := fun j u hu => by
      have := ho.cells (g := g) rfl j u hu
      rwa [Addr.add_lit, Nat.zero_add] at this
    exact ⟨g', s', h1, q _ _ h2, q _ _ h3, q _ _ h4, q _ _ h5⟩

set_option maxRecDepth 100000 in
set_option maxHeartbeats 4000000 in
theorem fields_3 (mb : Nat) (w : World) (v : Nat → Int) (A : Option Addr) (n c : Nat) (hm : MAt w mb v A n c) (hk : v 0 = 3) :
    Calls Try.prog 35 #[.pointer (some ⟨mb, 0, none⟩)] w fun e w' => ∃ R c', e = .returned (.tuple #[.slice R 10 c', .bool true]) ∧ FieldsIn w' w'.heap.size mb R [⟨1, 0, 1099511627776⟩, ⟨2, 0, 15⟩, ⟨6, 1, 100⟩, ⟨7, 1, 6⟩, ⟨8, 0, 1099511627775⟩, ⟨9, 1, 1000⟩, ⟨11, 0, 1073741824⟩, ⟨12, 0, 1073741824⟩, ⟨13, 0, 1073741824⟩, ⟨14, 0, 1073741824⟩] ∧ Below w.heap.size w w' := by
  have HM := Lib.hid hm
  have hml := ltb hm
  obtain ⟨S, hS⟩ : ∃ S, S = w.heap.size := ⟨_, rfl⟩
  have hkk := cellb (i := 0) hm rfl
  rw [hk] at hkk
  have hkb : (w.alloc (.cells #[.pointer (some ⟨mb, 0, none⟩)] 79)).cell? ⟨mb, 0, none⟩ = some (.int .i64 3) := keepA hkk
  have hpb : (w.alloc (.cells #[.pointer (some ⟨mb, 0, none⟩)] 79)).cell? ⟨S, 0, none⟩ = some (.pointer (some ⟨mb, 0, none⟩)) := by rw [hS]; exact cell_of_one (heap_alloc_new w _)
  have hb0 : Below S w (w.alloc (.cells #[.pointer (some ⟨mb, 0, none⟩)] 79)) := by rw [hS]; exact (Below.refl w.heap.size w).alloc (Nat.le_refl _) _
  have HB0 := Lib.hid hb0
  have HK0 := Lib.hid hkb
  have HP0 := Lib.hid hpb
  have hs0 : S < (w.alloc (.cells #[.pointer (some ⟨mb, 0, none⟩)] 79)).heap.size := by simp [hS]
  have hmS : mb < S := by omega
  have HSW : Hid (w.heap.size = S) := Lib.hid hS.symm
  clear hm hkk hkb hpb hb0
  go_enter Try.func35, Try.ntmps35
  go_wp2_with fail
  rw [← hS]
  clear hS hml
  generalize w.alloc (.cells #[.pointer (some ⟨mb, 0, none⟩)] 79) = w0 at HB0 HK0 HP0 hs0 ⊢
  refine (at_any mb 1 0 1099511627776 w0).mono ?_
  rintro e x0 ⟨pb4, rfl, hge, hlt, hc, hb⟩
  have kz : ∀ O, (x0.alloc O).cell? ⟨S, 0, none⟩ = some (.pointer (some ⟨mb, 0, none⟩)) := fun O => keepA ((hb.cell (p := ⟨S, 0, none⟩) hs0).trans HP0.out)
  have kk : ∀ O, (x0.alloc O).cell? ⟨mb, 0, none⟩ = some (.int .i64 3) := fun O => keepA ((hb.cell (p := ⟨mb, 0, none⟩) (by show mb < _; omega)).trans HK0.out)
  have hsx : S < x0.heap.size := Nat.lt_of_lt_of_le hs0 hb.size
  obtain ⟨b4, hbs4⟩ : ∃ b, b = x0.heap.size := ⟨_, rfl⟩
  have hal : Below x0.heap.size x0 (x0.alloc (.cells #[.func (.func 48) #[] #[.pointer (some ⟨pb4, 0, none⟩)], .func (.func 49) #[] #[.pointer (some ⟨pb4, 0, none⟩)], .int .i64 0, .int .i64 1099511627776] 82)) := (Below.refl _ _).alloc (Nat.le_refl _) _
  have HV4 : Hid (VarAt (x0.alloc (.cells #[.func (.func 48) #[] #[.pointer (some ⟨pb4, 0, none⟩)], .func (.func 49) #[] #[.pointer (some ⟨pb4, 0, none⟩)], .int .i64 0, .int .i64 1099511627776] 82)) b4 pb4 mb 1 0 1099511627776) := Lib.hid ⟨by rw [hbs4]; exact heap_alloc_new x0 _, by omega, by simp; omega, keepA hc⟩
  have HB1 := Lib.hid (HB0.out.trans ((hb.trans (hal.mono hb.size)).mono (by omega)))
  have HK1 := Lib.hid (kk (.cells #[.func (.func 48) #[] #[.pointer (some ⟨pb4, 0, none⟩)], .func (.func 49) #[] #[.pointer (some ⟨pb4, 0, none⟩)], .int .i64 0, .int .i64 1099511627776] 82))
  have HP1 := Lib.hid (kz (.cells #[.func (.func 48) #[] #[.pointer (some ⟨pb4, 0, none⟩)], .func (.func 49) #[] #[.pointer (some ⟨pb4, 0, none⟩)], .int .i64 0, .int .i64 1099511627776] 82))
  have hs1 : S < (x0.alloc (.cells #[.func (.func 48) #[] #[.pointer (some ⟨pb4, 0, none⟩)], .func (.func 49) #[] #[.pointer (some ⟨pb4, 0, none⟩)], .int .i64 0, .int .i64 1099511627776] 82)).heap.size := by simp; omega
  clear hb hal hge hlt hc hsx HB0 HK0 HP0 hs0 kk
  go_wp2_with fail
  rw [← hbs4]
  clear kz hbs4
  generalize x0.alloc (.cells #[.func (.func 48) #[] #[.pointer (some ⟨pb4, 0, none⟩)], .func (.func 49) #[] #[.pointer (some ⟨pb4, 0, none⟩)], .int .i64 0, .int .i64 1099511627776] 82) = w1 at HB1 HK1 HP1 hs1 HV4 ⊢
  have kp := HP1.out
  go_wp2_with fail
  clear kp
  refine (at_any mb 2 0 15 w1).mono ?_
  rintro e x1 ⟨pb5, rfl, hge, hlt, hc, hb⟩
  have kz : ∀ O, (x1.alloc O).cell? ⟨S, 0, none⟩ = some (.pointer (some ⟨mb, 0, none⟩)) := fun O => keepA ((hb.cell (p := ⟨S, 0, none⟩) hs1).trans HP1.out)
  have kk : ∀ O, (x1.alloc O).cell? ⟨mb, 0, none⟩ = some (.int .i64 3) := fun O => keepA ((hb.cell (p := ⟨mb, 0, none⟩) (by show mb < _; omega)).trans HK1.out)
  have hsx : S < x1.heap.size := Nat.lt_of_lt_of_le hs1 hb.size
  obtain ⟨b5, hbs5⟩ : ∃ b, b = x1.heap.size := ⟨_, rfl⟩
  have hal : Below x1.heap.size x1 (x1.alloc (.cells #[.func (.func 48) #[] #[.pointer (some ⟨pb5, 0, none⟩)], .func (.func 49) #[] #[.pointer (some ⟨pb5, 0, none⟩)], .int .i64 0, .int .i64 15] 82)) := (Below.refl _ _).alloc (Nat.le_refl _) _
  have HV5 : Hid (VarAt (x1.alloc (.cells #[.func (.func 48) #[] #[.pointer (some ⟨pb5, 0, none⟩)], .func (.func 49) #[] #[.pointer (some ⟨pb5, 0, none⟩)], .int .i64 0, .int .i64 15] 82)) b5 pb5 mb 2 0 15) := Lib.hid ⟨by rw [hbs5]; exact heap_alloc_new x1 _, by omega, by simp; omega, keepA hc⟩
  have HV4 := Lib.hid ((HV4.out.below hb).below hal)
  have HB2 := Lib.hid (HB1.out.trans ((hb.trans (hal.mono hb.size)).mono (by omega)))
  have HK2 := Lib.hid (kk (.cells #[.func (.func 48) #[] #[.pointer (some ⟨pb5, 0, none⟩)], .func (.func 49) #[] #[.pointer (some ⟨pb5, 0, none⟩)], .int .i64 0, .int .i64 15] 82))
  have HP2 := Lib.hid (kz (.cells #[.func (.func 48) #[] #[.pointer (some ⟨pb5, 0, none⟩)], .func (.func 49) #[] #[.pointer (some ⟨pb5, 0, none⟩)], .int .i64 0, .int .i64 15] 82))
  have hs2 : S < (x1.alloc (.cells #[.func (.func 48) #[] #[.pointer (some ⟨pb5, 0, none⟩)], .func (.func 49) #[] #[.pointer (some ⟨pb5, 0, none⟩)], .int .i64 0, .int .i64 15] 82)).heap.size := by simp; omega
  clear hb hal hge hlt hc hsx HB1 HK1 HP1 hs1 kk
  go_wp2_with fail
  rw [← hbs5]
  clear kz hbs5
  generalize x1.alloc (.cells #[.func (.func 48) #[] #[.pointer (some ⟨pb5, 0, none⟩)], .func (.func 49) #[] #[.pointer (some ⟨pb5, 0, none⟩)], .int .i64 0, .int .i64 15] 82) = w2 at HB2 HK2 HP2 hs2 HV4 HV5 ⊢
  have kp := HP2.out
  go_wp2_with fail
  clear kp
  refine (at_any mb 6 1 100 w2).mono ?_
  rintro e x2 ⟨pb6, rfl, hge, hlt, hc, hb⟩
  have kz : ∀ O, (x2.alloc O).cell? ⟨S, 0, none⟩ = some (.pointer (some ⟨mb, 0, none⟩)) := fun O => keepA ((hb.cell (p := ⟨S, 0, none⟩) hs2).trans HP2.out)
  have kk : ∀ O, (x2.alloc O).cell? ⟨mb, 0, none⟩ = some (.int .i64 3) := fun O => keepA ((hb.cell (p := ⟨mb, 0, none⟩) (by show mb < _; omega)).trans HK2.out)
  have hsx : S < x2.heap.size := Nat.lt_of_lt_of_le hs2 hb.size
  obtain ⟨b6, hbs6⟩ : ∃ b, b = x2.heap.size := ⟨_, rfl⟩
  have hal : Below x2.heap.size x2 (x2.alloc (.cells #[.func (.func 48) #[] #[.pointer (some ⟨pb6, 0, none⟩)], .func (.func 49) #[] #[.pointer (some ⟨pb6, 0, none⟩)], .int .i64 1, .int .i64 100] 82)) := (Below.refl _ _).alloc (Nat.le_refl _) _
  have HV6 : Hid (VarAt (x2.alloc (.cells #[.func (.func 48) #[] #[.pointer (some ⟨pb6, 0, none⟩)], .func (.func 49) #[] #[.pointer (some ⟨pb6, 0, none⟩)], .int .i64 1, .int .i64 100] 82)) b6 pb6 mb 6 1 100) := Lib.hid ⟨by rw [hbs6]; exact heap_alloc_new x2 _, by omega, by simp; omega, keepA hc⟩
  have HV4 := Lib.hid ((HV4.out.below hb).below hal)
  have HV5 := Lib.hid ((HV5.out.below hb).below hal)
  have HB3 := Lib.hid (HB2.out.trans ((hb.trans (hal.mono hb.size)).mono (by omega)))
  have HK3 := Lib.hid (kk (.cells #[.func (.func 48) #[] #[.pointer (some ⟨pb6, 0, none⟩)], .func (.func 49) #[] #[.pointer (some ⟨pb6, 0, none⟩)], .int .i64 1, .int .i64 100] 82))
  have HP3 := Lib.hid (kz (.cells #[.func (.func 48) #[] #[.pointer (some ⟨pb6, 0, none⟩)], .func (.func 49) #[] #[.pointer (some ⟨pb6, 0, none⟩)], .int .i64 1, .int .i64 100] 82))
  have hs3 : S < (x2.alloc (.cells #[.func (.func 48) #[] #[.pointer (some ⟨pb6, 0, none⟩)], .func (.func 49) #[] #[.pointer (some ⟨pb6, 0, none⟩)], .int .i64 1, .int .i64 100] 82)).heap.size := by simp; omega
  clear hb hal hge hlt hc hsx HB2 HK2 HP2 hs2 kk
  go_wp2_with fail
  rw [← hbs6]
  clear kz hbs6
  generalize x2.alloc (.cells #[.func (.func 48) #[] #[.pointer (some ⟨pb6, 0, none⟩)], .func (.func 49) #[] #[.pointer (some ⟨pb6, 0, none⟩)], .int .i64 1, .int .i64 100] 82) = w3 at HB3 HK3 HP3 hs3 HV4 HV5 HV6 ⊢
  have kp := HP3.out
  go_wp2_with fail
  clear kp
  refine (at_any mb 7 1 6 w3).mono ?_
  rintro e x3 ⟨pb7, rfl, hge, hlt, hc, hb⟩
  have kz : ∀ O, (x3.alloc O).cell? ⟨S, 0, none⟩ = some (.pointer (some ⟨mb, 0, none⟩)) := fun O => keepA ((hb.cell (p := ⟨S, 0, none⟩) hs3).trans HP3.out)
  have kk : ∀ O, (x3.alloc O).cell? ⟨mb, 0, none⟩ = some (.int .i64 3) := fun O => keepA ((hb.cell (p := ⟨mb, 0, none⟩) (by show mb < _; omega)).trans HK3.out)
  have hsx : S < x3.heap.size := Nat.lt_of_lt_of_le hs3 hb.size
  obtain ⟨b7, hbs7⟩ : ∃ b, b = x3.heap.size := ⟨_, rfl⟩
  have hal : Below x3.heap.size x3 (x3.alloc (.cells #[.func (.func 48) #[] #[.pointer (some ⟨pb7, 0, none⟩)], .func (.func 49) #[] #[.pointer (some ⟨pb7, 0, none⟩)], .int .i64 1, .int .i64 6] 82)) := (Below.refl _ _).alloc (Nat.le_refl _) _
  have HV7 : Hid (VarAt (x3.alloc (.cells #[.func (.func 48) #[] #[.pointer (some ⟨pb7, 0, none⟩)], .func (.func 49) #[] #[.pointer (some ⟨pb7, 0, none⟩)], .int .i64 1, .int .i64 6] 82)) b7 pb7 mb 7 1 6) := Lib.hid ⟨by rw [hbs7]; exact heap_alloc_new x3 _, by omega, by simp; omega, keepA hc⟩
  have HV4 := Lib.hid ((HV4.out.below hb).below hal)
  have HV5 := Lib.hid ((HV5.out.below hb).below hal)
  have HV6 := Lib.hid ((HV6.out.below hb).below hal)
  have HB4 := Lib.hid (HB3.out.trans ((hb.trans (hal.mono hb.size)).mono (by omega)))
  have HK4 := Lib.hid (kk (.cells #[.func (.func 48) #[] #[.pointer (some ⟨pb7, 0, none⟩)], .func (.func 49) #[] #[.pointer (some ⟨pb7, 0, none⟩)], .int .i64 1, .int .i64 6] 82))
  have HP4 := Lib.hid (kz (.cells #[.func (.func 48) #[] #[.pointer (some ⟨pb7, 0, none⟩)], .func (.func 49) #[] #[.pointer (some ⟨pb7, 0, none⟩)], .int .i64 1, .int .i64 6] 82))
  have hs4 : S < (x3.alloc (.cells #[.func (.func 48) #[] #[.pointer (some ⟨pb7, 0, none⟩)], .func (.func 49) #[] #[.pointer (some ⟨pb7, 0, none⟩)], .int .i64 1, .int .i64 6] 82)).heap.size := by simp; omega
  clear hb hal hge hlt hc hsx HB3 HK3 HP3 hs3 kk
  go_wp2_with fail
  rw [← hbs7]
  clear kz hbs7
  generalize x3.alloc (.cells #[.func (.func 48) #[] #[.pointer (some ⟨pb7, 0, none⟩)], .func (.func 49) #[] #[.pointer (some ⟨pb7, 0, none⟩)], .int .i64 1, .int .i64 6] 82) = w4 at HB4 HK4 HP4 hs4 HV4 HV5 HV6 HV7 ⊢
  have kp := HP4.out
  go_wp2_with fail
  clear kp
  refine (at_any mb 15 1 16 w4).mono ?_
  rintro e x4 ⟨pb8, rfl, hge, hlt, hc, hb⟩
  have kz : ∀ O, (x4.alloc O).cell? ⟨S, 0, none⟩ = some (.pointer (some ⟨mb, 0, none⟩)) := fun O => keepA ((hb.cell (p := ⟨S, 0, none⟩) hs4).trans HP4.out)
  have kk : ∀ O, (x4.alloc O).cell? ⟨mb, 0, none⟩ = some (.int .i64 3) := fun O => keepA ((hb.cell (p := ⟨mb, 0, none⟩) (by show mb < _; omega)).trans HK4.out)
  have hsx : S < x4.heap.size := Nat.lt_of_lt_of_le hs4 hb.size
  obtain ⟨b8, hbs8⟩ : ∃ b, b = x4.heap.size := ⟨_, rfl⟩
  have hal : Below x4.heap.size x4 (x4.alloc (.cells #[.func (.func 48) #[] #[.pointer (some ⟨pb8, 0, none⟩)], .func (.func 49) #[] #[.pointer (some ⟨pb8, 0, none⟩)], .int .i64 1, .int .i64 16] 82)) := (Below.refl _ _).alloc (Nat.le_refl _) _
  have HV8 : Hid (VarAt (x4.alloc (.cells #[.func (.func 48) #[] #[.pointer (some ⟨pb8, 0, none⟩)], .func (.func 49) #[] #[.pointer (some ⟨pb8, 0, none⟩)], .int .i64 1, .int .i64 16] 82)) b8 pb8 mb 15 1 16) := Lib.hid ⟨by rw [hbs8]; exact heap_alloc_new x4 _, by omega, by simp; omega, keepA hc⟩
  have HV4 := Lib.hid ((HV4.out.below hb).below hal)
  have HV5 := Lib.hid ((HV5.out.below hb).below hal)
  have HV6 := Lib.hid ((HV6.out.below hb).below hal)
  have HV7 := Lib.hid ((HV7.out.below hb).below hal)
  have HB5 := Lib.hid (HB4.out.trans ((hb.trans (hal.mono hb.size)).mono (by omega)))
  have HK5 := Lib.hid (kk (.cells #[.func (.func 48) #[] #[.pointer (some ⟨pb8, 0, none⟩)], .func (.func 49) #[] #[.pointer (some ⟨pb8, 0, none⟩)], .int .i64 1, .int .i64 16] 82))
  have HP5 := Lib.hid (kz (.cells #[.func (.func 48) #[] #[.pointer (some ⟨pb8, 0, none⟩)], .func (.func 49) #[] #[.pointer (some ⟨pb8, 0, none⟩)], .int .i64 1, .int .i64 16] 82))
  have hs5 : S < (x4.alloc (.cells #[.func (.func 48) #[] #[.pointer (some ⟨pb8, 0, none⟩)], .func (.func 49) #[] #[.pointer (some ⟨pb8, 0, none⟩)], .int .i64 1, .int .i64 16] 82)).heap.size := by simp; omega
  clear hb hal hge hlt hc hsx HB4 HK4 HP4 hs4 kk
  go_wp2_with fail
  rw [← hbs8]
  clear kz hbs8
  generalize x4.alloc (.cells #[.func (.func 48) #[] #[.pointer (some ⟨pb8, 0, none⟩)], .func (.func 49) #[] #[.pointer (some ⟨pb8, 0, none⟩)], .int .i64 1, .int .i64 16] 82) = w5 at HB5 HK5 HP5 hs5 HV4 HV5 HV6 HV7 HV8 ⊢
  have kp := HP5.out
  go_wp2_with fail
  clear kp
  refine (at_any mb 16 1 1099511627776 w5).mono ?_
  rintro e x5 ⟨pb9, rfl, hge, hlt, hc, hb⟩
  have kz : ∀ O, (x5.alloc O).cell? ⟨S, 0, none⟩ = some (.pointer (some ⟨mb, 0, none⟩)) := fun O => keepA ((hb.cell (p := ⟨S, 0, none⟩) hs5).trans HP5.out)
  have kk : ∀ O, (x5.alloc O).cell? ⟨mb, 0, none⟩ = some (.int .i64 3) := fun O => keepA ((hb.cell (p := ⟨mb, 0, none⟩) (by show mb < _; omega)).trans HK5.out)
  have hsx : S < x5.heap.size := Nat.lt_of_lt_of_le hs5 hb.size
  obtain ⟨b9, hbs9⟩ : ∃ b, b = x5.heap.size := ⟨_, rfl⟩
  have hal : Below x5.heap.size x5 (x5.alloc (.cells #[.func (.func 48) #[] #[.pointer (some ⟨pb9, 0, none⟩)], .func (.func 49) #[] #[.pointer (some ⟨pb9, 0, none⟩)], .int .i64 1, .int .i64 1099511627776] 82)) := (Below.refl _ _).alloc (Nat.le_refl _) _
  have HV9 : Hid (VarAt (x5.alloc (.cells #[.func (.func 48) #[] #[.pointer (some ⟨pb9, 0, none⟩)], .func (.func 49) #[] #[.pointer (some ⟨pb9, 0, none⟩)], .int .i64 1, .int .i64 1099511627776] 82)) b9 pb9 mb 16 1 1099511627776) := Lib.hid ⟨by rw [hbs9]; exact heap_alloc_new x5 _, by omega, by simp; omega, keepA hc⟩
  have HV4 := Lib.hid ((HV4.out.below hb).below hal)
  have HV5 := Lib.hid ((HV5.out.below hb).below hal)
  have HV6 := Lib.hid ((HV6.out.below hb).below hal)
  have HV7 := Lib.hid ((HV7.out.below hb).below hal)
  have HV8 := Lib.hid ((HV8.out.below hb).below hal)
  have HB6 := Lib.hid (HB5.out.trans ((hb.trans (hal.mono hb.size)).mono (by omega)))
  have HK6 := Lib.hid (kk (.cells #[.func (.func 48) #[] #[.pointer (some ⟨pb9, 0, none⟩)], .func (.func 49) #[] #[.pointer (some ⟨pb9, 0, none⟩)], .int .i64 1, .int .i64 1099511627776] 82))
  have HP6 := Lib.hid (kz (.cells #[.func (.func 48) #[] #[.pointer (some ⟨pb9, 0, none⟩)], .func (.func 49) #[] #[.pointer (some ⟨pb9, 0, none⟩)], .int .i64 1, .int .i64 1099511627776] 82))
  have hs6 : S < (x5.alloc (.cells #[.func (.func 48) #[] #[.pointer (some ⟨pb9, 0, none⟩)], .func (.func 49) #[] #[.pointer (some ⟨pb9, 0, none⟩)], .int .i64 1, .int .i64 1099511627776] 82)).heap.size := by simp; omega
  clear hb hal hge hlt hc hsx HB5 HK5 HP5 hs5
  go_wp2_with fail
  rw [← hbs9]
  clear kz kk 
  have hz6 : (x5.alloc (.cells #[.func (.func 48) #[] #[.pointer (some ⟨pb9, 0, none⟩)], .func (.func 49) #[] #[.pointer (some ⟨pb9, 0, none⟩)], .int .i64 1, .int .i64 1099511627776] 82)).heap.size = b9 + 1 := by have := hs6; rw [hbs9]; simp
  clear hbs9
  generalize x5.alloc (.cells #[.func (.func 48) #[] #[.pointer (some ⟨pb9, 0, none⟩)], .func (.func 49) #[] #[.pointer (some ⟨pb9, 0, none⟩)], .int .i64 1, .int .i64 1099511627776] 82) = w6 at HB6 HK6 HP6 hs6 hz6 HV4 HV5 HV6 HV7 HV8 HV9 ⊢
  have hd : Below w6.heap.size w6 w6.drew := (Below.refl _ _).drew
  have HV4 := Lib.hid (HV4.out.below hd)
  have HV5 := Lib.hid (HV5.out.below hd)
  have HV6 := Lib.hid (HV6.out.below hd)
  have HV7 := Lib.hid (HV7.out.below hd)
  have HP6 : Hid (w6.drew.cell? ⟨S, 0, none⟩ = some (.pointer (some ⟨mb, 0, none⟩))) := HP6
  have HB6 := Lib.hid HB6.out.drew
  have hs6 : S < w6.drew.heap.size := hs6
  clear hd HK6 hz6 HV8 HV9
  have f6_b4_0 : w6.drew.cell? ⟨b4, 0, none⟩ = some (.func (.func 48) #[] #[.pointer (some ⟨pb4, 0, none⟩)]) := cellb HV4.out.blk rfl
  have f6_b4_1 : w6.drew.cell? ⟨b4, 1, none⟩ = some (.func (.func 49) #[] #[.pointer (some ⟨pb4, 0, none⟩)]) := cellb HV4.out.blk rfl
  have f6_b4_2 : w6.drew.cell? ⟨b4, 2, none⟩ = some (.int .i64 0) := cellb HV4.out.blk rfl
  have f6_b4_3 : w6.drew.cell? ⟨b4, 3, none⟩ = some (.int .i64 1099511627776) := cellb HV4.out.blk rfl
  have f6_b5_0 : w6.drew.cell? ⟨b5, 0, none⟩ = some (.func (.func 48) #[] #[.pointer (some ⟨pb5, 0, none⟩)]) := cellb HV5.out.blk rfl
  have f6_b5_1 : w6.drew.cell? ⟨b5, 1, none⟩ = some (.func (.func 49) #[] #[.pointer (some ⟨pb5, 0, none⟩)]) := cellb HV5.out.blk rfl
  have f6_b5_2 : w6.drew.cell? ⟨b5, 2, none⟩ = some (.int .i64 0) := cellb HV5.out.blk rfl
  have f6_b5_3 : w6.drew.cell? ⟨b5, 3, none⟩ = some (.int .i64 15) := cellb HV5.out.blk rfl
  have f6_b6_0 : w6.drew.cell? ⟨b6, 0, none⟩ = some (.func (.func 48) #[] #[.pointer (some ⟨pb6, 0, none⟩)]) := cellb HV6.out.blk rfl
  have f6_b6_1 : w6.drew.cell? ⟨b6, 1, none⟩ = some (.func (.func 49) #[] #[.pointer (some ⟨pb6, 0, none⟩)]) := cellb HV6.out.blk rfl
  have f6_b6_2 : w6.drew.cell? ⟨b6, 2, none⟩ = some (.int .i64 1) := cellb HV6.out.blk rfl
  have f6_b6_3 : w6.drew.cell? ⟨b6, 3, none⟩ = some (.int .i64 100) := cellb HV6.out.blk rfl
  have f6_b7_0 : w6.drew.cell? ⟨b7, 0, none⟩ = some (.func (.func 48) #[] #[.pointer (some ⟨pb7, 0, none⟩)]) := cellb HV7.out.blk rfl
  have f6_b7_1 : w6.drew.cell? ⟨b7, 1, none⟩ = some (.func (.func 49) #[] #[.pointer (some ⟨pb7, 0, none⟩)]) := cellb HV7.out.blk rfl
  have f6_b7_2 : w6.drew.cell? ⟨b7, 2, none⟩ = some (.int .i64 1) := cellb HV7.out.blk rfl
  have f6_b7_3 : w6.drew.cell? ⟨b7, 3, none⟩ = some (.int .i64 6) := cellb HV7.out.blk rfl
  have f6_p : w6.drew.cell? ⟨S, 0, none⟩ = some (.pointer (some ⟨mb, 0, none⟩)) := HP6.out
  refine wp_region_noPanic ?_
  refine wp_region_held_drew (S := fun w' => w'.cell? ⟨b4, 0, none⟩ = some (.func (.func 48) #[] #[.pointer (some ⟨pb4, 0, none⟩)]) ∧ w'.cell? ⟨b4, 1, none⟩ = some (.func (.func 49) #[] #[.pointer (some ⟨pb4, 0, none⟩)]) ∧ w'.cell? ⟨b4, 2, none⟩ = some (.int .i64 0) ∧ w'.cell? ⟨b4, 3, none⟩ = some (.int .i64 1099511627776) ∧ w'.cell? ⟨b5, 0, none⟩ = some (.func (.func 48) #[] #[.pointer (some ⟨pb5, 0, none⟩)]) ∧ w'.cell? ⟨b5, 1, none⟩ = some (.func (.func 49) #[] #[.pointer (some ⟨pb5, 0, none⟩)]) ∧ w'.cell? ⟨b5, 2, none⟩ = some (.int .i64 0) ∧ w'.cell? ⟨b5, 3, none⟩ = some (.int .i64 15) ∧ w'.cell? ⟨b6, 0, none⟩ = some (.func (.func 48) #[] #[.pointer (some ⟨pb6, 0, none⟩)]) ∧ w'.cell? ⟨b6, 1, none⟩ = some (.func (.func 49) #[] #[.pointer (some ⟨pb6, 0, none⟩)]) ∧ w'.cell? ⟨b6, 2, none⟩ = some (.int .i64 1) ∧ w'.cell? ⟨b6, 3, none⟩ = some (.int .i64 100) ∧ w'.cell? ⟨b7, 0, none⟩ = some (.func (.func 48) #[] #[.pointer (some ⟨pb7, 0, none⟩)]) ∧ w'.cell? ⟨b7, 1, none⟩ = some (.func (.func 49) #[] #[.pointer (some ⟨pb7, 0, none⟩)]) ∧ w'.cell? ⟨b7, 2, none⟩ = some (.int .i64 1) ∧ w'.cell? ⟨b7, 3, none⟩ = some (.int .i64 6) ∧ w'.cell? ⟨S, 0, none⟩ = some (.pointer (some ⟨mb, 0, none⟩))) (by kernel_rfl) ?_ (fun hHeld => ?_)
  · try dsimp only
    (refine ⟨?_, ?_, ?_, ?_, ?_, ?_, ?_, ?_, ?_, ?_, ?_, ?_, ?_, ?_, ?_, ?_, ?_⟩ <;> (first | with_reducible assumption))
  refine wpAnyH_take (i := 0) (v := ?_) (by (simp only [List.getElem?_toArray, List.getElem?_cons_zero]; rfl)) (by kernel_rfl) (by kernel_rfl) (by kernel_rfl) (fun _ _ _ h => h) (Or.inl ⟨by rfl, ?_⟩) (by assumption) ?_
  rotate_left
  · (intro w hSw; (try dsimp only at hSw); go_simp; try with_reducible rfl)
  try simp only [Act.put, List.setIfInBounds_toArray, List.set_cons_zero, List.set_cons_succ]
  refine wpAnyH_take (i := 1) (v := ?_) (by (simp only [List.getElem?_toArray, List.getElem?_cons_succ, List.getElem?_cons_zero]; rfl)) (by kernel_rfl) (by kernel_rfl) (by kernel_rfl) (fun _ _ _ h => h) (Or.inl ⟨by rfl, ?_⟩) (by assumption) ?_
  rotate_left
  · (intro w hSw; (try dsimp only at hSw); go_simp; try with_reducible rfl)
  try simp only [Act.put, List.setIfInBounds_toArray, List.set_cons_zero, List.set_cons_succ]
  refine wpAnyH_take (i := 2) (v := ?_) (by (simp only [List.getElem?_toArray, List.getElem?_cons_succ, List.getElem?_cons_zero]; rfl)) (by kernel_rfl) (by kernel_rfl) (by kernel_rfl) (fun _ _ _ h => h) (Or.inl ⟨by rfl, ?_⟩) (by assumption) ?_
  rotate_left
  · (intro w hSw; (try dsimp only at hSw); go_simp; try with_reducible rfl)
  try simp only [Act.put, List.setIfInBounds_toArray, List.set_cons_zero, List.set_cons_succ]
  refine wpAnyH_take (i := 3) (v := ?_) (by (simp only [List.getElem?_toArray, List.getElem?_cons_succ, List.getElem?_cons_zero]; rfl)) (by kernel_rfl) (by kernel_rfl) (by kernel_rfl) (fun _ _ _ h => h) (Or.inl ⟨by rfl, ?_⟩) (by assumption) ?_
  rotate_left
  · (intro w hSw; (try dsimp only at hSw); go_simp; try with_reducible rfl)
  try simp only [Act.put, List.setIfInBounds_toArray, List.set_cons_zero, List.set_cons_succ]
  refine wpAnyH_take (i := 4) (v := ?_) (by (simp only [List.getElem?_toArray, List.getElem?_cons_succ, List.getElem?_cons_zero]; rfl)) (by kernel_rfl) (by kernel_rfl) (by kernel_rfl) (fun _ _ _ h => h) (Or.inl ⟨by rfl, ?_⟩) (by assumption) ?_
  rotate_left
  · (intro w hSw; (try dsimp only at hSw); go_simp; try with_reducible rfl)
  try simp only [Act.put, List.setIfInBounds_toArray, List.set_cons_zero, List.set_cons_succ]
  refine wpAnyH_take (i := 5) (v := ?_) (by (simp only [List.getElem?_toArray, List.getElem?_cons_succ, List.getElem?_cons_zero]; rfl)) (by kernel_rfl) (by kernel_rfl) (by kernel_rfl) (fun _ _ _ h => h) (Or.inl ⟨by rfl, ?_⟩) (by assumption) ?_
  rotate_left
  · (intro w hSw; (try dsimp only at hSw); go_simp; try with_reducible rfl)
  try simp only [Act.put, List.setIfInBounds_toArray, List.set_cons_zero, List.set_cons_succ]
  refine wpAnyH_take (i := 6) (v := ?_) (by (simp only [List.getElem?_toArray, List.getElem?_cons_succ, List.getElem?_cons_zero]; rfl)) (by kernel_rfl) (by kernel_rfl) (by kernel_rfl) (fun _ _ _ h => h) (Or.inl ⟨by rfl, ?_⟩) (by assumption) ?_
  rotate_left
  · (intro w hSw; (try dsimp only at hSw); go_simp; try with_reducible rfl)
  try simp only [Act.put, List.setIfInBounds_toArray, List.set_cons_zero, List.set_cons_succ]
  refine wpAnyH_take (i := 8) (v := ?_) (by (simp only [List.getElem?_toArray, List.getElem?_cons_succ, List.getElem?_cons_zero]; rfl)) (by kernel_rfl) (by kernel_rfl) (by kernel_rfl) (fun _ _ _ h => h) (Or.inl ⟨by rfl, ?_⟩) (by assumption) ?_
  rotate_left
  · (intro w hSw; (try dsimp only at hSw); go_simp; try with_reducible rfl)
  try simp only [Act.put, List.setIfInBounds_toArray, List.set_cons_zero, List.set_cons_succ]
  refine wpAnyH_take (i := 9) (v := ?_) (by (simp only [List.getElem?_toArray, List.getElem?_cons_succ, List.getElem?_cons_zero]; rfl)) (by kernel_rfl) (by kernel_rfl) (by kernel_rfl) (fun _ _ _ h => h) (Or.inl ⟨by rfl, ?_⟩) (by assumption) ?_
  rotate_left
  · (intro w hSw; (try dsimp only at hSw); go_simp; try with_reducible rfl)
  try simp only [Act.put, List.setIfInBounds_toArray, List.set_cons_zero, List.set_cons_succ]
  refine wpAnyH_take (i := 10) (v := ?_) (by (simp only [List.getElem?_toArray, List.getElem?_cons_succ, List.getElem?_cons_zero]; rfl)) (by kernel_rfl) (by kernel_rfl) (by kernel_rfl) (fun _ _ _ h => h) (Or.inl ⟨by rfl, ?_⟩) (by assumption) ?_
  rotate_left
  · (intro w hSw; (try dsimp only at hSw); go_simp; try with_reducible rfl)
  try simp only [Act.put, List.setIfInBounds_toArray, List.set_cons_zero, List.set_cons_succ]
  refine wpAnyH_ready (rs := [7]) (by kernel_rfl) (by simp) ?_
  refine AllReadyH.cons (by (simp only [List.getElem?_toArray, List.getElem?_cons_succ, List.getElem?_cons_zero]; rfl)) (fun K hK => ?_) AllReadyH.nil
  go_simp
  refine (at_any mb 8 0 1099511627775 w6.drew).mono ?_
  rintro e w7 ⟨pc8, rfl, ge7, lt7, pt7, hb⟩
  have HV4 := Lib.hid (HV4.out.below hb)
  have HV5 := Lib.hid (HV5.out.below hb)
  have HV6 := Lib.hid (HV6.out.below hb)
  have HV7 := Lib.hid (HV7.out.below hb)
  have HP7 := Lib.hid ((hb.cell (p := ⟨S, 0, none⟩) hs6).trans HP6.out)
  have HB7 := Lib.hid (HB6.out.trans (hb.mono (by omega)))
  have hs7 : S < w7.heap.size := Nat.lt_of_lt_of_le hs6 hb.size
  have f7_b4_0 : w7.cell? ⟨b4, 0, none⟩ = some (.func (.func 48) #[] #[.pointer (some ⟨pb4, 0, none⟩)]) := cellb HV4.out.blk rfl
  have f7_b4_1 : w7.cell? ⟨b4, 1, none⟩ = some (.func (.func 49) #[] #[.pointer (some ⟨pb4, 0, none⟩)]) := cellb HV4.out.blk rfl
  have f7_b4_2 : w7.cell? ⟨b4, 2, none⟩ = some (.int .i64 0) := cellb HV4.out.blk rfl
  have f7_b4_3 : w7.cell? ⟨b4, 3, none⟩ = some (.int .i64 1099511627776) := cellb HV4.out.blk rfl
  have f7_b5_0 : w7.cell? ⟨b5, 0, none⟩ = some (.func (.func 48) #[] #[.pointer (some ⟨pb5, 0, none⟩)]) := cellb HV5.out.blk rfl
  have f7_b5_1 : w7.cell? ⟨b5, 1, none⟩ = some (.func (.func 49) #[] #[.pointer (some ⟨pb5, 0, none⟩)]) := cellb HV5.out.blk rfl
  have f7_b5_2 : w7.cell? ⟨b5, 2, none⟩ = some (.int .i64 0) := cellb HV5.out.blk rfl
  have f7_b5_3 : w7.cell? ⟨b5, 3, none⟩ = some (.int .i64 15) := cellb HV5.out.blk rfl
  have f7_b6_0 : w7.cell? ⟨b6, 0, none⟩ = some (.func (.func 48) #[] #[.pointer (some ⟨pb6, 0, none⟩)]) := cellb HV6.out.blk rfl
  have f7_b6_1 : w7.cell? ⟨b6, 1, none⟩ = some (.func (.func 49) #[] #[.pointer (some ⟨pb6, 0, none⟩)]) := cellb HV6.out.blk rfl
  have f7_b6_2 : w7.cell? ⟨b6, 2, none⟩ = some (.int .i64 1) := cellb HV6.out.blk rfl
  have f7_b6_3 : w7.cell? ⟨b6, 3, none⟩ = some (.int .i64 100) := cellb HV6.out.blk rfl
  have f7_b7_0 : w7.cell? ⟨b7, 0, none⟩ = some (.func (.func 48) #[] #[.pointer (some ⟨pb7, 0, none⟩)]) := cellb HV7.out.blk rfl
  have f7_b7_1 : w7.cell? ⟨b7, 1, none⟩ = some (.func (.func 49) #[] #[.pointer (some ⟨pb7, 0, none⟩)]) := cellb HV7.out.blk rfl
  have f7_b7_2 : w7.cell? ⟨b7, 2, none⟩ = some (.int .i64 1) := cellb HV7.out.blk rfl
  have f7_b7_3 : w7.cell? ⟨b7, 3, none⟩ = some (.int .i64 6) := cellb HV7.out.blk rfl
  have f7_p : w7.cell? ⟨S, 0, none⟩ = some (.pointer (some ⟨mb, 0, none⟩)) := HP7.out
  have gt7 : mb < pc8 := by omega
  clear hb ge7
  refine hK.out _ _ ?_ (fun hHeld => ?_)
  · try dsimp only
    (refine ⟨?_, ?_, ?_, ?_, ?_, ?_, ?_, ?_, ?_, ?_, ?_, ?_, ?_, ?_, ?_, ?_, ?_⟩ <;> (first | with_reducible assumption))
  clear hK K
  try simp only [Act.put, List.setIfInBounds_toArray, List.set_cons_zero, List.set_cons_succ]
  refine wpAnyH_ready (rs := [11]) (by kernel_rfl) (by simp) ?_
  refine AllReadyH.cons (by (simp only [List.getElem?_toArray, List.getElem?_cons_succ, List.getElem?_cons_zero]; rfl)) (fun K hK => ?_) AllReadyH.nil
  go_simp
  refine (at_any mb 9 1 1000 w7).mono ?_
  rintro e w8 ⟨pc9, rfl, ge8, lt8, pt8, hb⟩
  have HV4 := Lib.hid (HV4.out.below hb)
  have HV5 := Lib.hid (HV5.out.below hb)
  have HV6 := Lib.hid (HV6.out.below hb)
  have HV7 := Lib.hid (HV7.out.below hb)
  have HP8 := Lib.hid ((hb.cell (p := ⟨S, 0, none⟩) hs7).trans HP7.out)
  have HB8 := Lib.hid (HB7.out.trans (hb.mono (by omega)))
  have hs8 : S < w8.heap.size := Nat.lt_of_lt_of_le hs7 hb.size
  have pt7 : w8.cell? ⟨pc8, 0, none⟩ = some (.pointer (some ⟨mb, 8, none⟩)) := (hb.cell (p := ⟨pc8, 0, none⟩) lt7).trans pt7
  have lt7 : pc8 < w8.heap.size := Nat.lt_of_lt_of_le lt7 hb.size
  have f8_b4_0 : w8.cell? ⟨b4, 0, none⟩ = some (.func (.func 48) #[] #[.pointer (some ⟨pb4, 0, none⟩)]) := cellb HV4.out.blk rfl
  have f8_b4_1 : w8.cell? ⟨b4, 1, none⟩ = some (.func (.func 49) #[] #[.pointer (some ⟨pb4, 0, none⟩)]) := cellb HV4.out.blk rfl
  have f8_b4_2 : w8.cell? ⟨b4, 2, none⟩ = some (.int .i64 0) := cellb HV4.out.blk rfl
  have f8_b4_3 : w8.cell? ⟨b4, 3, none⟩ = some (.int .i64 1099511627776) := cellb HV4.out.blk rfl
  have f8_b5_0 : w8.cell? ⟨b5, 0, none⟩ = some (.func (.func 48) #[] #[.pointer (some ⟨pb5, 0, none⟩)]) := cellb HV5.out.blk rfl
  have f8_b5_1 : w8.cell? ⟨b5, 1, none⟩ = some (.func (.func 49) #[] #[.pointer (some ⟨pb5, 0, none⟩)]) := cellb HV5.out.blk rfl
  have f8_b5_2 : w8.cell? ⟨b5, 2, none⟩ = some (.int .i64 0) := cellb HV5.out.blk rfl
  have f8_b5_3 : w8.cell? ⟨b5, 3, none⟩ = some (.int .i64 15) := cellb HV5.out.blk rfl
  have f8_b6_0 : w8.cell? ⟨b6, 0, none⟩ = some (.func (.func 48) #[] #[.pointer (some ⟨pb6, 0, none⟩)]) := cellb HV6.out.blk rfl
  have f8_b6_1 : w8.cell? ⟨b6, 1, none⟩ = some (.func (.func 49) #[] #[.pointer (some ⟨pb6, 0, none⟩)]) := cellb HV6.out.blk rfl
  have f8_b6_2 : w8.cell? ⟨b6, 2, none⟩ = some (.int .i64 1) := cellb HV6.out.blk rfl
  have f8_b6_3 : w8.cell? ⟨b6, 3, none⟩ = some (.int .i64 100) := cellb HV6.out.blk rfl
  have f8_b7_0 : w8.cell? ⟨b7, 0, none⟩ = some (.func (.func 48) #[] #[.pointer (some ⟨pb7, 0, none⟩)]) := cellb HV7.out.blk rfl
  have f8_b7_1 : w8.cell? ⟨b7, 1, none⟩ = some (.func (.func 49) #[] #[.pointer (some ⟨pb7, 0, none⟩)]) := cellb HV7.out.blk rfl
  have f8_b7_2 : w8.cell? ⟨b7, 2, none⟩ = some (.int .i64 1) := cellb HV7.out.blk rfl
  have f8_b7_3 : w8.cell? ⟨b7, 3, none⟩ = some (.int .i64 6) := cellb HV7.out.blk rfl
  have f8_p : w8.cell? ⟨S, 0, none⟩ = some (.pointer (some ⟨mb, 0, none⟩)) := HP8.out
  have gt8 : mb < pc9 := by omega
  clear hb ge8
  refine hK.out _ _ ?_ (fun hHeld => ?_)
  · try dsimp only
    (refine ⟨?_, ?_, ?_, ?_, ?_, ?_, ?_, ?_, ?_, ?_, ?_, ?_, ?_, ?_, ?_, ?_, ?_⟩ <;> (first | with_reducible assumption))
  clear hK K
  try simp only [Act.put, List.setIfInBounds_toArray, List.set_cons_zero, List.set_cons_succ]
  refine wpAnyH_ready (rs := [12]) (by kernel_rfl) (by simp) ?_
  refine AllReadyH.cons (by (simp only [List.getElem?_toArray, List.getElem?_cons_succ, List.getElem?_cons_zero]; rfl)) (fun K hK => ?_) AllReadyH.nil
  go_simp
  have hrow := heap_alloc_new w8 (.cells #[.func (.func 48) #[] #[.pointer (some ⟨pb4, 0, none⟩)], .func (.func 49) #[] #[.pointer (some ⟨pb4, 0, none⟩)], .int .i64 0, .int .i64 1099511627776, .func (.func 48) #[] #[.pointer (some ⟨pb5, 0, none⟩)], .func (.func 49) #[] #[.pointer (some ⟨pb5, 0, none⟩)], .int .i64 0, .int .i64 15, .func (.func 48) #[] #[.pointer (some ⟨pb6, 0, none⟩)], .func (.func 49) #[] #[.pointer (some ⟨pb6, 0, none⟩)], .int .i64 1, .int .i64 100, .func (.func 48) #[] #[.pointer (some ⟨pb7, 0, none⟩)], .func (.func 49) #[] #[.pointer (some ⟨pb7, 0, none⟩)], .int .i64 1, .int .i64 6, .func (.func 48) #[] #[.pointer (some ⟨pc8, 0, none⟩)], .func (.func 49) #[] #[.pointer (some ⟨pc8, 0, none⟩)], .int .i64 0, .int .i64 1099511627775, .func (.func 48) #[] #[.pointer (some ⟨pc9, 0, none⟩)], .func (.func 49) #[] #[.pointer (some ⟨pc9, 0, none⟩)], .int .i64 1, .int .i64 1000] 82)
  have hal : Below w8.heap.size w8 (w8.alloc (.cells #[.func (.func 48) #[] #[.pointer (some ⟨pb4, 0, none⟩)], .func (.func 49) #[] #[.pointer (some ⟨pb4, 0, none⟩)], .int .i64 0, .int .i64 1099511627776, .func (.func 48) #[] #[.pointer (some ⟨pb5, 0, none⟩)], .func (.func 49) #[] #[.pointer (some ⟨pb5, 0, none⟩)], .int .i64 0, .int .i64 15, .func (.func 48) #[] #[.pointer (some ⟨pb6, 0, none⟩)], .func (.func 49) #[] #[.pointer (some ⟨pb6, 0, none⟩)], .int .i64 1, .int .i64 100, .func (.func 48) #[] #[.pointer (some ⟨pb7, 0, none⟩)], .func (.func 49) #[] #[.pointer (some ⟨pb7, 0, none⟩)], .int .i64 1, .int .i64 6, .func (.func 48) #[] #[.pointer (some ⟨pc8, 0, none⟩)], .func (.func 49) #[] #[.pointer (some ⟨pc8, 0, none⟩)], .int .i64 0, .int .i64 1099511627775, .func (.func 48) #[] #[.pointer (some ⟨pc9, 0, none⟩)], .func (.func 49) #[] #[.pointer (some ⟨pc9, 0, none⟩)], .int .i64 1, .int .i64 1000] 82)) := (Below.refl _ _).alloc (Nat.le_refl _) _
  have hown := own_alloc w8 #[.func (.func 48) #[] #[.pointer (some ⟨pb4, 0, none⟩)], .func (.func 49) #[] #[.pointer (some ⟨pb4, 0, none⟩)], .int .i64 0, .int .i64 1099511627776, .func (.func 48) #[] #[.pointer (some ⟨pb5, 0, none⟩)], .func (.func 49) #[] #[.pointer (some ⟨pb5, 0, none⟩)], .int .i64 0, .int .i64 15, .func (.func 48) #[] #[.pointer (some ⟨pb6, 0, none⟩)], .func (.func 49) #[] #[.pointer (some ⟨pb6, 0, none⟩)], .int .i64 1, .int .i64 100, .func (.func 48) #[] #[.pointer (some ⟨pb7, 0, none⟩)], .func (.func 49) #[] #[.pointer (some ⟨pb7, 0, none⟩)], .int .i64 1, .int .i64 6, .func (.func 48) #[] #[.pointer (some ⟨pc8, 0, none⟩)], .func (.func 49) #[] #[.pointer (some ⟨pc8, 0, none⟩)], .int .i64 0, .int .i64 1099511627775, .func (.func 48) #[] #[.pointer (some ⟨pc9, 0, none⟩)], .func (.func 49) #[] #[.pointer (some ⟨pc9, 0, none⟩)], .int .i64 1, .int .i64 1000] 82 4 6 S rfl (by unfold maxLen; omega) (by omega)
  obtain ⟨R, hR⟩ : ∃ R, R = w8.heap.size := ⟨_, rfl⟩
  have hmR : mb < R := by omega
  rw [← hR] at hrow hown ⊢
  have HV4 := Lib.hid (HV4.out.below hal)
  have HV5 := Lib.hid (HV5.out.below hal)
  have HV6 := Lib.hid (HV6.out.below hal)
  have HV7 := Lib.hid (HV7.out.below hal)
  have HP9 := Lib.hid (keepA (o := (.cells #[.func (.func 48) #[] #[.pointer (some ⟨pb4, 0, none⟩)], .func (.func 49) #[] #[.pointer (some ⟨pb4, 0, none⟩)], .int .i64 0, .int .i64 1099511627776, .func (.func 48) #[] #[.pointer (some ⟨pb5, 0, none⟩)], .func (.func 49) #[] #[.pointer (some ⟨pb5, 0, none⟩)], .int .i64 0, .int .i64 15, .func (.func 48) #[] #[.pointer (some ⟨pb6, 0, none⟩)], .func (.func 49) #[] #[.pointer (some ⟨pb6, 0, none⟩)], .int .i64 1, .int .i64 100, .func (.func 48) #[] #[.pointer (some ⟨pb7, 0, none⟩)], .func (.func 49) #[] #[.pointer (some ⟨pb7, 0, none⟩)], .int .i64 1, .int .i64 6, .func (.func 48) #[] #[.pointer (some ⟨pc8, 0, none⟩)], .func (.func 49) #[] #[.pointer (some ⟨pc8, 0, none⟩)], .int .i64 0, .int .i64 1099511627775, .func (.func 48) #[] #[.pointer (some ⟨pc9, 0, none⟩)], .func (.func 49) #[] #[.pointer (some ⟨pc9, 0, none⟩)], .int .i64 1, .int .i64 1000] 82)) HP8.out)
  have HR := Lib.hid hrow
  have HB9 := Lib.hid (HB8.out.trans (hal.mono (by omega)))
  have HO := Lib.hid hown
  have lt7b : pc8 < (w8.alloc (.cells #[.func (.func 48) #[] #[.pointer (some ⟨pb4, 0, none⟩)], .func (.func 49) #[] #[.pointer (some ⟨pb4, 0, none⟩)], .int .i64 0, .int .i64 1099511627776, .func (.func 48) #[] #[.pointer (some ⟨pb5, 0, none⟩)], .func (.func 49) #[] #[.pointer (some ⟨pb5, 0, none⟩)], .int .i64 0, .int .i64 15, .func (.func 48) #[] #[.pointer (some ⟨pb6, 0, none⟩)], .func (.func 49) #[] #[.pointer (some ⟨pb6, 0, none⟩)], .int .i64 1, .int .i64 100, .func (.func 48) #[] #[.pointer (some ⟨pb7, 0, none⟩)], .func (.func 49) #[] #[.pointer (some ⟨pb7, 0, none⟩)], .int .i64 1, .int .i64 6, .func (.func 48) #[] #[.pointer (some ⟨pc8, 0, none⟩)], .func (.func 49) #[] #[.pointer (some ⟨pc8, 0, none⟩)], .int .i64 0, .int .i64 1099511627775, .func (.func 48) #[] #[.pointer (some ⟨pc9, 0, none⟩)], .func (.func 49) #[] #[.pointer (some ⟨pc9, 0, none⟩)], .int .i64 1, .int .i64 1000] 82)).heap.size := by simp; omega
  have pt7b := keepA (o := (.cells #[.func (.func 48) #[] #[.pointer (some ⟨pb4, 0, none⟩)], .func (.func 49) #[] #[.pointer (some ⟨pb4, 0, none⟩)], .int .i64 0, .int .i64 1099511627776, .func (.func 48) #[] #[.pointer (some ⟨pb5, 0, none⟩)], .func (.func 49) #[] #[.pointer (some ⟨pb5, 0, none⟩)], .int .i64 0, .int .i64 15, .func (.func 48) #[] #[.pointer (some ⟨pb6, 0, none⟩)], .func (.func 49) #[] #[.pointer (some ⟨pb6, 0, none⟩)], .int .i64 1, .int .i64 100, .func (.func 48) #[] #[.pointer (some ⟨pb7, 0, none⟩)], .func (.func 49) #[] #[.pointer (some ⟨pb7, 0, none⟩)], .int .i64 1, .int .i64 6, .func (.func 48) #[] #[.pointer (some ⟨pc8, 0, none⟩)], .func (.func 49) #[] #[.pointer (some ⟨pc8, 0, none⟩)], .int .i64 0, .int .i64 1099511627775, .func (.func 48) #[] #[.pointer (some ⟨pc9, 0, none⟩)], .func (.func 49) #[] #[.pointer (some ⟨pc9, 0, none⟩)], .int .i64 1, .int .i64 1000] 82)) pt7
  have lt8b : pc9 < (w8.alloc (.cells #[.func (.func 48) #[] #[.pointer (some ⟨pb4, 0, none⟩)], .func (.func 49) #[] #[.pointer (some ⟨pb4, 0, none⟩)], .int .i64 0, .int .i64 1099511627776, .func (.func 48) #[] #[.pointer (some ⟨pb5, 0, none⟩)], .func (.func 49) #[] #[.pointer (some ⟨pb5, 0, none⟩)], .int .i64 0, .int .i64 15, .func (.func 48) #[] #[.pointer (some ⟨pb6, 0, none⟩)], .func (.func 49) #[] #[.pointer (some ⟨pb6, 0, none⟩)], .int .i64 1, .int .i64 100, .func (.func 48) #[] #[.pointer (some ⟨pb7, 0, none⟩)], .func (.func 49) #[] #[.pointer (some ⟨pb7, 0, none⟩)], .int .i64 1, .int .i64 6, .func (.func 48) #[] #[.pointer (some ⟨pc8, 0, none⟩)], .func (.func 49) #[] #[.pointer (some ⟨pc8, 0, none⟩)], .int .i64 0, .int .i64 1099511627775, .func (.func 48) #[] #[.pointer (some ⟨pc9, 0, none⟩)], .func (.func 49) #[] #[.pointer (some ⟨pc9, 0, none⟩)], .int .i64 1, .int .i64 1000] 82)).heap.size := by simp; omega
  have pt8b := keepA (o := (.cells #[.func (.func 48) #[] #[.pointer (some ⟨pb4, 0, none⟩)], .func (.func 49) #[] #[.pointer (some ⟨pb4, 0, none⟩)], .int .i64 0, .int .i64 1099511627776, .func (.func 48) #[] #[.pointer (some ⟨pb5, 0, none⟩)], .func (.func 49) #[] #[.pointer (some ⟨pb5, 0, none⟩)], .int .i64 0, .int .i64 15, .func (.func 48) #[] #[.pointer (some ⟨pb6, 0, none⟩)], .func (.func 49) #[] #[.pointer (some ⟨pb6, 0, none⟩)], .int .i64 1, .int .i64 100, .func (.func 48) #[] #[.pointer (some ⟨pb7, 0, none⟩)], .func (.func 49) #[] #[.pointer (some ⟨pb7, 0, none⟩)], .int .i64 1, .int .i64 6, .func (.func 48) #[] #[.pointer (some ⟨pc8, 0, none⟩)], .func (.func 49) #[] #[.pointer (some ⟨pc8, 0, none⟩)], .int .i64 0, .int .i64 1099511627775, .func (.func 48) #[] #[.pointer (some ⟨pc9, 0, none⟩)], .func (.func 49) #[] #[.pointer (some ⟨pc9, 0, none⟩)], .int .i64 1, .int .i64 1000] 82)) pt8
  have hs9 : S < (w8.alloc (.cells #[.func (.func 48) #[] #[.pointer (some ⟨pb4, 0, none⟩)], .func (.func 49) #[] #[.pointer (some ⟨pb4, 0, none⟩)], .int .i64 0, .int .i64 1099511627776, .func (.func 48) #[] #[.pointer (some ⟨pb5, 0, none⟩)], .func (.func 49) #[] #[.pointer (some ⟨pb5, 0, none⟩)], .int .i64 0, .int .i64 15, .func (.func 48) #[] #[.pointer (some ⟨pb6, 0, none⟩)], .func (.func 49) #[] #[.pointer (some ⟨pb6, 0, none⟩)], .int .i64 1, .int .i64 100, .func (.func 48) #[] #[.pointer (some ⟨pb7, 0, none⟩)], .func (.func 49) #[] #[.pointer (some ⟨pb7, 0, none⟩)], .int .i64 1, .int .i64 6, .func (.func 48) #[] #[.pointer (some ⟨pc8, 0, none⟩)], .func (.func 49) #[] #[.pointer (some ⟨pc8, 0, none⟩)], .int .i64 0, .int .i64 1099511627775, .func (.func 48) #[] #[.pointer (some ⟨pc9, 0, none⟩)], .func (.func 49) #[] #[.pointer (some ⟨pc9, 0, none⟩)], .int .i64 1, .int .i64 1000] 82)).heap.size := by simp; omega
  clear hrow hal hR hown pt7 lt7 pt8 lt8
  generalize (w8.alloc (.cells #[.func (.func 48) #[] #[.pointer (some ⟨pb4, 0, none⟩)], .func (.func 49) #[] #[.pointer (some ⟨pb4, 0, none⟩)], .int .i64 0, .int .i64 1099511627776, .func (.func 48) #[] #[.pointer (some ⟨pb5, 0, none⟩)], .func (.func 49) #[] #[.pointer (some ⟨pb5, 0, none⟩)], .int .i64 0, .int .i64 15, .func (.func 48) #[] #[.pointer (some ⟨pb6, 0, none⟩)], .func (.func 49) #[] #[.pointer (some ⟨pb6, 0, none⟩)], .int .i64 1, .int .i64 100, .func (.func 48) #[] #[.pointer (some ⟨pb7, 0, none⟩)], .func (.func 49) #[] #[.pointer (some ⟨pb7, 0, none⟩)], .int .i64 1, .int .i64 6, .func (.func 48) #[] #[.pointer (some ⟨pc8, 0, none⟩)], .func (.func 49) #[] #[.pointer (some ⟨pc8, 0, none⟩)], .int .i64 0, .int .i64 1099511627775, .func (.func 48) #[] #[.pointer (some ⟨pc9, 0, none⟩)], .func (.func 49) #[] #[.pointer (some ⟨pc9, 0, none⟩)], .int .i64 1, .int .i64 1000] 82)) = w9 at HV4 HV5 HV6 HV7 HP9 HR HB9 lt7b pt7b lt8b pt8b hs9 HO ⊢
  have f9_b4_0 : w9.cell? ⟨b4, 0, none⟩ = some (.func (.func 48) #[] #[.pointer (some ⟨pb4, 0, none⟩)]) := cellb HV4.out.blk rfl
  have f9_b4_1 : w9.cell? ⟨b4, 1, none⟩ = some (.func (.func 49) #[] #[.pointer (some ⟨pb4, 0, none⟩)]) := cellb HV4.out.blk rfl
  have f9_b4_2 : w9.cell? ⟨b4, 2, none⟩ = some (.int .i64 0) := cellb HV4.out.blk rfl
  have f9_b4_3 : w9.cell? ⟨b4, 3, none⟩ = some (.int .i64 1099511627776) := cellb HV4.out.blk rfl
  have f9_b5_0 : w9.cell? ⟨b5, 0, none⟩ = some (.func (.func 48) #[] #[.pointer (some ⟨pb5, 0, none⟩)]) := cellb HV5.out.blk rfl
  have f9_b5_1 : w9.cell? ⟨b5, 1, none⟩ = some (.func (.func 49) #[] #[.pointer (some ⟨pb5, 0, none⟩)]) := cellb HV5.out.blk rfl
  have f9_b5_2 : w9.cell? ⟨b5, 2, none⟩ = some (.int .i64 0) := cellb HV5.out.blk rfl
  have f9_b5_3 : w9.cell? ⟨b5, 3, none⟩ = some (.int .i64 15) := cellb HV5.out.blk rfl
  have f9_b6_0 : w9.cell? ⟨b6, 0, none⟩ = some (.func (.func 48) #[] #[.pointer (some ⟨pb6, 0, none⟩)]) := cellb HV6.out.blk rfl
  have f9_b6_1 : w9.cell? ⟨b6, 1, none⟩ = some (.func (.func 49) #[] #[.pointer (some ⟨pb6, 0, none⟩)]) := cellb HV6.out.blk rfl
  have f9_b6_2 : w9.cell? ⟨b6, 2, none⟩ = some (.int .i64 1) := cellb HV6.out.blk rfl
  have f9_b6_3 : w9.cell? ⟨b6, 3, none⟩ = some (.int .i64 100) := cellb HV6.out.blk rfl
  have f9_b7_0 : w9.cell? ⟨b7, 0, none⟩ = some (.func (.func 48) #[] #[.pointer (some ⟨pb7, 0, none⟩)]) := cellb HV7.out.blk rfl
  have f9_b7_1 : w9.cell? ⟨b7, 1, none⟩ = some (.func (.func 49) #[] #[.pointer (some ⟨pb7, 0, none⟩)]) := cellb HV7.out.blk rfl
  have f9_b7_2 : w9.cell? ⟨b7, 2, none⟩ = some (.int .i64 1) := cellb HV7.out.blk rfl
  have f9_b7_3 : w9.cell? ⟨b7, 3, none⟩ = some (.int .i64 6) := cellb HV7.out.blk rfl
  have f9_p : w9.cell? ⟨S, 0, none⟩ = some (.pointer (some ⟨mb, 0, none⟩)) := HP9.out
  refine hK.out _ _ ?_ (fun hHeld => ?_)
  · try dsimp only
    (refine ⟨?_, ?_, ?_, ?_, ?_, ?_, ?_, ?_, ?_, ?_, ?_, ?_, ?_, ?_, ?_, ?_, ?_⟩ <;> (first | with_reducible assumption))
  clear hK K
  try simp only [Act.put, List.setIfInBounds_toArray, List.set_cons_zero, List.set_cons_succ]
  refine wpAnyH_ready (rs := [13]) (by kernel_rfl) (by simp) ?_
  refine AllReadyH.cons (by (simp only [List.getElem?_toArray, List.getElem?_cons_succ, List.getElem?_cons_zero]; rfl)) (fun K hK => ?_) AllReadyH.nil
  go_simp
  refine (all_any _ _ _ _).mono ?_
  rintro e w' ⟨rfl, rfl⟩
  refine hK.out _ _ ?_ (fun hHeld => ?_)
  · try dsimp only
    (refine ⟨?_, ?_, ?_, ?_, ?_, ?_, ?_, ?_, ?_, ?_, ?_, ?_, ?_, ?_, ?_, ?_, ?_⟩ <;> (first | with_reducible assumption))
  clear hK K
  try simp only [Act.put, List.setIfInBounds_toArray, List.set_cons_zero, List.set_cons_succ]
  refine wpAnyH_take (i := 14) (v := ?_) (by (simp only [List.getElem?_toArray, List.getElem?_cons_succ, List.getElem?_cons_zero]; rfl)) (by kernel_rfl) (by kernel_rfl) (by kernel_rfl) (fun _ _ _ h => h) (Or.inl ⟨by rfl, ?_⟩) (by assumption) ?_
  rotate_left
  · (intro w hSw; (try dsimp only at hSw); go_simp; try with_reducible rfl)
  try simp only [Act.put, List.setIfInBounds_toArray, List.set_cons_zero, List.set_cons_succ]
  refine wpAnyH_done (by kernel_rfl) ?_ _
  refine NoPanic.normal ?_
  clear hHeld f6_b4_0 f6_b4_1 f6_b4_2 f6_b4_3 f6_b5_0 f6_b5_1 f6_b5_2 f6_b5_3 f6_b6_0 f6_b6_1 f6_b6_2 f6_b6_3 f6_b7_0 f6_b7_1 f6_b7_2 f6_b7_3 f7_b4_0 f7_b4_1 f7_b4_2 f7_b4_3 f7_b5_0 f7_b5_1 f7_b5_2 f7_b5_3 f7_b6_0 f7_b6_1 f7_b6_2 f7_b6_3 f7_b7_0 f7_b7_1 f7_b7_2 f7_b7_3 f8_b4_0 f8_b4_1 f8_b4_2 f8_b4_3 f8_b5_0 f8_b5_1 f8_b5_2 f8_b5_3 f8_b6_0 f8_b6_1 f8_b6_2 f8_b6_3 f8_b7_0 f8_b7_1 f8_b7_2 f8_b7_3 f9_b4_0 f9_b4_1 f9_b4_2 f9_b4_3 f9_b5_0 f9_b5_1 f9_b5_2 f9_b5_3 f9_b6_0 f9_b6_1 f9_b6_2 f9_b6_3 f9_b7_0 f9_b7_1 f9_b7_2 f9_b7_3 f6_p f7_p f8_p f9_p
  obtain ⟨l, hl⟩ : ∃ l : List FD, l = [⟨1, 0, 1099511627776⟩, ⟨2, 0, 15⟩, ⟨6, 1, 100⟩, ⟨7, 1, 6⟩, ⟨8, 0, 1099511627775⟩, ⟨9, 1, 1000⟩, ⟨11, 0, 1073741824⟩, ⟨12, 0, 1073741824⟩, ⟨13, 0, 1073741824⟩, ⟨14, 0, 1073741824⟩] := ⟨_, rfl⟩
  have HLL := Lib.hid hl
  clear hl
  have V4 := HV4.out
  have V5 := HV5.out
  have V6 := HV6.out
  have V7 := HV7.out
  obtain ⟨xs, hxs⟩ : ∃ xs : List Value, xs = [.func (.func 48) #[] #[.pointer (some ⟨pb4, 0, none⟩)], .func (.func 49) #[] #[.pointer (some ⟨pb4, 0, none⟩)], .int .i64 0, .int .i64 1099511627776, .func (.func 48) #[] #[.pointer (some ⟨pb5, 0, none⟩)], .func (.func 49) #[] #[.pointer (some ⟨pb5, 0, none⟩)], .int .i64 0, .int .i64 15, .func (.func 48) #[] #[.pointer (some ⟨pb6, 0, none⟩)], .func (.func 49) #[] #[.pointer (some ⟨pb6, 0, none⟩)], .int .i64 1, .int .i64 100, .func (.func 48) #[] #[.pointer (some ⟨pb7, 0, none⟩)], .func (.func 49) #[] #[.pointer (some ⟨pb7, 0, none⟩)], .int .i64 1, .int .i64 6, .func (.func 48) #[] #[.pointer (some ⟨pc8, 0, none⟩)], .func (.func 49) #[] #[.pointer (some ⟨pc8, 0, none⟩)], .int .i64 0, .int .i64 1099511627775, .func (.func 48) #[] #[.pointer (some ⟨pc9, 0, none⟩)], .func (.func 49) #[] #[.pointer (some ⟨pc9, 0, none⟩)], .int .i64 1, .int .i64 1000] := ⟨_, rfl⟩
  have hrf : RowF w9 w9.heap.size mb xs (l.take 6) := by
    rw [HLL.out, hxs]
    refine ⟨rfl, fun i f hf => ?_⟩
    have hi : i < 6 := (List.getElem?_eq_some_iff.1 hf).1
    have hi : i = 0 ∨ i = 1 ∨ i = 2 ∨ i = 3 ∨ i = 4 ∨ i = 5 := by omega
    rcases hi with rfl | rfl | rfl | rfl | rfl | rfl
    · obtain rfl := Option.some.inj hf
      exact ⟨_, _, .inl ⟨pb4, V4.gt, V4.lt, rfl, rfl, V4.ptr⟩, rfl, rfl, rfl, rfl⟩
    · obtain rfl := Option.some.inj hf
      exact ⟨_, _, .inl ⟨pb5, V5.gt, V5.lt, rfl, rfl, V5.ptr⟩, rfl, rfl, rfl, rfl⟩
    · obtain rfl := Option.some.inj hf
      exact ⟨_, _, .inl ⟨pb6, V6.gt, V6.lt, rfl, rfl, V6.ptr⟩, rfl, rfl, rfl, rfl⟩
    · obtain rfl := Option.some.inj hf
      exact ⟨_, _, .inl ⟨pb7, V7.gt, V7.lt, rfl, rfl, V7.ptr⟩, rfl, rfl, rfl, rfl⟩
    · obtain rfl := Option.some.inj hf
      exact ⟨_, _, .inl ⟨pc8, gt7, lt7b, rfl, rfl, pt7b⟩, rfl, rfl, rfl, rfl⟩
    · obtain rfl := Option.some.inj hf
      exact ⟨_, _, .inl ⟨pc9, gt8, lt8b, rfl, rfl, pt8b⟩, rfl, rfl, rfl, rfl⟩
  have HRF := Lib.hid hrf
  have HO : Hid (w9.ownsRow S 82 4 (.slice (some ⟨R, 0, none⟩) 6 6) 6 xs) := Lib.hid (by rw [hxs]; exact HO.out)
  have HLN : Hid (l.length = 10) := Lib.hid (by rw [HLL.out]; rfl)
  clear hrf hxs V4 HV4 V5 HV5 V6 HV6 V7 HV7 HR gt7 lt7b pt7b gt8 lt8b pt8b
  obtain ⟨iF, hiF, hz0, hz1, hz2⟩ := info_parts Try.infoF
  go_wp2_with fail
  go_loopw [10, 80] (fun r i wr => ∃ (j : Nat) (A : Option Addr) (c : Nat) (xs : List Value), j ≤ 4 ∧ i = .int .i64 j ∧ r = .slice A (6 + j) c ∧ S < wr.heap.size ∧ Hid (wr.ownsRow S 82 4 (.slice A (6 + j) c) (6 + j) xs) ∧ Hid (RowF wr wr.heap.size mb xs (l.take (6 + j))) ∧ Hid (wr.cell? ⟨S, 0, none⟩ = some (.pointer (some ⟨mb, 0, none⟩))) ∧ Hid (Below S w wr)) (fun _ i _ => 4 - (intOf i).toNat)
  case atStart => exact ⟨0, _, _, xs, by omega, rfl, rfl, hs9, HO, HRF, HP9, HB9⟩
  case round =>
    clear HO HRF HP9 HB9 hs9 hmR
    obtain ⟨j, A, c, xs, hj, rfl, rfl, hs, HO, HRF, HP, HB⟩ := hrel
    by_cases hj4 : j < 4
    · have htk : ∀ f, l[6 + j]? = some f → l.take (6 + (j + 1)) = l.take (6 + j) ++ [f] := fun f hf => by rw [← Nat.add_assoc, List.take_add_one, hf]; rfl
      have HTK := Lib.hid htk
      clear htk
      have hj' : j = 0 ∨ j = 1 ∨ j = 2 ∨ j = 3 := by omega
      rcases hj' with rfl | rfl | rfl | rfl

      · have c0 := HP.out
        go_wp2_with fail
        clear c0
        refine (at_any mb 11 0 1073741824 wr).mono ?_
        rintro e w1 ⟨pb, rfl, ge, lt, pt, hb⟩
        have HO1 := Lib.hid (HO.out.kept (grown_of_below hb none) (by cases A <;> simp [Value.ownBlock]))
        have HF1 := Lib.hid (HRF.out.kept (fun k _ hk => hb.block k hk) hb.size)
        have HP1 := Lib.hid ((hb.cell (p := ⟨S, 0, none⟩) hs).trans HP.out)
        have HB1 := Lib.hid (HB.out.trans (hb.mono (by omega)))
        have hs1 : S < w1.heap.size := Nat.lt_of_lt_of_le hs hb.size
        have HC1 : Hid (Clos w1 w1.heap.size mb 11 (.func (.func 48) #[] #[.pointer (some ⟨pb, 0, none⟩)]) (.func (.func 49) #[] #[.pointer (some ⟨pb, 0, none⟩)])) := Lib.hid (.inl ⟨pb, by omega, lt, rfl, rfl, pt⟩)
        clear ge lt pt hb HO HRF HP HB hs
        obtain ⟨w2, hw2⟩ : ∃ y, y = w1.alloc (.cells #[.func (.func 48) #[] #[.pointer (some ⟨pb, 0, none⟩)], .func (.func 49) #[] #[.pointer (some ⟨pb, 0, none⟩)], .int .i64 0, .int .i64 1073741824] 82) := ⟨_, rfl⟩
        have hal : Below w1.heap.size w1 w2 := by rw [hw2]; exact (Below.refl _ _).alloc (Nat.le_refl _) _
        have HR2 : Hid (CellsIn w2 (w1.heap.size + 1) 4 (some ⟨w1.heap.size, 0, none⟩) 1 [.func (.func 48) #[] #[.pointer (some ⟨pb, 0, none⟩)], .func (.func 49) #[] #[.pointer (some ⟨pb, 0, none⟩)], .int .i64 0, .int .i64 1073741824]) := Lib.hid (by rw [hw2]; exact cellsIn_alloc w1 #[.func (.func 48) #[] #[.pointer (some ⟨pb, 0, none⟩)], .func (.func 49) #[] #[.pointer (some ⟨pb, 0, none⟩)], .int .i64 0, .int .i64 1073741824] _ _ 4 1 rfl)
        have HO2 := Lib.hid (HO1.out.kept (grown_of_below hal none) (by cases A <;> simp [Value.ownBlock]))
        have HF2 := Lib.hid (HF1.out.kept (fun k _ hk => hal.block k hk) hal.size)
        have HC2 := Lib.hid ((HC1.out.below hal (Nat.le_refl _)).more hal.size)
        have HP2 := Lib.hid ((hal.cell (p := ⟨S, 0, none⟩) hs1).trans HP1.out)
        have HB2 := Lib.hid (HB1.out.trans (hal.mono (by omega)))
        have hs2 : S < w2.heap.size := Nat.lt_of_lt_of_le hs1 hal.size
        clear HO1 HF1 HP1 HB1 HC1 hal
        go_wp2_with (first | (at_builtin; rw [← hw2]; refine wpList_append_row _ rfl (.tmp 83) (.tmp 90) _ rfl S 82 iF _ 4 32 Try.underlying76 hiF hz0 hz1 hz2 rfl (by omega) A 6 c xs rfl HO2.out _ _ 1 _ _ rfl HR2.out (by simp [Value.oneCell']) (by unfold maxLen; omega) (by omega) (by omega) (fun A2 c2 w3 hown hg hor => ?_)))
        have hx := HF2.out.first HO2.out (by rw [HLL.out]; simp)
        have hl3 : ∃ f, l[6]? = some f ∧ f.off = 11 ∧ f.lo = 0 ∧ f.hi = 1073741824 := by rw [HLL.out]; exact ⟨_, rfl, rfl, rfl, rfl⟩
        obtain ⟨f, hf, hfo, hf1, hf2⟩ := hl3
        have HF3 := Lib.hid ((HF2.out.grown hg hx).snoc f _ _ (by rw [hfo]; exact HC2.out.grown hg hx))
        rw [hf1, hf2, ← HTK.out f hf] at HF3
        have HP3 : Hid (w3.cell? ⟨S, 0, none⟩ = some (.pointer (some ⟨mb, 0, none⟩))) := Lib.hid (by
          have e : w3.heap[S]? = w2.heap[S]? := hg.block S hs2 (fun e => hx S e.symm _ HP2.out)
          have h0 := HP2.out
          simp only [World.cell?, e] at h0 ⊢
          exact h0)
        have HB3 := Lib.hid (HB2.out.trans ((Below.refl S w2).grown hg (by omega) (fun k hk => (HO2.out.lt k hk).1)))
        have hs3 : S < w3.heap.size := Nat.lt_of_lt_of_le hs2 hg.size
        have HO3 := Lib.hid hown
        clear hx hf hfo hf1 hf2 hown hg hor HO2 HF2 HP2 HB2 HC2 HR2 hw2
        go_wp2_with fail
        go_roundw
        case rel => exact ⟨0 + 1, A2, c2, _, by omega, by go_num, rfl, hs3, HO3, HF3, HP3, HB3⟩
        case measure => simp [intOf]

      · have c0 := HP.out
        go_wp2_with fail
        clear c0
        refine (at_any mb 12 0 1073741824 wr).mono ?_
        rintro e w1 ⟨pb, rfl, ge, lt, pt, hb⟩
        have HO1 := Lib.hid (HO.out.kept (grown_of_below hb none) (by cases A <;> simp [Value.ownBlock]))
        have HF1 := Lib.hid (HRF.out.kept (fun k _ hk => hb.block k hk) hb.size)
        have HP1 := Lib.hid ((hb.cell (p := ⟨S, 0, none⟩) hs).trans HP.out)
        have HB1 := Lib.hid (HB.out.trans (hb.mono (by omega)))
        have hs1 : S < w1.heap.size := Nat.lt_of_lt_of_le hs hb.size
        have HC1 : Hid (Clos w1 w1.heap.size mb 12 (.func (.func 48) #[] #[.pointer (some ⟨pb, 0, none⟩)]) (.func (.func 49) #[] #[.pointer (some ⟨pb, 0, none⟩)])) := Lib.hid (.inl ⟨pb, by omega, lt, rfl, rfl, pt⟩)
        clear ge lt pt hb HO HRF HP HB hs
        obtain ⟨w2, hw2⟩ : ∃ y, y = w1.alloc (.cells #[.func (.func 48) #[] #[.pointer (some ⟨pb, 0, none⟩)], .func (.func 49) #[] #[.pointer (some ⟨pb, 0, none⟩)], .int .i64 0, .int .i64 1073741824] 82) := ⟨_, rfl⟩
        have hal : Below w1.heap.size w1 w2 := by rw [hw2]; exact (Below.refl _ _).alloc (Nat.le_refl _) _
        have HR2 : Hid (CellsIn w2 (w1.heap.size + 1) 4 (some ⟨w1.heap.size, 0, none⟩) 1 [.func (.func 48) #[] #[.pointer (some ⟨pb, 0, none⟩)], .func (.func 49) #[] #[.pointer (some ⟨pb, 0, none⟩)], .int .i64 0, .int .i64 1073741824]) := Lib.hid (by rw [hw2]; exact cellsIn_alloc w1 #[.func (.func 48) #[] #[.pointer (some ⟨pb, 0, none⟩)], .func (.func 49) #[] #[.pointer (some ⟨pb, 0, none⟩)], .int .i64 0, .int .i64 1073741824] _ _ 4 1 rfl)
        have HO2 := Lib.hid (HO1.out.kept (grown_of_below hal none) (by cases A <;> simp [Value.ownBlock]))
        have HF2 := Lib.hid (HF1.out.kept (fun k _ hk => hal.block k hk) hal.size)
        have HC2 := Lib.hid ((HC1.out.below hal (Nat.le_refl _)).more hal.size)
        have HP2 := Lib.hid ((hal.cell (p := ⟨S, 0, none⟩) hs1).trans HP1.out)
        have HB2 := Lib.hid (HB1.out.trans (hal.mono (by omega)))
        have hs2 : S < w2.heap.size := Nat.lt_of_lt_of_le hs1 hal.size
        clear HO1 HF1 HP1 HB1 HC1 hal
        go_wp2_with (first | (at_builtin; rw [← hw2]; refine wpList_append_row _ rfl (.tmp 83) (.tmp 90) _ rfl S 82 iF _ 4 32 Try.underlying76 hiF hz0 hz1 hz2 rfl (by omega) A 7 c xs rfl HO2.out _ _ 1 _ _ rfl HR2.out (by simp [Value.oneCell']) (by unfold maxLen; omega) (by omega) (by omega) (fun A2 c2 w3 hown hg hor => ?_)))
        have hx := HF2.out.first HO2.out (by rw [HLL.out]; simp)
        have hl3 : ∃ f, l[7]? = some f ∧ f.off = 12 ∧ f.lo = 0 ∧ f.hi = 1073741824 := by rw [HLL.out]; exact ⟨_, rfl, rfl, rfl, rfl⟩
        obtain ⟨f, hf, hfo, hf1, hf2⟩ := hl3
        have HF3 := Lib.hid ((HF2.out.grown hg hx).snoc f _ _ (by rw [hfo]; exact HC2.out.grown hg hx))
        rw [hf1, hf2, ← HTK.out f hf] at HF3
        have HP3 : Hid (w3.cell? ⟨S, 0, none⟩ = some (.pointer (some ⟨mb, 0, none⟩))) := Lib.hid (by
          have e : w3.heap[S]? = w2.heap[S]? := hg.block S hs2 (fun e => hx S e.symm _ HP2.out)
          have h0 := HP2.out
          simp only [World.cell?, e] at h0 ⊢
          exact h0)
        have HB3 := Lib.hid (HB2.out.trans ((Below.refl S w2).grown hg (by omega) (fun k hk => (HO2.out.lt k hk).1)))
        have hs3 : S < w3.heap.size := Nat.lt_of_lt_of_le hs2 hg.size
        have HO3 := Lib.hid hown
        clear hx hf hfo hf1 hf2 hown hg hor HO2 HF2 HP2 HB2 HC2 HR2 hw2
        go_wp2_with fail
        go_roundw
        case rel => exact ⟨1 + 1, A2, c2, _, by omega, by go_num, rfl, hs3, HO3, HF3, HP3, HB3⟩
        case measure => simp [intOf]

      · have c0 := HP.out
        go_wp2_with fail
        clear c0
        refine (at_any mb 13 0 1073741824 wr).mono ?_
        rintro e w1 ⟨pb, rfl, ge, lt, pt, hb⟩
        have HO1 := Lib.hid (HO.out.kept (grown_of_below hb none) (by cases A <;> simp [Value.ownBlock]))
        have HF1 := Lib.hid (HRF.out.kept (fun k _ hk => hb.block k hk) hb.size)
        have HP1 := Lib.hid ((hb.cell (p := ⟨S, 0, none⟩) hs).trans HP.out)
        have HB1 := Lib.hid (HB.out.trans (hb.mono (by omega)))
        have hs1 : S < w1.heap.size := Nat.lt_of_lt_of_le hs hb.size
        have HC1 : Hid (Clos w1 w1.heap.size mb 13 (.func (.func 48) #[] #[.pointer (some ⟨pb, 0, none⟩)]) (.func (.func 49) #[] #[.pointer (some ⟨pb, 0, none⟩)])) := Lib.hid (.inl ⟨pb, by omega, lt, rfl, rfl, pt⟩)
        clear ge lt pt hb HO HRF HP HB hs
        obtain ⟨w2, hw2⟩ : ∃ y, y = w1.alloc (.cells #[.func (.func 48) #[] #[.pointer (some ⟨pb, 0, none⟩)], .func (.func 49) #[] #[.pointer (some ⟨pb, 0, none⟩)], .int .i64 0, .int .i64 1073741824] 82) := ⟨_, rfl⟩
        have hal : Below w1.heap.size w1 w2 := by rw [hw2]; exact (Below.refl _ _).alloc (Nat.le_refl _) _
        have HR2 : Hid (CellsIn w2 (w1.heap.size + 1) 4 (some ⟨w1.heap.size, 0, none⟩) 1 [.func (.func 48) #[] #[.pointer (some ⟨pb, 0, none⟩)], .func (.func 49) #[] #[.pointer (some ⟨pb, 0, none⟩)], .int .i64 0, .int .i64 1073741824]) := Lib.hid (by rw [hw2]; exact cellsIn_alloc w1 #[.func (.func 48) #[] #[.pointer (some ⟨pb, 0, none⟩)], .func (.func 49) #[] #[.pointer (some ⟨pb, 0, none⟩)], .int .i64 0, .int .i64 1073741824] _ _ 4 1 rfl)
        have HO2 := Lib.hid (HO1.out.kept (grown_of_below hal none) (by cases A <;> simp [Value.ownBlock]))
        have HF2 := Lib.hid (HF1.out.kept (fun k _ hk => hal.block k hk) hal.size)
        have HC2 := Lib.hid ((HC1.out.below hal (Nat.le_refl _)).more hal.size)
        have HP2 := Lib.hid ((hal.cell (p := ⟨S, 0, none⟩) hs1).trans HP1.out)
        have HB2 := Lib.hid (HB1.out.trans (hal.mono (by omega)))
        have hs2 : S < w2.heap.size := Nat.lt_of_lt_of_le hs1 hal.size
        clear HO1 HF1 HP1 HB1 HC1 hal
        go_wp2_with (first | (at_builtin; rw [← hw2]; refine wpList_append_row _ rfl (.tmp 83) (.tmp 90) _ rfl S 82 iF _ 4 32 Try.underlying76 hiF hz0 hz1 hz2 rfl (by omega) A 8 c xs rfl HO2.out _ _ 1 _ _ rfl HR2.out (by simp [Value.oneCell']) (by unfold maxLen; omega) (by omega) (by omega) (fun A2 c2 w3 hown hg hor => ?_)))
        have hx := HF2.out.first HO2.out (by rw [HLL.out]; simp)
        have hl3 : ∃ f, l[8]? = some f ∧ f.off = 13 ∧ f.lo = 0 ∧ f.hi = 1073741824 := by rw [HLL.out]; exact ⟨_, rfl, rfl, rfl, rfl⟩
        obtain ⟨f, hf, hfo, hf1, hf2⟩ := hl3
        have HF3 := Lib.hid ((HF2.out.grown hg hx).snoc f _ _ (by rw [hfo]; exact HC2.out.grown hg hx))
        rw [hf1, hf2, ← HTK.out f hf] at HF3
        have HP3 : Hid (w3.cell? ⟨S, 0, none⟩ = some (.pointer (some ⟨mb, 0, none⟩))) := Lib.hid (by
          have e : w3.heap[S]? = w2.heap[S]? := hg.block S hs2 (fun e => hx S e.symm _ HP2.out)
          have h0 := HP2.out
          simp only [World.cell?, e] at h0 ⊢
          exact h0)
        have HB3 := Lib.hid (HB2.out.trans ((Below.refl S w2).grown hg (by omega) (fun k hk => (HO2.out.lt k hk).1)))
        have hs3 : S < w3.heap.size := Nat.lt_of_lt_of_le hs2 hg.size
        have HO3 := Lib.hid hown
        clear hx hf hfo hf1 hf2 hown hg hor HO2 HF2 HP2 HB2 HC2 HR2 hw2
        go_wp2_with fail
        go_roundw
        case rel => exact ⟨2 + 1, A2, c2, _, by omega, by go_num, rfl, hs3, HO3, HF3, HP3, HB3⟩
        case measure => simp [intOf]

      · have c0 := HP.out
        go_wp2_with fail
        clear c0
        refine (at_any mb 14 0 1073741824 wr).mono ?_
        rintro e w1 ⟨pb, rfl, ge, lt, pt, hb⟩
        have HO1 := Lib.hid (HO.out.kept (grown_of_below hb none) (by cases A <;> simp [Value.ownBlock]))
        have HF1 := Lib.hid (HRF.out.kept (fun k _ hk => hb.block k hk) hb.size)
        have HP1 := Lib.hid ((hb.cell (p := ⟨S, 0, none⟩) hs).trans HP.out)
        have HB1 := Lib.hid (HB.out.trans (hb.mono (by omega)))
        have hs1 : S < w1.heap.size := Nat.lt_of_lt_of_le hs hb.size
        have HC1 : Hid (Clos w1 w1.heap.size mb 14 (.func (.func 48) #[] #[.pointer (some ⟨pb, 0, none⟩)]) (.func (.func 49) #[] #[.pointer (some ⟨pb, 0, none⟩)])) := Lib.hid (.inl ⟨pb, by omega, lt, rfl, rfl, pt⟩)
        clear ge lt pt hb HO HRF HP HB hs
        obtain ⟨w2, hw2⟩ : ∃ y, y = w1.alloc (.cells #[.func (.func 48) #[] #[.pointer (some ⟨pb, 0, none⟩)], .func (.func 49) #[] #[.pointer (some ⟨pb, 0, none⟩)], .int .i64 0, .int .i64 1073741824] 82) := ⟨_, rfl⟩
        have hal : Below w1.heap.size w1 w2 := by rw [hw2]; exact (Below.refl _ _).alloc (Nat.le_refl _) _
        have HR2 : Hid (CellsIn w2 (w1.heap.size + 1) 4 (some ⟨w1.heap.size, 0, none⟩) 1 [.func (.func 48) #[] #[.pointer (some ⟨pb, 0, none⟩)], .func (.func 49) #[] #[.pointer (some ⟨pb, 0, none⟩)], .int .i64 0, .int .i64 1073741824]) := Lib.hid (by rw [hw2]; exact cellsIn_alloc w1 #[.func (.func 48) #[] #[.pointer (some ⟨pb, 0, none⟩)], .func (.func 49) #[] #[.pointer (some ⟨pb, 0, none⟩)], .int .i64 0, .int .i64 1073741824] _ _ 4 1 rfl)
        have HO2 := Lib.hid (HO1.out.kept (grown_of_below hal none) (by cases A <;> simp [Value.ownBlock]))
        have HF2 := Lib.hid (HF1.out.kept (fun k _ hk => hal.block k hk) hal.size)
        have HC2 := Lib.hid ((HC1.out.below hal (Nat.le_refl _)).more hal.size)
        have HP2 := Lib.hid ((hal.cell (p := ⟨S, 0, none⟩) hs1).trans HP1.out)
        have HB2 := Lib.hid (HB1.out.trans (hal.mono (by omega)))
        have hs2 : S < w2.heap.size := Nat.lt_of_lt_of_le hs1 hal.size
        clear HO1 HF1 HP1 HB1 HC1 hal
        go_wp2_with (first | (at_builtin; rw [← hw2]; refine wpList_append_row _ rfl (.tmp 83) (.tmp 90) _ rfl S 82 iF _ 4 32 Try.underlying76 hiF hz0 hz1 hz2 rfl (by omega) A 9 c xs rfl HO2.out _ _ 1 _ _ rfl HR2.out (by simp [Value.oneCell']) (by unfold maxLen; omega) (by omega) (by omega) (fun A2 c2 w3 hown hg hor => ?_)))
        have hx := HF2.out.first HO2.out (by rw [HLL.out]; simp)
        have hl3 : ∃ f, l[9]? = some f ∧ f.off = 14 ∧ f.lo = 0 ∧ f.hi = 1073741824 := by rw [HLL.out]; exact ⟨_, rfl, rfl, rfl, rfl⟩
        obtain ⟨f, hf, hfo, hf1, hf2⟩ := hl3
        have HF3 := Lib.hid ((HF2.out.grown hg hx).snoc f _ _ (by rw [hfo]; exact HC2.out.grown hg hx))
        rw [hf1, hf2, ← HTK.out f hf] at HF3
        have HP3 : Hid (w3.cell? ⟨S, 0, none⟩ = some (.pointer (some ⟨mb, 0, none⟩))) := Lib.hid (by
          have e : w3.heap[S]? = w2.heap[S]? := hg.block S hs2 (fun e => hx S e.symm _ HP2.out)
          have h0 := HP2.out
          simp only [World.cell?, e] at h0 ⊢
          exact h0)
        have HB3 := Lib.hid (HB2.out.trans ((Below.refl S w2).grown hg (by omega) (fun k hk => (HO2.out.lt k hk).1)))
        have hs3 : S < w3.heap.size := Nat.lt_of_lt_of_le hs2 hg.size
        have HO3 := Lib.hid hown
        clear hx hf hfo hf1 hf2 hown hg hor HO2 HF2 HP2 HB2 HC2 HR2 hw2
        go_wp2_with fail
        go_roundw
        case rel => exact ⟨3 + 1, A2, c2, _, by omega, by go_num, rfl, hs3, HO3, HF3, HP3, HB3⟩
        case measure => simp [intOf]

    · have hj : j = 4 := by omega
      subst hj
      have hF := HRF.out.fields HO.out (by omega) (by rw [HLL.out]; simp)
      rw [show l.take (6 + 4) = l from List.take_of_length_le (by rw [HLN.out]; decide)] at hF
      have HF := Lib.hid hF
      clear hF HO HRF
      go_wp2_with fail
      refine bodyPost_ret (v := .tuple #[.slice A 10 c, .bool true]) (by simp [results, Try.results35, go_sem]) rfl ?_
      exact ⟨_, _, rfl, HLL.out ▸ HF.out, by rw [HSW.out]; exact HB.out⟩

end Go.Proofs.Ytoeamofemepgpaa
