/- A message as a value; the closures of a field; at. -/
import Derived.Test.YtoeamofemepgpaaBase
import Derived.Laws.EntriesVeiled
import Derived.WideLaws
namespace Go.Proofs.Ytoeamofemepgpaa
open Go.RowKit

theorem keepA {w : World} {o : Obj} {p : Addr} {v : Value} (h : w.cell? p = some v) : (w.alloc o).cell? p = some v := ((Chg.refl (fun _ => False) w).alloc o).cell h (fun h => h)
theorem cellb {w : World} {b i : Nat} {cs : Array Value} {t : TypeId} {f : Nat × Nat} {v : Value} (h : w.heap[b]? = some (.cells cs t f)) (hv : cs[i]? = some v) : w.cell? ⟨b, i, none⟩ = some v := by simp [World.cell?, h, hv]
theorem fzb {w : World} {b : Nat} {cs : Array Value} {t : TypeId} (h : w.heap[b]? = some (.cells cs t (0, 0))) (i : Nat) : w.frozen? ⟨b, i, none⟩ = false := by simp [World.frozen?, h]
theorem ltb {w : World} {b : Nat} {o : Obj} (h : w.heap[b]? = some o) : b < w.heap.size := (Array.getElem?_eq_some_iff.1 h).1

theorem get1 (pb mb off : Nat) (x : Int) (w : World) (h1 : w.cell? ⟨pb, 0, none⟩ = some (.pointer (some ⟨mb, off, none⟩))) (h2 : w.cell? ⟨mb, off, none⟩ = some (.int .i64 x)) :
    Calls Try.prog 48 #[.pointer (some ⟨pb, 0, none⟩)] w fun e w' => e = .returned (.int .i64 x) ∧ w = w' := by
  go_enter Try.func48, Try.ntmps48
  go_wp2_with fail
  go_ret
  exact ⟨rfl, rfl⟩
theorem set1 (pb mb off : Nat) (x n : Int) (w : World) (h1 : w.cell? ⟨pb, 0, none⟩ = some (.pointer (some ⟨mb, off, none⟩))) (h2 : w.cell? ⟨mb, off, none⟩ = some (.int .i64 x)) (hf : w.frozen? ⟨mb, off, none⟩ = false) :
    Calls Try.prog 49 #[.int .i64 n, .pointer (some ⟨pb, 0, none⟩)] w fun e w' => e = .returned (.tuple #[]) ∧ w.setCell ⟨mb, off, none⟩ (.int .i64 n) = w' := by
  go_enter Try.func49, Try.ntmps49
  go_wp2_with fail
  go_end0
  exact ⟨rfl, rfl⟩
theorem get2 (pb mb : Nat) (x : Int) (w : World) (h1 : w.cell? ⟨pb, 0, none⟩ = some (.pointer (some ⟨mb, 0, none⟩))) (h2 : w.cell? ⟨mb, 18, none⟩ = some (.int .i64 x)) :
    Calls Try.prog 45 #[.pointer (some ⟨pb, 0, none⟩)] w fun e w' => e = .returned (.int .i64 x) ∧ w = w' := by
  go_enter Try.func45, Try.ntmps45
  go_wp2_with fail
  go_ret
  exact ⟨rfl, rfl⟩
theorem set2 (pb mb : Nat) (x n : Int) (w : World) (h1 : w.cell? ⟨pb, 0, none⟩ = some (.pointer (some ⟨mb, 0, none⟩))) (h2 : w.cell? ⟨mb, 18, none⟩ = some (.int .i64 x)) (hf : w.frozen? ⟨mb, 18, none⟩ = false) :
    Calls Try.prog 46 #[.int .i64 n, .pointer (some ⟨pb, 0, none⟩)] w fun e w' => e = .returned (.tuple #[]) ∧ w.setCell ⟨mb, 18, none⟩ (.int .i64 n) = w' := by
  go_enter Try.func46, Try.ntmps46
  go_wp2_with fail
  go_end0
  exact ⟨rfl, rfl⟩

/-- A number of a message: where it stands, and what it may be. -/
structure FD where
  off : Nat
  lo : Int
  hi : Int
/-- A field's closures, ahead of block B: they speak of the message in block mb. -/
def Clos (w : World) (B mb off : Nat) (g s : Value) : Prop :=
  (∃ pb, mb < pb ∧ pb < B ∧ g = .func (.func 48) #[] #[.pointer (some ⟨pb, 0, none⟩)] ∧ s = .func (.func 49) #[] #[.pointer (some ⟨pb, 0, none⟩)] ∧ w.cell? ⟨pb, 0, none⟩ = some (.pointer (some ⟨mb, off, none⟩))) ∨
  (off = 18 ∧ ∃ pb, mb < pb ∧ pb < B ∧ g = .func (.func 45) #[] #[.pointer (some ⟨pb, 0, none⟩)] ∧ s = .func (.func 46) #[] #[.pointer (some ⟨pb, 0, none⟩)] ∧ w.cell? ⟨pb, 0, none⟩ = some (.pointer (some ⟨mb, 0, none⟩)))
/-- Nothing of the fields' has changed: only the message may have. -/
theorem Clos.kept {w w' : World} {B mb off : Nat} {g s : Value} (h : Clos w B mb off g s) {B' : Nat} (hk : ∀ k, mb < k → k < B' → w'.heap[k]? = w.heap[k]?) (hB : B ≤ B') : Clos w' B mb off g s := by
  have q : ∀ pb v, mb < pb → pb < B → w.cell? ⟨pb, 0, none⟩ = some v → w'.cell? ⟨pb, 0, none⟩ = some v := fun pb v h1 h2 hv => by
    have e : w'.cell? ⟨pb, 0, none⟩ = w.cell? ⟨pb, 0, none⟩ := by simp [World.cell?, hk pb h1 (by omega)]
    rw [e]; exact hv
  rcases h with ⟨pb, h0, h1, h2, h3, h4⟩ | ⟨e, pb, h0, h1, h2, h3, h4⟩
  · exact .inl ⟨pb, h0, h1, h2, h3, q _ _ h0 h1 h4⟩
  · exact .inr ⟨e, pb, h0, h1, h2, h3, q _ _ h0 h1 h4⟩
theorem Clos.below {w w' : World} {B mb off : Nat} {g s : Value} (h : Clos w B mb off g s) {B' : Nat} (hb : Below B' w w') (hB : B ≤ B') : Clos w' B mb off g s :=
  h.kept (fun k _ hk => hb.block k hk) hB
theorem Clos.more {w : World} {B B' mb off : Nat} {g s : Value} (h : Clos w B mb off g s) (hB : B ≤ B') : Clos w B' mb off g s := by
  rcases h with ⟨pb, h0, h1, h⟩ | ⟨e, pb, h0, h1, h⟩
  · exact .inl ⟨pb, h0, by omega, h⟩
  · exact .inr ⟨e, pb, h0, by omega, h⟩

/-- A field is made. -/
theorem at_any (mb off : Nat) (lo hi : Int) (w : World) :
    Calls Try.prog 43 #[.pointer (some ⟨mb, off, none⟩), .int .i64 lo, .int .i64 hi] w fun e w' => ∃ pb, e = .returned (.agg #[.func (.func 48) #[] #[.pointer (some ⟨pb, 0, none⟩)], .func (.func 49) #[] #[.pointer (some ⟨pb, 0, none⟩)], .int .i64 lo, .int .i64 hi]) ∧ w.heap.size ≤ pb ∧ pb < w'.heap.size ∧ w'.cell? ⟨pb, 0, none⟩ = some (.pointer (some ⟨mb, off, none⟩)) ∧ Below w.heap.size w w' := by
  have hb : Below w.heap.size w ((w.alloc (.cells #[.pointer (some ⟨mb, off, none⟩)] 90)).alloc (.cells #[.func (.func 48) #[] #[.pointer (some ⟨w.heap.size, 0, none⟩)], .func (.func 49) #[] #[.pointer (some ⟨w.heap.size, 0, none⟩)], .int .i64 lo, .int .i64 hi] 82)) := ((Below.refl w.heap.size w).alloc (Nat.le_refl _) _).alloc (by simp) _
  have hk : ((w.alloc (.cells #[.pointer (some ⟨mb, off, none⟩)] 90)).alloc (.cells #[.func (.func 48) #[] #[.pointer (some ⟨w.heap.size, 0, none⟩)], .func (.func 49) #[] #[.pointer (some ⟨w.heap.size, 0, none⟩)], .int .i64 lo, .int .i64 hi] 82)).cell? ⟨w.heap.size, 0, none⟩ = some (.pointer (some ⟨mb, off, none⟩)) := keepA (cell_of_one (heap_alloc_new w _))
  have HB := Lib.hid hb
  have HK := Lib.hid hk
  clear hb hk
  go_enter Try.func43, Try.ntmps43
  go_wp2_with fail
  refine bodyPost_ret (v := .agg #[.func (.func 48) #[] #[.pointer (some ⟨w.heap.size, 0, none⟩)], .func (.func 49) #[] #[.pointer (some ⟨w.heap.size, 0, none⟩)], .int .i64 lo, .int .i64 hi]) (by simp [results, Try.results43, go_sem]) rfl ?_
  exact ⟨_, rfl, Nat.le_refl _, by simp; omega, HK.out, HB.out⟩
/-- A variable that holds a field. -/
structure VarAt (w : World) (b pb mb off : Nat) (lo hi : Int) : Prop where
  blk : w.heap[b]? = some (.cells #[.func (.func 48) #[] #[.pointer (some ⟨pb, 0, none⟩)], .func (.func 49) #[] #[.pointer (some ⟨pb, 0, none⟩)], .int .i64 lo, .int .i64 hi] 82 (0, 0))
  gt : mb < pb
  lt : pb < w.heap.size
  ptr : w.cell? ⟨pb, 0, none⟩ = some (.pointer (some ⟨mb, off, none⟩))
theorem VarAt.below {w w' : World} {b pb mb off : Nat} {lo hi : Int} (h : VarAt w b pb mb off lo hi) (hb : Below w.heap.size w w') : VarAt w' b pb mb off lo hi :=
  ⟨(hb.block b (ltb h.blk)).trans h.blk, h.gt, by have := hb.size; have := h.lt; omega, (hb.cell (p := ⟨pb, 0, none⟩) h.lt).trans h.ptr⟩
/-- A row of fields that speak of the message in block mb. -/
def FieldsIn (w : World) (B mb : Nat) (A : Option Addr) (l : List FD) : Prop :=
  l = [] ∨ ∃ sb, A = some ⟨sb, 0, none⟩ ∧ mb < sb ∧ sb < B ∧ ∀ i f, l[i]? = some f → ∃ g s, Clos w B mb f.off g s ∧ w.cell? ⟨sb, i * 4, none⟩ = some g ∧ w.cell? ⟨sb, i * 4 + 1, none⟩ = some s ∧ w.cell? ⟨sb, i * 4 + 2, none⟩ = some (.int .i64 f.lo) ∧ w.cell? ⟨sb, i * 4 + 3, none⟩ = some (.int .i64 f.hi)
theorem FieldsIn.kept {w w' : World} {B B' mb : Nat} {A : Option Addr} {l : List FD} (h : FieldsIn w B mb A l) (hk : ∀ k, mb < k → k < B' → w'.heap[k]? = w.heap[k]?) (hB : B ≤ B') : FieldsIn w' B mb A l := by
  rcases h with e | ⟨sb, e, h0, h1, h⟩
  · exact .inl e
  · have k : ∀ i v, w.cell? ⟨sb, i, none⟩ = some v → w'.cell? ⟨sb, i, none⟩ = some v := fun i v hv => by
      have e : w'.cell? ⟨sb, i, none⟩ = w.cell? ⟨sb, i, none⟩ := by simp [World.cell?, hk sb h0 (by omega)]
      rw [e]; exact hv
    refine .inr ⟨sb, e, h0, h1, fun i f hf => ?_⟩
    obtain ⟨g, s, c0, c1, c2, c3, c4⟩ := h i f hf
    exact ⟨g, s, c0.kept hk hB, k _ _ c1, k _ _ c2, k _ _ c3, k _ _ c4⟩
theorem FieldsIn.below {w w' : World} {B B' mb : Nat} {A : Option Addr} {l : List FD} (h : FieldsIn w B mb A l) (hb : Below B' w w') (hB : B ≤ B') : FieldsIn w' B mb A l :=
  h.kept (fun k _ hk => hb.block k hk) hB
theorem FieldsIn.set {w : World} {B mb o : Nat} {A : Option Addr} {l : List FD} (h : FieldsIn w B mb A l) (u : Value) : FieldsIn (w.setCell ⟨mb, o, none⟩ u) B mb A l :=
  h.kept (fun k hk _ => Below.heap_setCell w ⟨mb, o, none⟩ u k (by show k ≠ mb; omega)) (Nat.le_refl _)
theorem all_any (A : Option Addr) (n c : Nat) (w : World) : Calls Try.prog 44 #[.slice A n c] w fun e w' => e = .returned (.slice A n c) ∧ w = w' := by
  go_enter Try.func44, Try.ntmps44
  go_wp2_with fail
  go_ret
  exact ⟨rfl, rfl⟩

/-- A message in a box of its own. -/
def MAt (w : World) (mb : Nat) (v : Nat → Int) (A : Option Addr) (n c : Nat) : Prop := w.heap[mb]? = some (.cells #[.int .i64 (v 0), .int .i64 (v 1), .int .i64 (v 2), .int .i64 (v 3), .int .i64 (v 4), .int .i64 (v 5), .int .i64 (v 6), .int .i64 (v 7), .int .i64 (v 8), .int .i64 (v 9), .int .i64 (v 10), .int .i64 (v 11), .int .i64 (v 12), .int .i64 (v 13), .int .i64 (v 14), .int .i64 (v 15), .int .i64 (v 16), .slice A n c, .int .i64 (v 18), .int .i64 (v 19), .int .i64 (v 20)] 35 (0, 0))
def set0 (v : Nat → Int) (o : Nat) : Nat → Int := fun i => if i = o then 0 else v i
theorem MAt.cell {w : World} {mb n c : Nat} {v : Nat → Int} {A : Option Addr} (h : MAt w mb v A n c) {o : Nat} (ho : o ≤ 20) (h17 : o ≠ 17) : w.cell? ⟨mb, o, none⟩ = some (.int .i64 (v o)) := by
  have ho : o = 0 ∨ o = 1 ∨ o = 2 ∨ o = 3 ∨ o = 4 ∨ o = 5 ∨ o = 6 ∨ o = 7 ∨ o = 8 ∨ o = 9 ∨ o = 10 ∨ o = 11 ∨ o = 12 ∨ o = 13 ∨ o = 14 ∨ o = 15 ∨ o = 16 ∨ o = 18 ∨ o = 19 ∨ o = 20 := by omega
  rcases ho with rfl | rfl | rfl | rfl | rfl | rfl | rfl | rfl | rfl | rfl | rfl | rfl | rfl | rfl | rfl | rfl | rfl | rfl | rfl | rfl <;> exact cellb h rfl
theorem MAt.fz {w : World} {mb n c : Nat} {v : Nat → Int} {A : Option Addr} (h : MAt w mb v A n c) (o : Nat) : w.frozen? ⟨mb, o, none⟩ = false := fzb h o
set_option maxHeartbeats 1000000 in
theorem MAt.set {w : World} {mb n c : Nat} {v : Nat → Int} {A : Option Addr} (h : MAt w mb v A n c) {o : Nat} (ho : o ≤ 20) (h17 : o ≠ 17) (h0 : o ≠ 0) : MAt (w.setCell ⟨mb, o, none⟩ (.int .i64 0)) mb (set0 v o) A n c := by
  have ho : o = 1 ∨ o = 2 ∨ o = 3 ∨ o = 4 ∨ o = 5 ∨ o = 6 ∨ o = 7 ∨ o = 8 ∨ o = 9 ∨ o = 10 ∨ o = 11 ∨ o = 12 ∨ o = 13 ∨ o = 14 ∨ o = 15 ∨ o = 16 ∨ o = 18 ∨ o = 19 ∨ o = 20 := by omega
  unfold MAt at h ⊢
  rcases ho with rfl | rfl | rfl | rfl | rfl | rfl | rfl | rfl | rfl | rfl | rfl | rfl | rfl | rfl | rfl | rfl | rfl | rfl | rfl <;> simp [World.setCell, Array.getElem?_modify, h, set0]
theorem MAt.below {w w' : World} {mb n c B : Nat} {v : Nat → Int} {A : Option Addr} (h : MAt w mb v A n c) (hb : Below B w w') (hm : mb < B) : MAt w' mb v A n c := (hb.block mb hm).trans h
end Go.Proofs.Ytoeamofemepgpaa
