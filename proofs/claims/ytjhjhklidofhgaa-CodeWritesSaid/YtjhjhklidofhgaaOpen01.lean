/- What comes in: texts, rows of numbers, words. -/
import Derived.Test.YtjhjhklidofhgaaRdL
import Derived.Deep.Slices
import Derived.Deep.Strs
import Derived.ChangeSlices
import Derived.ChangeArms
import Derived.OpenShut
namespace Go.Proofs.Ytjhjhklidofhgaa
open Go.RowKit Go.Deep

theorem str_of (s : ByteArray) : ∃ l, s = str l := ⟨s.data.toList, by cases s; simp [str]⟩

/-- A slice of numbers that came in. -/
theorem ints_open {w : World} {x : Addr} {len cap : Nat} {zs : List Int} (hl : len ≤ cap) (hz : zs.length = cap) (hcell : ∀ i, i < zs.length → w.cell? (x.add i) = some (.int .i64 (zs.getD i 0)))
    (hwf : ∀ n ∈ zs, (Lit.int .i64 n).wf = true) : ∃ xs : List Int, len = xs.length ∧ CellsIn w w.heap.size 1 (some x) len (cellsI xs) ∧ ∀ n ∈ xs, inI64 n := by
  refine ⟨zs.take len, by simp; omega, ⟨by rw [cellsI_len]; simp; omega, ?_⟩, fun n hn => bounds_i64 (hwf n (List.mem_of_mem_take hn))⟩
  by_cases h0 : len = 0
  · left; simp [h0, cellsI]
  · right
    have hx0 := hcell 0 (by omega)
    have hadd : x.add 0 = x := by unfold Addr.add; simp
    rw [hadd] at hx0
    have hs : x.spot = none := by
      unfold World.cell? at hx0
      cases hsp : x.spot with
      | none => rfl
      | some s => simp [hsp] at hx0; split at hx0 <;> simp at hx0
    obtain ⟨b, off, spot⟩ := x
    simp only at hs
    subst hs
    refine ⟨b, off, rfl, World.block_lt_of_cell? w _ hx0, fun j u hu => ?_⟩
    have hj : j < (zs.take len).length := by have := (List.getElem?_eq_some_iff.1 hu).1; rwa [cellsI_len] at this
    have hj' : j < zs.length := by simp at hj; omega
    have hjl : j < len := by rw [List.length_take] at hj; omega
    have h1 := hcell j hj'
    rw [Addr.add_lit] at h1
    rw [h1, ← hu]
    unfold cellsI
    simp [hj', List.getD, hjl]

/-- Things put one behind the other. -/
structure Wd where
  N : Nat
  I : Int
  s : List UInt8
  A : Option Addr
  c : Nat
  xs : List Int
structure WdOk (w : World) (B : Nat) (d : Wd) : Prop where
  n : d.N < 18446744073709551616
  i : inI64 d.I
  s : d.s.length ≤ 9223372036854775807
  m : d.xs.length ≤ 9223372036854775807
  r : CellsIn w B 1 d.A d.xs.length (cellsI d.xs)
  x : ∀ n ∈ d.xs, inI64 n
theorem wd_fields {H : Type} {enc : TypeId × Value → H} {w : World} {base fuel : Nat} {held : Bool} {v0 v1 v2 v3 : Value} {y0 y1 y2 y3 : DataW H × List MemPlace}
    (t0 : DataW.trod enc Try.prog w base (fun _ => true) held fuel 26 [v0] = some y0) (t1 : DataW.trod enc Try.prog w base (fun _ => true) held fuel 3 [v1] = some y1) (t2 : DataW.trod enc Try.prog w base (fun _ => true) held fuel 9 [v2] = some y2) (t3 : DataW.trod enc Try.prog w base (fun _ => true) held fuel 34 [v3] = some y3) :
    ∃ d : Wd, v0 = .int .u64 (d.N : Int) ∧ v1 = .int .i64 d.I ∧ v2 = .string (str d.s) ∧ v3 = .slice d.A d.xs.length d.c ∧ WdOk w w.heap.size d := by
  obtain ⟨n, e0, _, wf0⟩ := DataW.trod_int Try.underlying26 t0
  obtain ⟨i, e1, _, wf1⟩ := DataW.trod_int Try.underlying3 t1
  obtain ⟨s, e2, _, hs⟩ := DataW.trod_string Try.underlying9 t2
  obtain ⟨l, rfl⟩ := str_of s
  rw [str_size] at hs
  have b0 := bounds_u64 wf0
  have b1 := bounds_i64 wf1
  obtain ⟨N, rfl⟩ := Int.eq_ofNat_of_zero_le b0.1
  rcases Go.ChangeShapes.open_ints Try.underlying34 Try.underlying3 (by kernel_rfl) t3 with ⟨hcs, _⟩ | ⟨x, len, c, zs, hcs, _, hl, hm, hz, _, hcell, hwz⟩
  · exact ⟨⟨N, i, l, none, 0, []⟩, List.head_eq_of_cons_eq e0, List.head_eq_of_cons_eq e1, List.head_eq_of_cons_eq e2, List.head_eq_of_cons_eq hcs, by simp only; omega, b1, by unfold maxLen at hs; exact hs, by simp, ⟨rfl, .inl rfl⟩, by simp⟩
  · obtain ⟨xs, h1, h2, h3⟩ := ints_open hl (by simpa using hz) hcell hwz
    refine ⟨⟨N, i, l, some x, c, xs⟩, List.head_eq_of_cons_eq e0, List.head_eq_of_cons_eq e1, List.head_eq_of_cons_eq e2, ?_, by simp only; omega, b1, by unfold maxLen at hs; exact hs, by unfold maxLen at hm; simp only; omega, ?_, h3⟩
    · simp only; rw [← h1]; exact List.head_eq_of_cons_eq hcs
    · simp only; rw [← h1]; exact h2
theorem WdOk.below {w w' : World} {B : Nat} {d : Wd} (h : WdOk w B d) (hb : Below B w w') : WdOk w' B d := by
  refine ⟨h.n, h.i, h.s, h.m, ⟨h.r.len, ?_⟩, h.x⟩
  rcases h.r.rd with e | ⟨b, off, e, hb', hc⟩
  · exact .inl e
  · exact .inr ⟨b, off, e, hb', fun j u hu => (hb.cell (p := ⟨b, off + j, none⟩) (by show b < B; omega)).trans (hc j u hu)⟩

/-- The words lie in four cells. -/
structure WdAt (w : World) (B bb off : Nat) (d : Wd) : Prop where
  k0 : w.cell? ⟨bb, off, none⟩ = some (.int .u64 (d.N : Int))
  k1 : w.cell? ⟨bb, off + 1, none⟩ = some (.int .i64 d.I)
  k2 : w.cell? ⟨bb, off + 2, none⟩ = some (.string (str d.s))
  k3 : w.cell? ⟨bb, off + 3, none⟩ = some (.slice d.A d.xs.length d.c)
  ok : WdOk w B d
  lt : bb < B
theorem WdAt.below {w w' : World} {B bb off : Nat} {d : Wd} (h : WdAt w B bb off d) (hb : Below B w w') : WdAt w' B bb off d := by
  have k : ∀ i v, w.cell? ⟨bb, i, none⟩ = some v → w'.cell? ⟨bb, i, none⟩ = some v := fun i v hv => (hb.cell (p := ⟨bb, i, none⟩) h.lt).trans hv
  exact ⟨k _ _ h.k0, k _ _ h.k1, k _ _ h.k2, k _ _ h.k3, h.ok.below hb, h.lt⟩
def WdsIn (w : World) (B : Nat) (A : Option Addr) (ds : List Wd) : Prop :=
  ds = [] ∨ ∃ bb off, A = some ⟨bb, off, none⟩ ∧ ∀ i d, ds[i]? = some d → WdAt w B bb (off + i * 4) d
theorem WdsIn.at_ {w : World} {B : Nat} {A : Option Addr} {ds : List Wd} (h : WdsIn w B A ds) {i : Nat} (hi : i < ds.length) : ∃ bb off, A = some ⟨bb, off, none⟩ ∧ WdAt w B bb (off + i * 4) ds[i] := by
  rcases h with e | ⟨bb, off, e, h⟩
  · subst e; simp at hi
  · exact ⟨bb, off, e, h i _ (List.getElem?_eq_getElem hi)⟩
theorem WdsIn.below {w w' : World} {B : Nat} {A : Option Addr} {ds : List Wd} (h : WdsIn w B A ds) (hb : Below B w w') : WdsIn w' B A ds := by
  rcases h with e | ⟨bb, off, e, h⟩
  · exact .inl e
  · exact .inr ⟨bb, off, e, fun i d hi => (h i d hi).below hb⟩

theorem add_add3 (a : Addr) (i j : Nat) : (a.add i).add j = a.add (i + j) := by
  unfold Addr.add
  by_cases h1 : i = 0 <;> by_cases h2 : j = 0 <;> simp [h1, h2, Nat.add_assoc]
theorem wds_list {w : World} {b off : Nat} : ∀ n, (∀ i, i < n → ∃ d : Wd, WdAt w w.heap.size b (off + i * 4) d) → ∃ ds : List Wd, n = ds.length ∧ ∀ i d, ds[i]? = some d → WdAt w w.heap.size b (off + i * 4) d := by
  intro n
  induction n with
  | zero => intro _; exact ⟨[], rfl, fun i a hi => by simp at hi⟩
  | succ n ih =>
    intro hn
    obtain ⟨ds, hl, hgs⟩ := ih (fun i hi => hn i (by omega))
    obtain ⟨a, ha⟩ := hn n (by omega)
    refine ⟨ds ++ [a], by simp [hl], fun i a' hi => ?_⟩
    by_cases e : i < ds.length
    · rw [List.getElem?_append_left e] at hi
      exact hgs i a' hi
    · have e : i = ds.length := by
        have := (List.getElem?_eq_some_iff.1 hi).1
        simp at this; omega
      subst e
      simp at hi
      subst hi
      rw [← hl]
      exact ha
set_option maxHeartbeats 1000000 in
theorem wds_trod {H : Type} {enc : TypeId × Value → H} {w : World} {base fuel : Nat} {held : Bool} {cs : List Value} {x : DataW H × List MemPlace}
    (h : DataW.trod enc Try.prog w base (fun _ => true) held fuel 56 cs = some x) : cs = [.slice none 0 0] ∨ ∃ a len cap ds, cs = [.slice (some a) len cap] ∧ len = ds.length ∧ len ≤ cap ∧ cap ≤ 9223372036854775807 ∧ WdsIn w w.heap.size (some a) ds := by
  have c3 : Try.prog.cellsOf 3 = 1 := by kernel_rfl
  have c9 : Try.prog.cellsOf 9 = 1 := by kernel_rfl
  have cu : Try.prog.cellsOf 26 = 1 := by kernel_rfl
  have ci : Try.prog.cellsOf 34 = 1 := by kernel_rfl
  rcases open_slice Try.underlying56 h with ⟨hcs, _⟩ | ⟨a, len, cap, m, n, D, Pl, hcs, _, hl, hm, hmm, _, hall⟩
  · exact .inl hcs
  right
  have hcc : Try.prog.cellsOf 36 = 4 := by kernel_rfl
  rw [hcc] at hall
  have hcap : cap ≤ 9223372036854775807 := by unfold maxLen at hm; omega
  by_cases h0 : len = 0
  · exact ⟨a, len, cap, [], hcs, h0, hl, hcap, .inl rfl⟩
  have key : ∀ i, i < len → ∃ d : Wd, (∃ v, w.cell? (a.add (i * 4)) = some v) ∧ ∀ bb off, a = ⟨bb, off, none⟩ → WdAt w w.heap.size bb (off + i * 4) d := by
    intro i hi
    obtain ⟨cs', g1, g2⟩ := hall i (by rw [hmm]; split <;> omega)
    obtain ⟨_, hlen, hcell⟩ := World.cells?_some g1
    match cs', hlen with
    | [v0, v1, v2, v3], _ =>
      obtain ⟨xs, k, hk, hxy, _, hxl, hf⟩ := DataW.trod_struct Try.underlying36 g2
      match xs, hxl with
      | [y0, y1, y2, y3], _ =>
        have f0 := hf 0 _ rfl
        have f1 := hf 1 _ rfl
        have f2 := hf 2 _ rfl
        have f3 := hf 3 _ rfl
        simp [c3, c9, cu, ci] at f0 f1 f2 f3
        obtain ⟨d, e0, e1, e2, e3, hok⟩ := wd_fields f0 f1 f2 f3
        subst e0 e1 e2 e3
        have q0 := hcell 0 (by omega)
        have q1 := hcell 1 (by omega)
        have q2 := hcell 2 (by omega)
        have q3 := hcell 3 (by omega)
        rw [add_add3] at q0 q1 q2 q3
        refine ⟨d, ⟨_, by simpa using q0⟩, ?_⟩
        rintro bb off rfl
        rw [Addr.add_lit] at q0 q1 q2 q3
        exact ⟨by simpa using q0, by simpa [Nat.add_assoc] using q1, by simpa [Nat.add_assoc] using q2, by simpa [Nat.add_assoc] using q3, hok, World.block_lt_of_cell? w _ q0⟩
  have hs : a.spot = none := by
    obtain ⟨_, ⟨v, hv⟩, _⟩ := key 0 (by omega)
    have hx0 : w.cell? a = some v := by simpa [Addr.add] using hv
    unfold World.cell? at hx0
    cases hsp : a.spot with
    | none => rfl
    | some s => simp [hsp] at hx0; split at hx0 <;> simp at hx0
  obtain ⟨b, off, spot⟩ := a
  simp only at hs
  subst hs
  obtain ⟨ds, hl2, hds⟩ := wds_list len (fun i hi => by
    obtain ⟨d, _, hd⟩ := key i hi
    exact ⟨d, hd b off rfl⟩)
  exact ⟨_, len, cap, ds, hcs, hl2, hl, hcap, .inr ⟨b, off, rfl, hds⟩⟩
end Go.Proofs.Ytjhjhklidofhgaa
