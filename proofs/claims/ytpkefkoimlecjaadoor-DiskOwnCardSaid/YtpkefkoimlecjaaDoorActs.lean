/- A script: a slice of acts that came in. -/
import Derived.Test.YtpkefkoimlecjaaDoorDisk
import Derived.Deep.Slices
import Derived.Deep.Strs
import Derived.ChangeSlices
import Derived.ChangeArms
namespace Go.Proofs.YtpkefkoimlecjaaDoor
open Go.RowKit Go.Deep

structure Ac where
  kind : Int
  near : Bool
  ep : Int
  at_ : Int
  ba : Option Addr
  bc : Nat
  b : List UInt8
  sum : Int
  o : Cl
  c : Cl
structure ActAt (w : World) (B bb off : Nat) (a : Ac) : Prop where
  k0 : w.cell? ⟨bb, off, none⟩ = some (.int .i64 a.kind)
  k1 : w.cell? ⟨bb, off + 1, none⟩ = some (.bool a.near)
  k2 : w.cell? ⟨bb, off + 2, none⟩ = some (.int .i64 a.ep)
  k3 : w.cell? ⟨bb, off + 3, none⟩ = some (.int .i64 a.at_)
  k4 : w.cell? ⟨bb, off + 4, none⟩ = some (.slice a.ba a.b.length a.bc)
  k5 : w.cell? ⟨bb, off + 5, none⟩ = some (.int .u32 a.sum)
  o0 : w.cell? ⟨bb, off + 6, none⟩ = some (.int .i64 a.o.e)
  o1 : w.cell? ⟨bb, off + 7, none⟩ = some (.int .i64 a.o.h)
  o2 : w.cell? ⟨bb, off + 8, none⟩ = some (.int .i64 a.o.u)
  c0 : w.cell? ⟨bb, off + 9, none⟩ = some (.int .i64 a.c.e)
  c1 : w.cell? ⟨bb, off + 10, none⟩ = some (.int .i64 a.c.h)
  c2 : w.cell? ⟨bb, off + 11, none⟩ = some (.int .i64 a.c.u)
  by_ : BytesIn w B a.ba a.bc a.b
  s0 : 0 ≤ a.sum
  s1 : a.sum < 4294967296
  lt : bb < B
theorem ActAt.below {w w' : World} {B bb off : Nat} {a : Ac} (h : ActAt w B bb off a) (hb : Below B w w') : ActAt w' B bb off a := by
  have k : ∀ i v, w.cell? ⟨bb, i, none⟩ = some v → w'.cell? ⟨bb, i, none⟩ = some v := fun i v hv => (hb.cell (p := ⟨bb, i, none⟩) h.lt).trans hv
  exact ⟨k _ _ h.k0, k _ _ h.k1, k _ _ h.k2, k _ _ h.k3, k _ _ h.k4, k _ _ h.k5, k _ _ h.o0, k _ _ h.o1, k _ _ h.o2, k _ _ h.c0, k _ _ h.c1, k _ _ h.c2, h.by_.below hb (Nat.le_refl _), h.s0, h.s1, h.lt⟩
def ActsIn (w : World) (B : Nat) (A : Option Addr) (gs : List Ac) : Prop :=
  gs = [] ∨ ∃ bb off, A = some ⟨bb, off, none⟩ ∧ ∀ i a, gs[i]? = some a → ActAt w B bb (off + i * 12) a
theorem ActsIn.at_ {w : World} {B : Nat} {A : Option Addr} {gs : List Ac} (h : ActsIn w B A gs) {i : Nat} (hi : i < gs.length) : ∃ bb off a, A = some ⟨bb, off, none⟩ ∧ gs[i]? = some a ∧ ActAt w B bb (off + i * 12) a := by
  rcases h with e | ⟨bb, off, e, h⟩
  · subst e; simp at hi
  · exact ⟨bb, off, gs[i], e, List.getElem?_eq_getElem hi, h i _ (List.getElem?_eq_getElem hi)⟩

theorem add_add3 (a : Addr) (i j : Nat) : (a.add i).add j = a.add (i + j) := by
  unfold Addr.add
  by_cases h1 : i = 0 <;> by_cases h2 : j = 0 <;> simp [h1, h2, Nat.add_assoc]

/-- A slice of bytes among the cells of what came in. -/
theorem bytes_trod {H : Type} {enc : TypeId × Value → H} {w : World} {base fuel : Nat} {held : Bool} {cs : List Value} {x : DataW H × List MemPlace}
    (h : DataW.trod enc Tryd.prog w base (fun _ => true) held fuel 22 cs = some x) : ∃ A c l, cs = [.slice A l.length c] ∧ BytesIn w w.heap.size A c l := by
  rcases Go.ChangeShapes.open_ints Tryd.underlying22 Tryd.underlying5 (by kernel_rfl) h with ⟨hcs, _⟩ | ⟨x, l, c, zs, hcs, _, hl, hm, hz, _, hcell, hwz⟩
  · exact ⟨none, 0, [], hcs, .emp (by omega)⟩
  · obtain ⟨L, hL, hb⟩ := bytesIn_open hl hm (by simpa using hz) hcell hwz
    exact ⟨_, _, L, by rw [← hL]; exact hcs, hb⟩

theorem claim_trod {H : Type} {enc : TypeId × Value → H} {w : World} {base fuel : Nat} {spare : Nat → Bool} {held : Bool} {v0 v1 v2 : Value} {x : DataW H × List MemPlace}
    (h : DataW.trod enc Tryd.prog w base spare held fuel 31 [v0, v1, v2] = some x) : ∃ c : Cl, v0 = .int .i64 c.e ∧ v1 = .int .i64 c.h ∧ v2 = .int .i64 c.u := by
  have c3 : Tryd.prog.cellsOf 3 = 1 := by kernel_rfl
  obtain ⟨y0, y1, y2, k, _, _, t0, t1, t2⟩ := trod_struct3 Tryd.underlying31 h
  simp [c3] at t0 t1 t2
  obtain ⟨p, e0, _, _⟩ := DataW.trod_int Tryd.underlying3 t0
  obtain ⟨q, e1, _, _⟩ := DataW.trod_int Tryd.underlying3 t1
  obtain ⟨r, e2, _, _⟩ := DataW.trod_int Tryd.underlying3 t2
  exact ⟨⟨p, q, r⟩, List.head_eq_of_cons_eq e0, List.head_eq_of_cons_eq e1, List.head_eq_of_cons_eq e2⟩

set_option maxHeartbeats 1000000 in
theorem act_trod {H : Type} {enc : TypeId × Value → H} {w : World} {base fuel : Nat} {held : Bool} {v0 v1 v2 v3 v4 v5 v6 v7 v8 v9 v10 v11 : Value} {x : DataW H × List MemPlace}
    (h : DataW.trod enc Tryd.prog w base (fun _ => true) held fuel 47 [v0, v1, v2, v3, v4, v5, v6, v7, v8, v9, v10, v11] = some x) :
    ∃ a : Ac, v0 = .int .i64 a.kind ∧ v1 = .bool a.near ∧ v2 = .int .i64 a.ep ∧ v3 = .int .i64 a.at_ ∧ v4 = .slice a.ba a.b.length a.bc ∧ v5 = .int .u32 a.sum ∧ v6 = .int .i64 a.o.e ∧ v7 = .int .i64 a.o.h ∧ v8 = .int .i64 a.o.u ∧ v9 = .int .i64 a.c.e ∧ v10 = .int .i64 a.c.h ∧ v11 = .int .i64 a.c.u ∧ BytesIn w w.heap.size a.ba a.bc a.b ∧ 0 ≤ a.sum ∧ a.sum < 4294967296 := by
  have c3 : Tryd.prog.cellsOf 3 = 1 := by kernel_rfl
  have c4 : Tryd.prog.cellsOf 4 = 1 := by kernel_rfl
  have cb : Tryd.prog.cellsOf 22 = 1 := by kernel_rfl
  have cu : Tryd.prog.cellsOf 36 = 1 := by kernel_rfl
  have cc : Tryd.prog.cellsOf 31 = 3 := by kernel_rfl
  obtain ⟨xs, k, hk, hxy, _, hxl, hf⟩ := DataW.trod_struct Tryd.underlying47 h
  match xs, hxl with
  | [y0, y1, y2, y3, y4, y5, y6, y7], _ =>
    have g0 := hf 0 _ rfl
    have g1 := hf 1 _ rfl
    have g2 := hf 2 _ rfl
    have g3 := hf 3 _ rfl
    have g4 := hf 4 _ rfl
    have g5 := hf 5 _ rfl
    have g6 := hf 6 _ rfl
    have g7 := hf 7 _ rfl
    simp [c3, c4, cb, cu, cc] at g0 g1 g2 g3 g4 g5 g6 g7
    obtain ⟨p0, e0, _, _⟩ := DataW.trod_int Tryd.underlying3 g0
    obtain ⟨p1, e1, _⟩ := DataW.trod_bool Tryd.underlying4 g1
    obtain ⟨p2, e2, _, _⟩ := DataW.trod_int Tryd.underlying3 g2
    obtain ⟨p3, e3, _, _⟩ := DataW.trod_int Tryd.underlying3 g3
    obtain ⟨A, c, l, e4, hb⟩ := bytes_trod g4
    obtain ⟨p5, e5, _, wf⟩ := DataW.trod_int Tryd.underlying36 g5
    obtain ⟨o, f6, f7, f8⟩ := claim_trod g6
    obtain ⟨c', f9, f10, f11⟩ := claim_trod g7
    have hw : 0 ≤ p5 ∧ p5 < 4294967296 := by
      simp [Lit.wf, IntKind.min, IntKind.max, IntKind.signed, IntKind.bits] at wf
      omega
    exact ⟨⟨p0, p1, p2, p3, A, c, l, p5, o, c'⟩, List.head_eq_of_cons_eq e0, List.head_eq_of_cons_eq e1, List.head_eq_of_cons_eq e2, List.head_eq_of_cons_eq e3, List.head_eq_of_cons_eq e4, List.head_eq_of_cons_eq e5, f6, f7, f8, f9, f10, f11, hb, hw.1, hw.2⟩

theorem acts_open {w : World} {x : Addr} {len : Nat} (h : ∀ i, i < len → ∃ a : Ac, ∀ bb off, x = ⟨bb, off, none⟩ → ActAt w w.heap.size bb (off + i * 12) a) (hs : 0 < len → ∃ v, w.cell? x = some v) :
    ∃ gs : List Ac, len = gs.length ∧ ActsIn w w.heap.size (some x) gs := by
  by_cases h0 : len = 0
  · exact ⟨[], h0, .inl rfl⟩
  obtain ⟨v, hx0⟩ := hs (by omega)
  have hs : x.spot = none := by
    unfold World.cell? at hx0
    cases hsp : x.spot with
    | none => rfl
    | some s => simp [hsp] at hx0; split at hx0 <;> simp at hx0
  obtain ⟨b, off, spot⟩ := x
  simp only at hs
  subst hs
  have hg : ∀ n, n ≤ len → ∃ gs : List Ac, n = gs.length ∧ ∀ i a, gs[i]? = some a → ActAt w w.heap.size b (off + i * 12) a := by
    intro n
    induction n with
    | zero => intro _; exact ⟨[], rfl, fun i a hi => by simp at hi⟩
    | succ n ih =>
      intro hn
      obtain ⟨gs, hl, hgs⟩ := ih (by omega)
      obtain ⟨a, ha⟩ := h n (by omega)
      refine ⟨gs ++ [a], by simp [hl], fun i a' hi => ?_⟩
      by_cases e : i < gs.length
      · rw [List.getElem?_append_left e] at hi
        exact hgs i a' hi
      · have e : i = gs.length := by
          have := (List.getElem?_eq_some_iff.1 hi).1
          simp at this; omega
        subst e
        simp at hi
        subst hi
        rw [← hl]
        exact ha b off rfl
  obtain ⟨gs, hl, hgs⟩ := hg len (Nat.le_refl _)
  exact ⟨gs, hl, .inr ⟨b, off, rfl, hgs⟩⟩

set_option maxHeartbeats 1000000 in
theorem acts_trod {H : Type} {enc : TypeId × Value → H} {w : World} {base fuel : Nat} {held : Bool} {cs : List Value} {x : DataW H × List MemPlace}
    (h : DataW.trod enc Tryd.prog w base (fun _ => true) held fuel 41 cs = some x) : cs = [.slice none 0 0] ∨ ∃ a len cap gs, cs = [.slice (some a) len cap] ∧ len = gs.length ∧ ActsIn w w.heap.size (some a) gs := by
  rcases open_slice Tryd.underlying41 h with ⟨hcs, _⟩ | ⟨a, len, cap, m, n, D, Pl, hcs, _, hl, hm, hmm, _, hall⟩
  · exact .inl hcs
  right
  have hcc : Tryd.prog.cellsOf 47 = 12 := by kernel_rfl
  rw [hcc] at hall
  have key : ∀ i, i < len → ∃ act : Ac, (∃ v, w.cell? (a.add (i * 12)) = some v) ∧ ∀ bb off, a = ⟨bb, off, none⟩ → ActAt w w.heap.size bb (off + i * 12) act := by
    intro i hi
    obtain ⟨cs', g1, g2⟩ := hall i (by rw [hmm]; split <;> omega)
    obtain ⟨_, hlen, hcell⟩ := World.cells?_some g1
    match cs', hlen with
    | [v0, v1, v2, v3, v4, v5, v6, v7, v8, v9, v10, v11], _ =>
      obtain ⟨act, f0, f1, f2, f3, f4, f5, f6, f7, f8, f9, f10, f11, hb, s0, s1⟩ := act_trod g2
      subst f0 f1 f2 f3 f4 f5 f6 f7 f8 f9 f10 f11
      have q0 := hcell 0 (by omega)
      have q1 := hcell 1 (by omega)
      have q2 := hcell 2 (by omega)
      have q3 := hcell 3 (by omega)
      have q4 := hcell 4 (by omega)
      have q5 := hcell 5 (by omega)
      have q6 := hcell 6 (by omega)
      have q7 := hcell 7 (by omega)
      have q8 := hcell 8 (by omega)
      have q9 := hcell 9 (by omega)
      have q10 := hcell 10 (by omega)
      have q11 := hcell 11 (by omega)
      rw [add_add3] at q0 q1 q2 q3 q4 q5 q6 q7 q8 q9 q10 q11
      refine ⟨act, ⟨_, by simpa using q0⟩, ?_⟩
      rintro bb off rfl
      rw [Addr.add_lit] at q0 q1 q2 q3 q4 q5 q6 q7 q8 q9 q10 q11
      exact ⟨by simpa using q0, by simpa [Nat.add_assoc] using q1, by simpa [Nat.add_assoc] using q2, by simpa [Nat.add_assoc] using q3, by simpa [Nat.add_assoc] using q4, by simpa [Nat.add_assoc] using q5, by simpa [Nat.add_assoc] using q6, by simpa [Nat.add_assoc] using q7, by simpa [Nat.add_assoc] using q8, by simpa [Nat.add_assoc] using q9, by simpa [Nat.add_assoc] using q10, by simpa [Nat.add_assoc] using q11, hb, s0, s1, World.block_lt_of_cell? w _ q0⟩
  obtain ⟨gs, h1, h2⟩ := acts_open (w := w) (x := a) (len := len) (fun i hi => by obtain ⟨act, _, h⟩ := key i hi; exact ⟨act, h⟩) (fun h0 => by
    obtain ⟨_, ⟨v, hv⟩, _⟩ := key 0 h0
    exact ⟨v, by simpa [Addr.add] using hv⟩)
  exact ⟨a, len, cap, gs, hcs, h1, h2⟩
end Go.Proofs.YtpkefkoimlecjaaDoor
