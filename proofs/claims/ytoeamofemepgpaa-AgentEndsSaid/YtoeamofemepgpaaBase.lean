/- Bytes in memory: a slice value that reads as a list of bytes. -/
import Derived.Test.YtoeamofemepgpaaRows
import Derived.WalkKit
import Derived.WalkSpells
import Derived.WalkLawsBesides
import Derived.Lib.Hide
import Derived.Maps.AppendAt
import Derived.Deep.Draws
import Derived.Deep.QuietTactic
import Derived.Deep.RegionHeld3
import Derived.Deep.RegionLaw
import Derived.BigQuiet
import Derived.Lib.SlBytesConst
namespace Go.Proofs.Ytoeamofemepgpaa
open Go.RowKit

/-- The slice '.slice A l.length c' lies below block B and its cells read as the bytes l. -/
structure BytesIn (w : World) (B : Nat) (A : Option Addr) (c : Nat) (l : List UInt8) : Prop where
  le : l.length ≤ c
  cap : c ≤ 9223372036854775807
  rd : l = [] ∨ ∃ b off, A = some ⟨b, off, none⟩ ∧ b < B ∧ ∀ i (h : i < l.length), w.cell? ⟨b, off + i, none⟩ = some (.int .u8 (l[i].toNat : Int))

namespace BytesIn
variable {w w' : World} {B B' c : Nat} {A : Option Addr} {l : List UInt8}
theorem at_ (h : BytesIn w B A c l) {k : Nat} (hk : k < l.length) :
    ∃ b off, A = some ⟨b, off, none⟩ ∧ b < B ∧ ∀ i (h : i < l.length), w.cell? ⟨b, off + i, none⟩ = some (.int .u8 (l[i].toNat : Int)) := by
  rcases h.rd with e | e
  · subst e; simp at hk
  · exact e
theorem below (h : BytesIn w B A c l) (hb : Below B' w w') (hB : B ≤ B') : BytesIn w' B A c l := by
  refine ⟨h.le, h.cap, ?_⟩
  rcases h.rd with e | ⟨b, off, e, hb', hc⟩
  · exact .inl e
  · exact .inr ⟨b, off, e, hb', fun i hi => (hb.cell (p := ⟨b, off + i, none⟩) (by show b < B'; omega)).trans (hc i hi)⟩
theorem more (h : BytesIn w B A c l) (hB : B ≤ B') : BytesIn w B' A c l := by
  refine ⟨h.le, h.cap, ?_⟩
  rcases h.rd with e | ⟨b, off, e, hb', hc⟩
  · exact .inl e
  · exact .inr ⟨b, off, e, by omega, hc⟩
theorem drewN (h : BytesIn w B A c l) (n : Nat) : BytesIn (w.drewN n) B A c l := ⟨h.le, h.cap, h.rd⟩
theorem drew (h : BytesIn w B A c l) : BytesIn w.drew B A c l := ⟨h.le, h.cap, h.rd⟩
theorem drop (h : BytesIn w B A c l) {k : Nat} (hk : k ≤ l.length) : BytesIn w B (if c = k then A else A.map (·.add k)) (c - k) (l.drop k) := by
  have h1 := h.le
  have h2 := h.cap
  refine ⟨by rw [List.length_drop]; omega, by omega, ?_⟩
  by_cases hz : k = l.length
  · exact .inl (by rw [hz, List.drop_length])
  · obtain ⟨b, off, rfl, hb, hc⟩ := h.at_ (show k < l.length by omega)
    rw [if_neg (by omega)]
    refine .inr ⟨b, off + k, by simp [Addr.add_lit], hb, fun i hi => ?_⟩
    rw [List.length_drop] at hi
    have := hc (k + i) (by omega)
    rw [Nat.add_assoc, this]
    simp
theorem dropLit {b off : Nat} (h : BytesIn w B (some ⟨b, off, none⟩) c l) {k : Nat} (hk : k ≤ l.length) (hc : k < c) : BytesIn w B (some ⟨b, off + k, none⟩) (c - k) (l.drop k) := by
  have := h.drop hk
  rwa [if_neg (by omega), Option.map_some, Addr.add_lit] at this
theorem take (h : BytesIn w B A c l) {k : Nat} : BytesIn w B A c (l.take k) := by
  have h1 := h.le
  refine ⟨by rw [List.length_take]; omega, h.cap, ?_⟩
  rcases h.rd with e | ⟨b, off, e, hb, hc⟩
  · exact .inl (by rw [e]; simp)
  · refine .inr ⟨b, off, e, hb, fun i hi => ?_⟩
    rw [List.length_take] at hi
    rw [hc i (by omega)]
    simp
theorem emp (hc : c ≤ 9223372036854775807) : BytesIn w B A c [] := ⟨Nat.zero_le _, hc, .inl rfl⟩
end BytesIn

/-- The cells of a slice's elements (each of 'size' cells), read at the address that the slice bears. -/
structure CellsIn (w : World) (B size : Nat) (A : Option Addr) (m : Nat) (xs : List Value) : Prop where
  len : xs.length = m * size
  rd : xs = [] ∨ ∃ b off, A = some ⟨b, off, none⟩ ∧ b < B ∧ ∀ j u, xs[j]? = some u → w.cell? ⟨b, off + j, none⟩ = some u

def cells8 (l : List UInt8) : List Value := l.map fun c => .int .u8 (c.toNat : Int)
theorem cells8_length (l : List UInt8) : (cells8 l).length = l.length := by unfold cells8; simp
theorem cells8_append (l l' : List UInt8) : cells8 (l ++ l') = cells8 l ++ cells8 l' := by unfold cells8; simp
theorem cells8_get (l : List UInt8) (i : Nat) (h : i < l.length) : (cells8 l)[i]? = some (.int .u8 (l[i].toNat : Int)) := by unfold cells8; simp [h]
theorem cells8_one (l : List UInt8) : ∀ u ∈ cells8 l, u.oneCell' = true := by
  intro u hu
  obtain ⟨_, _, rfl⟩ := List.mem_map.1 hu
  rfl
theorem BytesIn.cells {w : World} {B c : Nat} {A : Option Addr} {l : List UInt8} (h : BytesIn w B A c l) : CellsIn w B 1 A l.length (cells8 l) := by
  refine ⟨by rw [cells8_length]; omega, ?_⟩
  rcases h.rd with e | ⟨b, off, e, hb, hc⟩
  · exact .inl (by rw [e]; rfl)
  · refine .inr ⟨b, off, e, hb, fun j u hu => ?_⟩
    have hj : j < l.length := by have := (List.getElem?_eq_some_iff.1 hu).1; rwa [cells8_length] at this
    rw [cells8_get l j hj] at hu
    rw [hc j hj, hu]

theorem BytesIn.cellsN {w : World} {B c n : Nat} {A : Option Addr} {l : List UInt8} (h : BytesIn w B A c l) (hn : n = l.length) : CellsIn w B 1 A n (cells8 l) := by rw [hn]; exact h.cells

section
variable {P : Program} (w : World)
theorem run_append_row (base : Nat) (t ty e : TypeId) (i : TypeInfo) (z : Value) (size bytes : Nat) (ht : P.underlying t = some (.slice e)) (hi : P.info? e = some i) (hz : i.zero = some z)
    (hsize : i.size = size) (hby : i.bytes = bytes) (hzs : z.cells.size = size) (hsz : 0 < size)
    (A : Option Addr) (n c : Nat) (xs : List Value) (hown : w.ownsRow base e size (.slice A n c) n xs)
    (B : Nat) (A' : Option Addr) (m c' : Nat) (news : List Value) (hr : CellsIn w B size A' m news) (h1 : ∀ u ∈ news, u.oneCell' = true)
    (h63 : n + m ≤ maxLen) (hbytes : (n + m) * bytes ≤ 140737488355328) (hbase : base ≤ w.heap.size) :
    ∃ A2 c2 w', (Builtin.append_ #[t, t] ty #[.slice A n c, .slice A' m c']).run P w = .ok (.slice A2 (n + m) c2) w' ∧ w'.ownsRow base e size (.slice A2 (n + m) c2) (n + m) (xs ++ news) ∧
      w.grownBy w' (Value.ownBlock (.slice A n c)) ∧ (Value.ownBlock (.slice A2 (n + m) c2) = Value.ownBlock (.slice A n c) ∨ Value.ownBlock (.slice A2 (n + m) c2) = some w.heap.size) := by
  have shape : ∀ (v' : Value) (w' : World), w'.ownsRow base e size v' (n + m) (xs ++ news) → ∃ A2 c2, v' = .slice A2 (n + m) c2 := by
    intro v' w' hv
    rcases hv.2 with ⟨rfl, h0⟩ | ⟨g, cap, cur, rfl, _⟩
    · exact ⟨none, 0, by rw [h0]⟩
    · exact ⟨_, _, rfl⟩
  rcases A' with _ | ad
  · have hnews : news = [] := by
      rcases hr.rd with e | ⟨b, off, e, _⟩
      · exact e
      · cases e
    subst hnews
    have hm : m = 0 := by
      rcases Nat.eq_zero_or_pos m with h | h
      · exact h
      · have h2 := Nat.mul_pos h hsz
        have h3 := hr.len
        simp at h3
        omega
    subst hm
    refine ⟨A, c, w, ?_, by simpa using hown, World.grownBy.refl w _, .inl rfl⟩
    rcases hown.2 with ⟨hv, h0⟩ | ⟨g, cap, cur, hv, _, hg, hnc, _⟩
    · injection hv with e1 e2 e3
      subst e1 e2 e3
      simp [Builtin.append_, run_underlying ht, sizeOf, typeInfo, hi, Builtin.lenOf, Builtin.firstCells]
    · injection hv with e1 e2 e3
      subst e1 e3
      simp [Builtin.append_, run_underlying ht, sizeOf, typeInfo, hi, Builtin.lenOf, Builtin.firstCells, hnc, storeCells]
  · have hnews : ∀ j u, news[j]? = some u → w.cell? (ad.add j) = some u := by
      intro j u hu
      rcases hr.rd with e | ⟨b, off, e, _, hc⟩
      · rw [e] at hu; simp at hu
      · injection e with e
        subst e
        rw [Addr.add_lit]
        exact hc j u hu
    obtain ⟨v', w', hrun, h2, h3, _, h5⟩ := run_append_own_at (P := P) w base t ty e i z size bytes ht hi hz hsize hby hzs hsz _ n xs hown ad m c' news hr.len hnews h1 h63 hbytes hbase
    obtain ⟨A2, c2, rfl⟩ := shape _ _ h2
    exact ⟨A2, c2, w', hrun, h2, h3, h5⟩

/-- 'append(s, x...)', s a row of the call's own (nil or not), x any slice: its value is a slice again. -/
theorem wpList_append_row {ops : Array Oper} {rest : List Oper} {o : Oper} {a : Act} {Q : Exit → Act → World → Prop} (hgd : o.guard = none) (s x : Operand) (t : TypeId)
    (ho : o.op = .call { callee := .builtin .append, args := #[s, x], argTypes := #[t, t] })
    (base : Nat) (e : TypeId) (i : TypeInfo) (z : Value) (size bytes : Nat) (ht : P.underlying t = some (.slice e)) (hi : P.info? e = some i) (hz : i.zero = some z)
    (hsize : i.size = size) (hby : i.bytes = bytes) (hzs : z.cells.size = size) (hsz : 0 < size)
    (A : Option Addr) (n c : Nat) (xs : List Value) (hs : a.eval s = .slice A n c) (hown : w.ownsRow base e size (.slice A n c) n xs)
    (B : Nat) (A' : Option Addr) (m c' : Nat) (news : List Value) (hx : a.eval x = .slice A' m c') (hr : CellsIn w B size A' m news) (h1 : ∀ u ∈ news, u.oneCell' = true)
    (h63 : n + m ≤ maxLen) (hbytes : (n + m) * bytes ≤ 140737488355328) (hbase : base ≤ w.heap.size)
    (h : ∀ A2 c2 w', w'.ownsRow base e size (.slice A2 (n + m) c2) (n + m) (xs ++ news) → w.grownBy w' (Value.ownBlock (.slice A n c)) →
      (Value.ownBlock (.slice A2 (n + m) c2) = Value.ownBlock (.slice A n c) ∨ Value.ownBlock (.slice A2 (n + m) c2) = some w.heap.size) → wpList P ops Q rest (a.put o.dst (.slice A2 (n + m) c2)) w') : wpList P ops Q (o :: rest) a w := by
  refine wpList_plain hgd fun K hK => ?_
  obtain ⟨A2, c2, w', hrun, h2, h3, h4⟩ := run_append_row (P := P) w base t o.type e i z size bytes ht hi hz hsize hby hzs hsz A n c xs hown B A' m c' news hr h1 h63 hbytes hbase
  unfold Oper.wp execOp
  simp only [ho, resolve, invoke, builtin, Sem.run_bind, Sem.run_pure, Result.andThen_ok, List.map_toArray, List.map_cons, List.map_nil, hs, hx, hrun]
  exact hK _ _ (h A2 c2 w' h2 h3 h4)

/-- The same, as one step of a region that draws its order. -/
theorem step_append_row {ops : Array Oper} {o : Oper} {a : Act} {K : Act → World → Prop} {Q : Exit → Act → World → Prop} {E : Prop} (hgd : o.guard = none) (s x : Operand) (t : TypeId)
    (ho : o.op = .call { callee := .builtin .append, args := #[s, x], argTypes := #[t, t] })
    (base : Nat) (e : TypeId) (i : TypeInfo) (z : Value) (size bytes : Nat) (ht : P.underlying t = some (.slice e)) (hi : P.info? e = some i) (hz : i.zero = some z)
    (hsize : i.size = size) (hby : i.bytes = bytes) (hzs : z.cells.size = size) (hsz : 0 < size)
    (A : Option Addr) (n c : Nat) (xs : List Value) (hs : a.eval s = .slice A n c) (hown : w.ownsRow base e size (.slice A n c) n xs)
    (B : Nat) (A' : Option Addr) (m c' : Nat) (news : List Value) (hx : a.eval x = .slice A' m c') (hr : CellsIn w B size A' m news) (h1 : ∀ u ∈ news, u.oneCell' = true)
    (h63 : n + m ≤ maxLen) (hbytes : (n + m) * bytes ≤ 140737488355328) (hbase : base ≤ w.heap.size)
    (h : ∀ A2 c2 w', w'.ownsRow base e size (.slice A2 (n + m) c2) (n + m) (xs ++ news) → w.grownBy w' (Value.ownBlock (.slice A n c)) →
      (Value.ownBlock (.slice A2 (n + m) c2) = Value.ownBlock (.slice A n c) ∨ Value.ownBlock (.slice A2 (n + m) c2) = some w.heap.size) → K (a.put o.dst (.slice A2 (n + m) c2)) w') :
    if Region.wanted o (yielded ops a.tmps) = true then Oper.wp P o a w K Q else E := by
  have hw : Region.wanted o (yielded ops a.tmps) = true := by simp [Region.wanted, hgd]
  rw [if_pos hw]
  obtain ⟨A2, c2, w', hrun, h2, h3, h4⟩ := run_append_row (P := P) w base t o.type e i z size bytes ht hi hz hsize hby hzs hsz A n c xs hown B A' m c' news hr h1 h63 hbytes hbase
  unfold Oper.wp execOp
  simp only [ho, resolve, invoke, builtin, Sem.run_bind, Sem.run_pure, Result.andThen_ok, List.map_toArray, List.map_cons, List.map_nil, hs, hx, hrun]
  exact h A2 c2 w' h2 h3 h4
end

/-- The blocks outside S are as they were. -/
structure Chg (S : Nat → Prop) (w w' : World) : Prop where
  os : w'.os = w.os
  tape : w'.tape = w.tape
  output : w'.output = w.output
  size : w.heap.size ≤ w'.heap.size
  block : ∀ k, k < w.heap.size → ¬ S k → w'.heap[k]? = w.heap[k]?
namespace Chg
variable {S S' : Nat → Prop} {w w' w'' : World}
theorem refl (S : Nat → Prop) (w : World) : Chg S w w := ⟨rfl, rfl, rfl, Nat.le_refl _, fun _ _ _ => rfl⟩
theorem trans (h : Chg S w w') (h' : Chg S w' w'') : Chg S w w'' :=
  ⟨h'.os.trans h.os, h'.tape.trans h.tape, h'.output.trans h.output, Nat.le_trans h.size h'.size, fun k hk hs => (h'.block k (Nat.lt_of_lt_of_le hk h.size) hs).trans (h.block k hk hs)⟩
theorem mono (h : Chg S w w') (hs : ∀ k, k < w.heap.size → S k → S' k) : Chg S' w w' := ⟨h.os, h.tape, h.output, h.size, fun k hk hn => h.block k hk (fun h' => hn (hs k hk h'))⟩
theorem alloc (h : Chg S w w') (o : Obj) : Chg S w (w'.alloc o) :=
  h.trans ⟨rfl, rfl, rfl, by simp, fun k hk _ => Below.heap_alloc _ _ _ hk⟩
theorem setCell (h : Chg S w w') {p : Addr} (hp : w.heap.size ≤ p.block ∨ S p.block) (u : Value) : Chg S w (w'.setCell p u) := by
  refine ⟨h.os, h.tape, h.output, by simpa [World.setCell] using h.size, fun k hk hs => ?_⟩
  have hne : k ≠ p.block := by
    rintro rfl
    rcases hp with hp | hp
    · omega
    · exact hs hp
  exact (Below.heap_setCell _ _ _ _ hne).trans (h.block k hk hs)
theorem grown {row : Option Nat} (h : Chg S w w') (hg : w'.grownBy w'' row) (hr : ∀ k, row = some k → w.heap.size ≤ k ∨ S k) : Chg S w w'' :=
  ⟨hg.os.trans h.os, hg.tape.trans h.tape, hg.output.trans h.output, Nat.le_trans h.size hg.size, fun k hk hs => (hg.block k (Nat.lt_of_lt_of_le hk h.size) (fun e => by
    rcases hr k e.symm with h1 | h1
    · omega
    · exact hs h1)).trans (h.block k hk hs)⟩
theorem drewN (h : Chg S w w') (n : Nat) : Chg S w (w'.drewN n) := ⟨h.os, h.tape, h.output, h.size, h.block⟩
theorem of_below (h : Below w.heap.size w w') : Chg S w w' := ⟨h.os, h.tape, h.output, h.size, fun k hk _ => h.block k hk⟩
theorem below {B : Nat} (h : Chg S w w') (hB : B ≤ w.heap.size) (hs : ∀ k, k < B → ¬ S k) : Below B w w' := ⟨h.os, h.tape, h.output, h.size, fun k hk => h.block k (by omega) (hs k hk)⟩
theorem own {base : Nat} {e : TypeId} {size : Nat} {v : Value} {n : Nat} {xs : List Value} (h : Chg S w w') (ho : w.ownsRow base e size v n xs) (hs : ∀ k, v.ownBlock = some k → ¬ S k) : w'.ownsRow base e size v n xs := by
  refine ⟨ho.1, ?_⟩
  rcases ho.2 with hn | ⟨g, cap, cur, rfl, hb, hgg, rest⟩
  · exact .inl hn
  · exact .inr ⟨g, cap, cur, rfl, hb, by rw [h.block g (Array.getElem?_eq_some_iff.1 hgg).1 (hs g rfl)]; exact hgg, rest⟩
theorem cell (h : Chg S w w') {p : Addr} {v : Value} (hc : w.cell? p = some v) (hs : ¬ S p.block) : w'.cell? p = some v :=
  (World.cell?_of_block (h.block p.block (World.block_lt_of_cell? w p hc) hs)).trans hc
end Chg

theorem own_norm {w : World} {base : Nat} {e : TypeId} {size n c : Nat} {A : Option Addr} {xs : List Value} (h : w.ownsRow base e size (.slice A (0 + n) c) (0 + n) ([] ++ xs)) : w.ownsRow base e size (.slice A n c) n xs := by simpa using h
theorem Chg.drew {S : Nat → Prop} {w w' : World} (h : Chg S w w') : Chg S w w'.drew := ⟨h.os, h.tape, h.output, h.size, h.block⟩
def NoBlk : Nat → Prop := fun _ => False
def OneBlk (o : Option Nat) : Nat → Prop := fun k => o = some k

theorem own_ne {w : World} {b1 b2 : Nat} {e1 e2 : TypeId} {s1 s2 n1 n2 : Nat} {v1 v2 : Value} {xs1 xs2 : List Value} (h1 : w.ownsRow b1 e1 s1 v1 n1 xs1) (h2 : w.ownsRow b2 e2 s2 v2 n2 xs2) (hne : e1 ≠ e2) :
    ∀ k, v1.ownBlock = some k → ¬ OneBlk v2.ownBlock k := by
  intro k hk hk2
  have own (v : Value) (b : Nat) (e : TypeId) (s n : Nat) (xs : List Value) (h : w.ownsRow b e s v n xs) (hk : v.ownBlock = some k) : ∃ cur f, w.heap[k]? = some (.cells cur e f) := by
    rcases h.2 with ⟨rfl, _⟩ | ⟨g, cap, cur, rfl, _, hh, _⟩
    · simp [Value.ownBlock] at hk
    · simp only [Value.ownBlock, Option.some.injEq] at hk
      subst hk
      exact ⟨cur, _, hh⟩
  obtain ⟨c1, f1, h1'⟩ := own _ _ _ _ _ _ h1 hk
  obtain ⟨c2, f2, h2'⟩ := own _ _ _ _ _ _ h2 hk2
  rw [h1'] at h2'
  simp at h2'
  exact hne h2'.2.1
theorem frozen_of_one {w : World} {g : Nat} {cs : Array Value} {t : TypeId} {i : Nat} (h : w.heap[g]? = some (.cells cs t (0, 0))) : w.frozen? ⟨g, i, none⟩ = false := by simp [World.frozen?, h]
theorem cell_of_one {w : World} {g : Nat} {v : Value} {t : TypeId} {f : Nat × Nat} (h : w.heap[g]? = some (.cells #[v] t f)) : w.cell? ⟨g, 0, none⟩ = some v := by simp [World.cell?, h]
theorem one_set {w : World} {g : Nat} {v : Value} {t : TypeId} {f : Nat × Nat} (h : w.heap[g]? = some (.cells #[v] t f)) (u : Value) : (w.setCell ⟨g, 0, none⟩ u).heap[g]? = some (.cells #[u] t f) := by simp [World.setCell, Array.getElem?_modify, h]

theorem below_dn {B n : Nat} {a w : World} (h : Below B a w) : Below B a (w.drewN n) := ⟨h.os, h.tape, h.output, h.size, h.block⟩
theorem below_of_dn {B n : Nat} {a w : World} (h : Below B (a.drewN n) w) : Below B a w := ⟨h.os, h.tape, h.output, h.size, h.block⟩

def str (l : List UInt8) : ByteArray := ⟨l.toArray⟩
@[simp, go_sem] theorem str_toList (l : List UInt8) : (str l).toList = l := ByteArray.toList_mk l
theorem str_size (l : List UInt8) : (str l).size = l.length := by simp [str, ByteArray.size]
/-- A slice of bytes as a text. -/
theorem run_string {P : Program} {w : World} {B c n : Nat} {A : Option Addr} {l : List UInt8} (h : BytesIn w B A c l) (hn : n = l.length) (src e dst : TypeId)
    (hs : P.underlying src = some (.slice e)) (he : P.underlying e = some (.int .u8)) (hd : P.underlying dst = some .string) : (convert src dst (.slice A n c)).run P w = .ok (.string (str l)) w := by
  subst hn
  have hmap : (l.map fun c => (c.toNat : Int)).map (fun n : Int => UInt8.ofNat n.toNat) = l := by
    rw [List.map_map]
    conv => rhs; rw [← List.map_id l]
    apply List.map_congr_left
    intro c _
    simp
  have key (a : Addr) (hl : (loadCells a l.length).run P w = .ok ((l.map fun c => (c.toNat : Int)).map (Value.int .u8)).toArray w) : (convert src dst (.slice (some a) l.length c)).run P w = .ok (.string (str l)) w := by
    rw [run_convert_bytes_string w src dst e _ l.length c hs he hd, run_bytesToString w a l.length c _ hl, foldl_push_bytes, hmap]
    simp [str, ByteArray.empty, ByteArray.emptyWithCapacity]
    rfl
  have hm2 : (l.map fun c => (c.toNat : Int)).map (Value.int .u8) = cells8 l := by unfold cells8; rw [List.map_map]; rfl
  rcases A with _ | a
  · have : l = [] := by
      rcases h.rd with e | ⟨b, off, e, _⟩
      · exact e
      · cases e
    subst this
    exact run_convert_bytes_nil w src e hs he _ c dst hd
  · refine key a ?_
    rw [hm2]
    have := run_loadCells_list (P := P) w a (cells8 l) (fun j v hj => by
      rcases h.rd with e | ⟨b, off, e, _, hc⟩
      · subst e; simp [cells8] at hj
      · injection e with e
        subst e
        have hjl : j < l.length := by have := (List.getElem?_eq_some_iff.1 hj).1; rwa [cells8_length] at this
        rw [Addr.add_lit, hc j hjl, ← cells8_get l j hjl, hj])
    rwa [cells8_length] at this

/-- A row's block holds elements of its own type. -/
theorem own_elem {w : World} {base : Nat} {e : TypeId} {size : Nat} {v : Value} {n : Nat} {xs : List Value} (h : w.ownsRow base e size v n xs) {k : Nat} (hk : v.ownBlock = some k) : ∃ cur f, w.heap[k]? = some (.cells cur e f) := by
  rcases h.2 with ⟨rfl, _⟩ | ⟨g, cap, cur, rfl, _, hh, _⟩
  · simp [Value.ownBlock] at hk
  · simp only [Value.ownBlock, Option.some.injEq] at hk
    subst hk
    exact ⟨cur, _, hh⟩

theorem cellsIn_alloc (w : World) (cs : Array Value) (e : TypeId) (f : Nat × Nat) (size m : Nat) (h : cs.size = m * size) :
    CellsIn (w.alloc (.cells cs e f)) (w.heap.size + 1) size (some ⟨w.heap.size, 0, none⟩) m cs.toList := by
  refine ⟨by rw [Array.length_toList, h], .inr ⟨_, _, rfl, by omega, fun j u hu => ?_⟩⟩
  have hn : (w.alloc (.cells cs e f)).heap[w.heap.size]? = some (.cells cs e f) := heap_alloc_new w _
  simp only [World.cell?, hn, Nat.zero_add, Option.isSome_none, Bool.false_eq_true, if_false]
  rw [← Array.getElem?_toList]; exact hu

theorem own_alloc (w : World) (cs : Array Value) (e : TypeId) (size m base : Nat) (h : cs.size = m * size) (hm : m ≤ maxLen) (hb : base ≤ w.heap.size) :
    (w.alloc (.cells cs e)).ownsRow base e size (.slice (some ⟨w.heap.size, 0, none⟩) m m) m cs.toList :=
  ⟨by rw [Array.length_toList, h], .inr ⟨w.heap.size, m, cs, rfl, hb, heap_alloc_new w _, Nat.le_refl _, hm, h, List.take_of_length_le (by rw [Array.length_toList]; omega)⟩⟩
theorem below_of_grown {w w' : World} {row : Option Nat} (h : w.grownBy w' row) (hr : ∀ k, row = some k → w.heap.size ≤ k) : Below w.heap.size w w' :=
  (Below.refl _ _).grown h (Nat.le_refl _) hr
theorem grown_of_below {w w' : World} (h : Below w.heap.size w w') (row : Option Nat) : w.grownBy w' row :=
  ⟨h.os, h.tape, h.output, h.size, fun k hk _ => h.block k hk⟩

theorem quiet_eq {P : Program} {f : FuncId} {args : Array Value} {w : World} {n : Nat} {v : Value}
    (h : Calls P f args (w.drewN n) fun e w' => e = .returned v ∧ w.drewN n = w') : Calls P f args (w.drewN n) fun e w'' => e = .returned v ∧ ∃ m, w'' = w.drewN m :=
  h.mono fun _ _ ⟨he, hm⟩ => ⟨he, n, hm.symm⟩

theorem own_low {w : World} {base base' : Nat} {e : TypeId} {size n : Nat} {v : Value} {xs : List Value} (h : w.ownsRow base e size v n xs) (hb : base' ≤ base) : w.ownsRow base' e size v n xs := by
  refine ⟨h.1, ?_⟩
  rcases h.2 with hn | ⟨g, cap, cur, hv, hg, rest⟩
  · exact .inl hn
  · exact .inr ⟨g, cap, cur, hv, by omega, rest⟩

theorem cellsIn_of_own {w : World} {base : Nat} {e : TypeId} {size : Nat} {A : Option Addr} {n c : Nat} {xs : List Value} (h : w.ownsRow base e size (.slice A n c) n xs) : CellsIn w w.heap.size size A n xs := by
  refine ⟨h.1, ?_⟩
  rcases h.2 with ⟨hv, h0⟩ | ⟨g, cap, cur, hv, _, hg, hnc, hcm, _, htake⟩
  · left
    have := h.1
    rw [h0, Nat.zero_mul] at this
    exact List.eq_nil_of_length_eq_zero this
  · injection hv with e1 e2 e3
    subst e1 e3
    refine .inr ⟨g, 0, rfl, (Array.getElem?_eq_some_iff.1 hg).1, fun j u hu => ?_⟩
    have := h.cells (g := g) rfl j u hu
    rwa [Addr.add_lit] at this
theorem CellsIn.at_ {w : World} {B m : Nat} {A : Option Addr} {xs : List Value} (h : CellsIn w B 1 A m xs) {k : Nat} {u : Value} (hu : xs[k]? = some u) :
    ∃ b off, A = some ⟨b, off, none⟩ ∧ b < B ∧ w.cell? ⟨b, off + k, none⟩ = some u := by
  rcases h.rd with e | ⟨b, off, e, hb, hc⟩
  · subst e; simp at hu
  · exact ⟨b, off, e, hb, hc k u hu⟩

/-- A slice of bytes that came in. -/
theorem bytesIn_open {w : World} {x : Addr} {len cap : Nat} {zs : List Int} (hl : len ≤ cap) (hm : cap ≤ maxLen) (hz : zs.length = cap) (hcell : ∀ i, i < zs.length → w.cell? (x.add i) = some (.int .u8 (zs.getD i 0)))
    (hwf : ∀ n ∈ zs, (Lit.int .u8 n).wf = true) : ∃ l : List UInt8, len = l.length ∧ BytesIn w w.heap.size (some x) cap l := by
  have hb (n : Int) (hn : n ∈ zs) : 0 ≤ n ∧ n ≤ 255 := by
    have := hwf n hn
    simp [Lit.wf, IntKind.min, IntKind.max, IntKind.signed, IntKind.bits] at this
    omega
  refine ⟨(zs.take len).map fun n => UInt8.ofNat n.toNat, by simp; omega, by simp; omega, by unfold maxLen at hm; omega, ?_⟩
  by_cases h0 : len = 0
  · left; simp [h0]
  · right
    have hx0 := hcell 0 (by omega)
    have hadd : x.add 0 = x := by unfold Addr.add; simp
    rw [hadd] at hx0
    have hs : x.spot = none := by
      unfold World.cell? at hx0
      cases hsp : x.spot with
      | none => rfl
      | some s => simp [hsp] at hx0; split at hx0 <;> simp at hx0
    obtain ⟨b, off, spot⟩ := x
    simp only at hs
    subst hs
    refine ⟨b, off, rfl, World.block_lt_of_cell? w _ hx0, fun i hi => ?_⟩
    have hi' : i < zs.length := by simp at hi; omega
    have h1 := hcell i hi'
    rw [Addr.add_lit] at h1
    rw [h1]
    have h2 : zs.getD i 0 = zs[i] := by simp [List.getD, hi']
    have h3 := hb zs[i] (List.getElem_mem hi')
    rw [h2]
    simp only [List.getElem_map, List.getElem_take, Option.some.injEq, Value.int.injEq, true_and, UInt8.toNat_ofNat']
    omega

/-- A block of bytes that was just made. -/
theorem bytes_new (w : World) (cs : Array Value) (e : TypeId) (f : Nat × Nat) (l : List UInt8) (n : Nat) (h : cs.toList = cells8 l) (hn : n = l.length) (hm : n ≤ 9223372036854775807) : BytesIn (w.alloc (.cells cs e f)) (w.heap.size + 1) (some ⟨w.heap.size, 0, none⟩) n l := by
  have hs : cs.size = n * 1 := by rw [← Array.length_toList, h, cells8_length]; omega
  have hc := cellsIn_alloc w cs e f 1 n hs
  refine ⟨by omega, hm, ?_⟩
  rcases hc.rd with e0 | ⟨b, off, e1, hb, hr⟩
  · left
    rw [e0] at h
    have := congrArg List.length h
    rw [cells8_length] at this
    exact List.eq_nil_of_length_eq_zero this.symm
  · exact .inr ⟨b, off, e1, hb, fun i hi => hr i _ (by rw [h]; exact cells8_get l i hi)⟩

/-- Bytes of the call's own, read. -/
theorem bytesIn_of_own {w : World} {base : Nat} {e : TypeId} {A : Option Addr} {n c : Nat} {l : List UInt8} (h : w.ownsRow base e 1 (.slice A n c) n (cells8 l)) : n = l.length ∧ BytesIn w w.heap.size A c l := by
  have hl : n = l.length := by have := h.1; rw [cells8_length] at this; omega
  refine ⟨hl, ?_⟩
  rcases h.2 with ⟨hv, h0⟩ | ⟨g, cap, cur, hv, _, hg, hnc, hcm, _, htake⟩
  · injection hv with e1 e2 e3
    subst e1 e3
    have : l = [] := List.eq_nil_of_length_eq_zero (by omega)
    subst this
    exact .emp (by omega)
  · injection hv with e1 e2 e3
    subst e1 e3
    refine ⟨by omega, by unfold maxLen at hcm; omega, .inr ⟨g, 0, rfl, (Array.getElem?_eq_some_iff.1 hg).1, fun i hi => ?_⟩⟩
    have := h.cells (g := g) rfl i _ (cells8_get l i hi)
    rwa [Addr.add_lit] at this

end Go.Proofs.Ytoeamofemepgpaa
