/- A network in memory: a row of packets, each with bytes of its own. -/
import Derived.Test.YtkenaoejijpgpaaDoorChT
import Derived.Test.YtkenaoejijpgpaaDoorMsg
import Derived.Test.YtkenaoejijpgpaaDoorEncU
import Derived.Deep.AppendSrc
import Derived.Laws.Append
namespace Go.Proofs.YtkenaoejijpgpaaDoor
open Go.RowKit

/-- A row, or the beginning of one that has no room behind it. -/
def RowV (w : World) (B : Nat) (e : TypeId) (size : Nat) (A : Option Addr) (n c : Nat) (xs : List Value) : Prop :=
  w.ownsRow B e size (.slice A n c) n xs ∨ (c = n ∧ n ≤ maxLen ∧ ∃ b cur, A = some ⟨b, 0, none⟩ ∧ B ≤ b ∧ w.heap[b]? = some (.cells cur e (0, 0)) ∧ n * size ≤ cur.size ∧ cur.toList.take (n * size) = xs)
namespace RowV
variable {w w' : World} {B size n c : Nat} {e : TypeId} {A : Option Addr} {xs : List Value}
theorem len (h : RowV w B e size A n c xs) : xs.length = n * size := by
  rcases h with h | ⟨_, _, b, cur, _, _, _, h1, h2⟩
  · exact h.1
  · rw [← h2, List.length_take, Array.length_toList]; omega
theorem le (h : RowV w B e size A n c xs) : n ≤ c := by
  rcases h with h | ⟨h, _⟩
  · rcases h.2 with ⟨hv, h0⟩ | ⟨g, cap, cur, hv, _, hg, hnc, _⟩
    · omega
    · injection hv with e1 e2 e3; omega
  · omega
theorem cap (h : RowV w B e size A n c xs) : c ≤ maxLen := by
  rcases h with h | ⟨h, h2, _⟩
  · rcases h.2 with ⟨hv, h0⟩ | ⟨g, cap, cur, hv, _, hg, hnc, hcm, _⟩
    · injection hv with e1 e2 e3; subst e3; exact Nat.zero_le _
    · injection hv with e1 e2 e3; omega
  · omega
theorem cells (h : RowV w B e size A n c xs) : CellsIn w w.heap.size size A n xs := by
  have hl := h.len
  rcases h with h | ⟨_, _, b, cur, rfl, _, hb, h1, h2⟩
  · exact cellsIn_of_own h
  · refine ⟨hl, .inr ⟨b, 0, rfl, (Array.getElem?_eq_some_iff.1 hb).1, fun j u hu => ?_⟩⟩
    rw [← h2, List.getElem?_take] at hu
    split at hu
    · simp only [World.cell?, hb, Nat.zero_add, Option.isSome_none, Bool.false_eq_true, if_false]
      simpa using hu
    · cases hu
/-- Its block, where it has elements. -/
theorem at_ (h : RowV w B e size A n c xs) {j : Nat} (hj : j < xs.length) : ∃ b, A = some ⟨b, 0, none⟩ ∧ B ≤ b ∧ b < w.heap.size ∧ (∃ cur, w.heap[b]? = some (.cells cur e (0, 0))) ∧ ∀ j u, xs[j]? = some u → w.cell? ⟨b, j, none⟩ = some u := by
  have hc := h.cells
  have hl := h.len
  have key : ∃ b cur, A = some ⟨b, 0, none⟩ ∧ B ≤ b ∧ w.heap[b]? = some (.cells cur e (0, 0)) := by
    rcases h with h | ⟨_, _, b, cur, rfl, hB, hb, _⟩
    · rcases h.2 with ⟨hv, h0⟩ | ⟨g, cap, cur, hv, hB, hg, _⟩
      · rw [h0, Nat.zero_mul] at hl; omega
      · injection hv with e1 e2 e3
        exact ⟨g, cur, e1, hB, hg⟩
    · exact ⟨b, cur, rfl, hB, hb⟩
  obtain ⟨b, cur, rfl, hB, hb⟩ := key
  refine ⟨b, rfl, hB, (Array.getElem?_eq_some_iff.1 hb).1, ⟨cur, hb⟩, ?_⟩
  rcases hc.rd with e0 | ⟨b', off, e0, _, hh⟩
  · rw [e0] at hj; simp at hj
  · injection e0 with e0
    injection e0 with e1 e2
    subst e1 e2
    intro j u hu
    have := hh j u hu
    rwa [Nat.zero_add] at this
theorem keep (h : RowV w B e size A n c xs) {S : Nat → Prop} (hc : Chg S w w') (hs : ∀ k cur f, w.heap[k]? = some (.cells cur e f) → ¬ S k) : RowV w' B e size A n c xs := by
  rcases h with h | ⟨h0, h1, b, cur, hA, hB, hb, h2⟩
  · exact .inl (hc.own h (fun k hk => by obtain ⟨cur, f, hh⟩ := own_elem h hk; exact hs k cur f hh))
  · exact .inr ⟨h0, h1, b, cur, hA, hB, (hc.block b (Array.getElem?_eq_some_iff.1 hb).1 (hs b cur _ hb)).trans hb, h2⟩
theorem below (h : RowV w B e size A n c xs) (hb : Below w.heap.size w w') : RowV w' B e size A n c xs := h.keep (Chg.of_below (S := fun _ => False) hb) (fun _ _ _ _ h => h)
end RowV
/-- An append to such a row. -/
theorem run_append_view {P : Program} (w : World) (B : Nat) (t ty e : TypeId) (i : TypeInfo) (z : Value) (size bytes : Nat) (ht : P.underlying t = some (.slice e)) (hi : P.info? e = some i) (hz : i.zero = some z)
    (hsize : i.size = size) (hby : i.bytes = bytes) (hzs : z.cells.size = size) (hsz : 0 < size)
    (A : Option Addr) (n c : Nat) (xs : List Value) (hown : RowV w B e size A n c xs)
    (Bx : Nat) (A' : Option Addr) (m c' : Nat) (news : List Value) (hr : CellsIn w Bx size A' m news) (h1 : ∀ u ∈ news, u.oneCell' = true)
    (h63 : n + m ≤ maxLen) (hbytes : (n + m) * bytes ≤ 140737488355328) (hbase : B ≤ w.heap.size) :
    ∃ A2 c2 w', (Builtin.append_ #[t, t] ty #[.slice A n c, .slice A' m c']).run P w = .ok (.slice A2 (n + m) c2) w' ∧ RowV w' B e size A2 (n + m) c2 (xs ++ news) ∧
      w.grownBy w' (Value.ownBlock (.slice A n c)) ∧ (Value.ownBlock (.slice A2 (n + m) c2) = Value.ownBlock (.slice A n c) ∨ Value.ownBlock (.slice A2 (n + m) c2) = some w.heap.size) := by
  rcases hown with hown | hv
  · obtain ⟨A2, c2, w', h1, h2, h3, h4⟩ := run_append_row (P := P) w B t ty e i z size bytes ht hi hz hsize hby hzs hsz A n c xs hown Bx A' m c' news hr h1 h63 hbytes hbase
    exact ⟨A2, c2, w', h1, .inl h2, h3, h4⟩
  · have hV : RowV w B e size A n c xs := .inr hv
    obtain ⟨rfl, hn, b, cur, rfl, hB, hb, hl, ht2⟩ := hv
    by_cases hm : m = 0
    · subst hm
      have hnews : news = [] := List.eq_nil_of_length_eq_zero (by rw [hr.len]; simp)
      subst hnews
      refine ⟨some ⟨b, 0, none⟩, c, w, ?_, by simpa using hV, World.grownBy.refl w _, .inl rfl⟩
      cases A' with
      | none => simp [Builtin.append_, run_underlying ht, sizeOf, typeInfo, hi, Builtin.lenOf, Builtin.firstCells, storeCells]
      | some a =>
        have hf := run_firstCells_some (P := P) w i.size 0 a 0 c' [] (by simp) (by simp)
        simp [Builtin.append_, run_underlying ht, sizeOf, typeInfo, hi, Builtin.lenOf, hf, storeCells]
    · have hpos : 0 < news.length := by rw [hr.len]; exact Nat.mul_pos (by omega) hsz
      obtain ⟨b', off, rfl, _, hc'⟩ := hr.rd.resolve_left (fun e => by rw [e] at hpos; simp at hpos)
      subst hsize hby
      have hxl := hV.len
      have hrun := run_append_grow (P := P) w t ty e i z ht hi hz ⟨b, 0, none⟩ c c xs hxl (fun j v hj => by
        rw [Addr.add_lit, Nat.zero_add]
        rw [← ht2, List.getElem?_take] at hj
        split at hj
        · simp only [World.cell?, hb, Option.isSome_none, Bool.false_eq_true, if_false]
          simpa using hj
        · cases hj) ⟨b', off, none⟩ m c' news hr.len (fun j v hj => by rw [Addr.add_lit]; exact hc' j v hj) (by omega) (by simp only [maxLen] at h63; omega) (growslice_fits (by omega) hbytes)
      have hge := grownCap_ge w (c + m) c e
      have hcm := grownCap_le_maxLen w (c + m) c e h63
      refine ⟨_, _, _, hrun, .inl ⟨by rw [List.length_append, hxl, hr.len, Nat.add_mul], .inr ⟨w.heap.size, _, _, rfl, hbase, heap_alloc_new w.drew _, hge, hcm, ?_, ?_⟩⟩, ?_, .inr rfl⟩
      · have hzl : (Builtin.zeroCells z.cells (grownCap w (c + m) c e - (c + m))).size = (grownCap w (c + m) c e - (c + m)) * i.size := by rw [size_zeroCells, hzs]
        simp only [Array.size_append, List.size_toArray, hzl, hxl, hr.len]
        rw [← Nat.add_mul, ← Nat.add_mul]
        congr 1
        omega
      · rw [Array.toList_append, Array.toList_append, List.append_assoc, ← List.append_assoc]
        rw [List.take_append_of_le_length (by simp [hxl, hr.len, Nat.add_mul])]
        exact List.take_of_length_le (by simp [hxl, hr.len, Nat.add_mul])
      · exact grown_of_below (((Below.refl _ w).drew).alloc (Nat.le_refl _) _) _

/-- The same, as one step of a region that draws its order. -/
theorem step_append_view {P : Program} (w : World) {ops : Array Oper} {o : Oper} {a : Act} {K : Act → World → Prop} {Q : Exit → Act → World → Prop} {E : Prop} (hgd : o.guard = none) (s x : Operand) (t : TypeId)
    (ho : o.op = .call { callee := .builtin .append, args := #[s, x], argTypes := #[t, t] })
    (base : Nat) (e : TypeId) (i : TypeInfo) (z : Value) (size bytes : Nat) (ht : P.underlying t = some (.slice e)) (hi : P.info? e = some i) (hz : i.zero = some z)
    (hsize : i.size = size) (hby : i.bytes = bytes) (hzs : z.cells.size = size) (hsz : 0 < size)
    (A : Option Addr) (n c : Nat) (xs : List Value) (hs : a.eval s = .slice A n c) (hown : RowV w base e size A n c xs)
    (B : Nat) (A' : Option Addr) (m c' : Nat) (news : List Value) (hx : a.eval x = .slice A' m c') (hr : CellsIn w B size A' m news) (h1 : ∀ u ∈ news, u.oneCell' = true)
    (h63 : n + m ≤ maxLen) (hbytes : (n + m) * bytes ≤ 140737488355328) (hbase : base ≤ w.heap.size)
    (h : ∀ A2 c2 w', RowV w' base e size A2 (n + m) c2 (xs ++ news) → w.grownBy w' (Value.ownBlock (.slice A n c)) →
      (Value.ownBlock (.slice A2 (n + m) c2) = Value.ownBlock (.slice A n c) ∨ Value.ownBlock (.slice A2 (n + m) c2) = some w.heap.size) → K (a.put o.dst (.slice A2 (n + m) c2)) w') :
    if Region.wanted o (yielded ops a.tmps) = true then Oper.wp P o a w K Q else E := by
  have hw : Region.wanted o (yielded ops a.tmps) = true := by simp [Region.wanted, hgd]
  rw [if_pos hw]
  obtain ⟨A2, c2, w', hrun, h2, h3, h4⟩ := run_append_view (P := P) w base t o.type e i z size bytes ht hi hz hsize hby hzs hsz A n c xs hown B A' m c' news hr h1 h63 hbytes hbase
  unfold Oper.wp execOp
  simp only [ho, resolve, invoke, builtin, Sem.run_bind, Sem.run_pure, Result.andThen_ok, List.map_toArray, List.map_cons, List.map_nil, hs, hx, hrun]
  exact h A2 c2 w' h2 h3 h4

/-- A packet: to whom it goes, where its bytes lie, and which they are. -/
structure Pv where
  to_ : Int
  A : Option Addr
  c : Nat
  l : List UInt8
def Pv.sl (p : Pv) : Value := .slice p.A p.l.length p.c
def pkc (p : Pv) : List Value := [.int .i64 p.to_, p.sl]
def pks (l : List Pv) : List Value := l.flatMap pkc
theorem pks_append (a b : List Pv) : pks (a ++ b) = pks a ++ pks b := by simp [pks]
theorem pks_length (l : List Pv) : (pks l).length = l.length * 2 := by
  induction l with
  | nil => rfl
  | cons x l ih => show (pkc x ++ pks l).length = _; rw [List.length_append, ih]; simp [pkc]; omega
theorem pks_get (l : List Pv) : ∀ {j : Nat} {p : Pv}, l[j]? = some p → (pks l)[j * 2]? = some (.int .i64 p.to_) ∧ (pks l)[j * 2 + 1]? = some p.sl := by
  induction l with
  | nil => intro j p h; simp at h
  | cons x l ih =>
    intro j p h
    have e : pks (x :: l) = pkc x ++ pks l := rfl
    rw [e]
    cases j with
    | zero =>
      simp only [List.getElem?_cons_zero, Option.some.injEq] at h
      subst h
      exact ⟨rfl, rfl⟩
    | succ j =>
      rw [List.getElem?_cons_succ] at h
      have := ih h
      rw [List.getElem?_append_right (by simp [pkc]; omega), List.getElem?_append_right (by simp [pkc]; omega)]
      have e1 : (j + 1) * 2 - (pkc x).length = j * 2 := by simp [pkc]; omega
      have e2 : (j + 1) * 2 + 1 - (pkc x).length = j * 2 + 1 := by simp [pkc]; omega
      rw [e1, e2]; exact this
theorem pks_one (l : List Pv) : ∀ u ∈ pks l, u.oneCell' = true := by
  intro u hu
  obtain ⟨p, _, hp⟩ := List.mem_flatMap.1 hu
  simp only [pkc, Pv.sl, List.mem_cons, List.not_mem_nil, or_false] at hp
  rcases hp with rfl | rfl <;> rfl
def Apart (p q : Pv) : Prop := ∀ k, p.sl.ownBlock = some k → q.sl.ownBlock ≠ some k
/-- The network lies in block N; it holds the packets l. -/
structure NAt (w : World) (B N : Nat) (LA : Option Addr) (Lc : Nat) (l : List Pv) : Prop where
  blk : w.heap[N]? = some (.cells #[.slice LA l.length Lc] 86 (0, 0))
  lN : B ≤ N
  row : RowV w B 89 2 LA l.length Lc (pks l)
  own : ∀ p ∈ l, w.ownsRow B 5 1 p.sl p.l.length (cells8 p.l)
  dis : l.Pairwise Apart
namespace NAt
variable {w w' : World} {B N Lc : Nat} {LA : Option Addr} {l : List Pv}
theorem keep (h : NAt w B N LA Lc l) {S : Nat → Prop} (hc : Chg S w w') (hN : ¬ S N) (hr : ∀ k cur f, w.heap[k]? = some (.cells cur 89 f) → ¬ S k) (hb : ∀ k cur f, w.heap[k]? = some (.cells cur 5 f) → ¬ S k) : NAt w' B N LA Lc l :=
  ⟨(hc.block N (ltb h.blk) hN).trans h.blk, h.lN, h.row.keep hc hr, fun p hp => hc.own (h.own p hp) (fun k hk => by obtain ⟨cur, f, hh⟩ := own_elem (h.own p hp) hk; exact hb k cur f hh), h.dis⟩
theorem below (h : NAt w B N LA Lc l) (hb : Below w.heap.size w w') : NAt w' B N LA Lc l :=
  h.keep (Chg.of_below (S := fun _ => False) hb) (fun h => h) (fun _ _ _ _ h => h) (fun _ _ _ _ h => h)
theorem ch (h : NAt w B N LA Lc l) {row : Option Nat} {τ : Nat} (hc : Ch row τ w w') (h1 : τ ≠ 86 + 1) (h2 : τ ≠ 89 + 1) (h3 : τ ≠ 6) : NAt w' B N LA Lc l :=
  h.keep hc.chg (fun e => by obtain ⟨o, ho, ht⟩ := hc.tg N e; rw [h.blk] at ho; injection ho with ho; subst ho; exact h1 ht.symm)
    (fun k cur f hk e => by obtain ⟨o, ho, ht⟩ := hc.tg k e; rw [hk] at ho; injection ho with ho; subst ho; exact h2 ht.symm)
    (fun k cur f hk e => by obtain ⟨o, ho, ht⟩ := hc.tg k e; rw [hk] at ho; injection ho with ho; subst ho; exact h3 ht.symm)
theorem lt (h : NAt w B N LA Lc l) : N < w.heap.size := ltb h.blk
theorem c0 (h : NAt w B N LA Lc l) : w.cell? ⟨N, 0, none⟩ = some (.slice LA l.length Lc) := cellb (i := 0) h.blk rfl
/-- A packet's cells. -/
theorem pk (h : NAt w B N LA Lc l) {j : Nat} {p : Pv} (hp : l[j]? = some p) : ∃ b, LA = some ⟨b, 0, none⟩ ∧ B ≤ b ∧ b < w.heap.size ∧ (∃ cur, w.heap[b]? = some (.cells cur 89 (0, 0))) ∧ w.cell? ⟨b, j * 2, none⟩ = some (.int .i64 p.to_) ∧ w.cell? ⟨b, j * 2 + 1, none⟩ = some p.sl := by
  have hj : j < l.length := (List.getElem?_eq_some_iff.1 hp).1
  obtain ⟨b, h1, h2, h3, h4, h5⟩ := h.row.at_ (j := 0) (by rw [pks_length]; omega)
  have hg := pks_get l hp
  exact ⟨b, h1, h2, h3, h4, h5 _ _ hg.1, h5 _ _ hg.2⟩
theorem bytes (h : NAt w B N LA Lc l) {p : Pv} (hp : p ∈ l) : BytesIn w w.heap.size p.A p.c p.l := (bytesIn_of_own (h.own p hp)).2
end NAt
/-- What an act on a network may change: the network and its row. -/
structure NCh (B : Nat) (w w' : World) : Prop where
  low : Below B w w'
  size : w.heap.size ≤ w'.heap.size
  kp : ∀ (k : Nat) (o : Obj), w.heap[k]? = some o → otag o ≠ 86 + 1 → otag o ≠ 89 + 1 → w'.heap[k]? = some o
namespace NCh
variable {B : Nat} {w w' w'' : World}
theorem of_below (h : Below w.heap.size w w') (hB : B ≤ w.heap.size) : NCh B w w' := ⟨h.mono hB, h.size, fun k _ ho _ _ => (h.block k (Array.getElem?_eq_some_iff.1 ho).1).trans ho⟩
theorem trans (h : NCh B w w') (h' : NCh B w' w'') : NCh B w w'' := ⟨h.low.trans h'.low, Nat.le_trans h.size h'.size, fun k o ho h1 h2 => h'.kp k o (h.kp k o ho h1 h2) h1 h2⟩
theorem of_ch {row : Option Nat} {τ : Nat} (h : Ch row τ w w') (hτ : τ = 86 + 1 ∨ τ = 89 + 1) (hB : B ≤ w.heap.size) (hlow : ∀ k, row = some k → B ≤ k) : NCh B w w' :=
  ⟨h.chg.below hB (fun k hk hs => by have := hlow k hs; omega), h.chg.size, fun _ _ ho h1 h2 => h.blk ho (by rcases hτ with e | e <;> rw [e] <;> assumption)⟩
theorem own (h : NCh B w w') {base : Nat} {e : TypeId} {size : Nat} {v : Value} {n : Nat} {xs : List Value} (ho : w.ownsRow base e size v n xs) (h1 : e ≠ 86) (h2 : e ≠ 89) : w'.ownsRow base e size v n xs := by
  refine ⟨ho.1, ?_⟩
  rcases ho.2 with hn | ⟨g, cap, cur, hv, hb, hg, rest⟩
  · exact .inl hn
  · exact .inr ⟨g, cap, cur, hv, hb, h.kp g _ hg (fun h => h1 (Nat.succ.inj h)) (fun h => h2 (Nat.succ.inj h)), rest⟩
end NCh
theorem RowV.ch {w w' : World} {B size n c : Nat} {e : TypeId} {A : Option Addr} {xs : List Value} (h : RowV w B e size A n c xs) (hg : w.grownBy w' (Value.slice A n c).ownBlock) : Ch (Value.slice A n c).ownBlock (e + 1) w w' ∧ ∀ k, (Value.slice A n c).ownBlock = some k → B ≤ k := by
  rcases h with h | ⟨_, _, b, cur, rfl, hB, hb, _⟩
  · exact ⟨Ch.ofOwn h hg, own_lowk h⟩
  · refine ⟨⟨(Chg.refl _ w).grown hg (fun k hk => .inr hk), fun k hk => ?_⟩, fun k hk => ?_⟩
    · simp only [Value.ownBlock, Option.some.injEq] at hk
      subst hk
      exact ⟨_, hb, rfl⟩
    · simp only [Value.ownBlock, Option.some.injEq] at hk
      subst hk
      exact hB
/-- A packet more. -/
theorem send_end {w w1 w2 w3 : World} {B N Lc n m Pc c2 : Nat} {LA PA A2 : Option Addr} {l : List Pv} {bs : List UInt8} {to_ : Int} (h : NAt w B N LA Lc l) (hnl : n = l.length) (hb1 : Below w.heap.size w w1) (ho : w1.ownsRow w.heap.size 5 1 (.slice PA m Pc) m (cells8 bs)) (hm : m = bs.length)
    (hb2 : Below w1.heap.size w1 w2) (hrow2 : RowV w2 B 89 2 LA n Lc (pks l)) (hg : w2.grownBy w3 (Value.slice LA n Lc).ownBlock) (hrow : RowV w3 B 89 2 A2 (n + 1) c2 (pks l ++ [.int .i64 to_, .slice PA m Pc])) :
    NAt (w3.setCell ⟨N, 0, none⟩ (.slice A2 (n + 1) c2)) B N A2 c2 (l ++ [⟨to_, PA, Pc, bs⟩]) ∧ NCh B w (w3.setCell ⟨N, 0, none⟩ (.slice A2 (n + 1) c2)) := by
  subst hnl hm
  have hB : B ≤ w.heap.size := Nat.le_trans h.lN (Nat.le_of_lt h.lt)
  have h1 := h.below hb1
  have h2 := h1.below hb2
  have ho2 : w2.ownsRow w.heap.size 5 1 (.slice PA bs.length Pc) bs.length (cells8 bs) := ho.kept (grown_of_below hb2 none) (by cases PA <;> simp [Value.ownBlock])
  obtain ⟨hc3, hlow⟩ := hrow2.ch hg
  have hblk3 := hc3.blk h2.blk (by show (86 + 1 : Nat) ≠ _; decide)
  have hc4 := Ch.ofCell (i := 0) hblk3 (.slice A2 (l.length + 1) c2)
  have key : ∀ p : Pv, w2.ownsRow B 5 1 p.sl p.l.length (cells8 p.l) → (w3.setCell ⟨N, 0, none⟩ (.slice A2 (l.length + 1) c2)).ownsRow B 5 1 p.sl p.l.length (cells8 p.l) := fun p hp => hc4.own (hc3.own hp (by decide)) (by decide)
  have hsz : w.heap.size ≤ w2.heap.size := Nat.le_trans hb1.size hb2.size
  refine ⟨⟨?_, h.lN, ?_, ?_, ?_⟩, ?_⟩
  · rw [set_blk hblk3]
    simp
  · rw [pks_append, List.length_append]
    exact hrow.keep hc4.chg (fun k cur f hk e => by injection e with e; subst e; rw [hblk3] at hk; injection hk with hk; injection hk with _ hk _; exact absurd hk (by decide))
  · intro p hp
    rw [List.mem_append, List.mem_singleton] at hp
    rcases hp with hp | rfl
    · exact key p (h2.own p hp)
    · exact key _ (own_low ho2 hB)
  · rw [List.pairwise_append]
    refine ⟨h.dis, List.pairwise_singleton _ _, fun a ha b hb k hk hk2 => ?_⟩
    rw [List.mem_singleton] at hb
    subst hb
    have q1 := ((h.own a ha).lt k hk).2
    have q2 := (ho2.lt k hk2).1
    omega
  · exact (((NCh.of_below hb1 hB).trans (NCh.of_below hb2 (Nat.le_trans hB hb1.size))).trans (NCh.of_ch hc3 (.inr rfl) (Nat.le_trans hB hsz) hlow)).trans (NCh.of_ch hc4 (.inl rfl) (Nat.le_trans hB (Nat.le_trans hsz hg.size)) (fun k hk => by injection hk with hk; rw [← hk]; exact h.lN))
end Go.Proofs.YtkenaoejijpgpaaDoor
