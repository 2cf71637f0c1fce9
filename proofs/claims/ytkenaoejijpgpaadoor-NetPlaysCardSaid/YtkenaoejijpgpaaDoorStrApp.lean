/- A text's bytes appended to a row of the call's own. -/
import Derived.Test.YtkenaoejijpgpaaDoorBase
import Derived.Deep.AppendSrc
namespace Go.Proofs.YtkenaoejijpgpaaDoor
open Go.RowKit

theorem byteCells_str (l : List UInt8) : byteCells (str l) = cells8 l := by unfold byteCells str cells8; simp
section
variable {P : Program} (w : World)
theorem run_append_room_str (t tx ty e : TypeId) (i : TypeInfo) (ht : P.underlying t = some (.slice e)) (hi : P.info? e = some i)
    (g sLen sCap : Nat) (cur : Array Value) (hg : w.heap[g]? = some (.cells cur e (0, 0)))
    (x : Value) (m : Nat) (news : List Value) (hs : Src P i.size tx x m news w)
    (hroom : sLen + m ≤ sCap) (hfit : sLen * i.size + news.length ≤ cur.size) :
    (Builtin.append_ #[t, tx] ty #[.slice (some ⟨g, 0, none⟩) sLen sCap, x]).run P w =
      .ok (.slice (some ⟨g, 0, none⟩) (sLen + m) sCap) (w.setRow g (cur.toList.take (sLen * i.size) ++ news ++ cur.toList.drop (sLen * i.size + news.length)).toArray) := by
  have hst := run_storeCells_at P g (sLen * i.size) e news 0 cur w hg (by simpa using hfit) hs.one
  simp only [Nat.add_zero] at hst
  rcases hs.kind with ⟨e', hk⟩ | hk <;> simp [Builtin.append_, run_underlying ht, run_underlying hk, sizeOf, typeInfo, hi, hs.len, hroom, hs.cells, Addr.add_lit, hst]

theorem run_append_src_row (base : Nat) (t tx ty e : TypeId) (i : TypeInfo) (z : Value) (size bytes : Nat) (ht : P.underlying t = some (.slice e)) (hi : P.info? e = some i) (hz : i.zero = some z)
    (hsize : i.size = size) (hby : i.bytes = bytes) (hzs : z.cells.size = size)
    (A : Option Addr) (n c : Nat) (xs : List Value) (hown : w.ownsRow base e size (.slice A n c) n xs)
    (x : Value) (m : Nat) (news : List Value) (hs : Src P size tx x m news w) (hm0 : 0 < m)
    (h63 : n + m ≤ maxLen) (hbytes : (n + m) * bytes ≤ 140737488355328) (hbase : base ≤ w.heap.size) :
    ∃ A2 c2 w', (Builtin.append_ #[t, tx] ty #[.slice A n c, x]).run P w = .ok (.slice A2 (n + m) c2) w' ∧ w'.ownsRow base e size (.slice A2 (n + m) c2) (n + m) (xs ++ news) ∧
      w.grownBy w' (Value.ownBlock (.slice A n c)) ∧ (Value.ownBlock (.slice A2 (n + m) c2) = Value.ownBlock (.slice A n c) ∨ Value.ownBlock (.slice A2 (n + m) c2) = some w.heap.size) := by
  subst hsize
  subst hby
  have hl := hs.newsLen
  have hsmall : n + m ≤ 9223372036854775807 := by simp only [maxLen] at h63; omega
  have hlen : (xs ++ news).length = (n + m) * i.size := by rw [List.length_append, hown.1, hl, Nat.add_mul]
  have grown : ∀ (old : Nat), old < n + m → ∀ (row : Option Nat),
      (w.drew.alloc (.cells ((xs ++ news).toArray ++ Builtin.zeroCells z.cells (grownCap w (n + m) old e - (n + m))) e)).ownsRow base e i.size
        (.slice (some ⟨w.heap.size, 0, none⟩) (n + m) (grownCap w (n + m) old e)) (n + m) (xs ++ news) ∧
      w.grownBy (w.drew.alloc (.cells ((xs ++ news).toArray ++ Builtin.zeroCells z.cells (grownCap w (n + m) old e - (n + m))) e)) row := by
    intro old ho row
    have hge := grownCap_ge w (n + m) old e
    have hcm : grownCap w (n + m) old e ≤ maxLen := grownCap_le_maxLen w (n + m) old e h63
    refine ⟨⟨hlen, .inr ⟨w.heap.size, _, _, rfl, hbase, heap_alloc_new w.drew _, hge, hcm, ?_, ?_⟩⟩, ⟨rfl, rfl, rfl, by simp, fun k hk _ => Below.heap_alloc w.drew _ k hk⟩⟩
    · simp only [Array.size_append, List.size_toArray, size_zeroCells, hzs, hlen, ← Nat.add_mul]
      congr 1
      omega
    · simp only [Array.toList_append]
      rw [← hlen]
      exact List.take_left
  rcases hown.2 with ⟨hv, hn0⟩ | ⟨g, cap, cur, hv, hbg, hg, hnc, hcm, hcs, htake⟩
  · injection hv with e1 e2 e3
    subst e1 e2 e3
    have hx : xs = [] := List.eq_nil_of_length_eq_zero (by simpa using hown.1)
    subst hx
    have hr := run_append_grow_src (P := P) w t tx ty e i z ht hi hz none 0 0 [] (by simp [Builtin.firstCells]) x m news hs (by omega) (by omega) (growslice_fits (by omega) hbytes)
    have hgr := grown 0 (by omega) (Value.ownBlock (.slice none 0 0))
    exact ⟨_, _, _, hr, hgr.1, hgr.2, Or.inr rfl⟩
  · injection hv with e1 e2 e3
    subst e1 e3
    by_cases hroom : n + m ≤ c
    · have hfit : n * i.size + news.length ≤ cur.size := by rw [hl, hcs, ← Nat.add_mul]; exact Nat.mul_le_mul_right _ hroom
      have hr := run_append_room_str (P := P) w t tx ty e i ht hi g n c cur hg x m news hs hroom hfit
      refine ⟨_, _, _, hr, ⟨hlen, .inr ⟨g, c, _, rfl, hbg, setRow_heap w g cur _ e _ hg, hroom, hcm, ?_, ?_⟩⟩, ⟨rfl, rfl, rfl, by simp, fun k _ hk => setRow_other w g k _ (fun e => hk (by simp [Value.ownBlock, e]))⟩, Or.inl rfl⟩
      · simp only [List.size_toArray, List.length_append, List.length_take, List.length_drop, Array.length_toList]
        omega
      · rw [htake, ← hlen]
        exact List.take_left
    · have holds : (Builtin.firstCells i.size n (.slice (some ⟨g, 0, none⟩) n c)).run P w.drew = .ok xs.toArray w.drew :=
        run_firstCells_some w.drew i.size n ⟨g, 0, none⟩ n c xs hown.1 (by simpa using hown.cells (g := g) rfl)
      have hr := run_append_grow_src (P := P) w t tx ty e i z ht hi hz (some ⟨g, 0, none⟩) n c xs holds x m news hs (by omega) (by omega) (growslice_fits (by omega) hbytes)
      have hgr := grown c (by omega) (Value.ownBlock (.slice (some ⟨g, 0, none⟩) n c))
      exact ⟨_, _, _, hr, hgr.1, hgr.2, Or.inr rfl⟩

/-- 'append(b, s...)', b a row of the call's own, s a text of so many bytes. -/
theorem run_append_str (base : Nat) (t tx ty e : TypeId) (i : TypeInfo) (bytes : Nat) (ht : P.underlying t = some (.slice e)) (htx : P.underlying tx = some .string) (hi : P.info? e = some i) (hz : i.zero = some (.int .u8 0))
    (hsize : i.size = 1) (hby : i.bytes = bytes)
    (A : Option Addr) (n c : Nat) (xs : List Value) (hown : w.ownsRow base e 1 (.slice A n c) n xs) (l : List UInt8) (m : Nat) (hm : m = l.length)
    (h63 : n + m ≤ maxLen) (hbytes : (n + m) * bytes ≤ 140737488355328) (hbase : base ≤ w.heap.size) :
    ∃ A2 c2 w', (Builtin.append_ #[t, tx] ty #[.slice A n c, .string (str l)]).run P w = .ok (.slice A2 (n + m) c2) w' ∧ w'.ownsRow base e 1 (.slice A2 (n + m) c2) (n + m) (xs ++ cells8 l) ∧
      w.grownBy w' (Value.ownBlock (.slice A n c)) ∧ (Value.ownBlock (.slice A2 (n + m) c2) = Value.ownBlock (.slice A n c) ∨ Value.ownBlock (.slice A2 (n + m) c2) = some w.heap.size) := by
  have hsrc : Src P 1 tx (.string (str l)) m (cells8 l) w := by
    have := Src.ofString (P := P) w htx (str l)
    rw [byteCells_str, str_size, ← hm] at this
    exact this
  by_cases hm0 : 0 < m
  · exact run_append_src_row w base t tx ty e i (.int .u8 0) 1 bytes ht hi hz hsize hby rfl A n c xs hown _ m _ hsrc hm0 h63 hbytes hbase
  · have hm1 : m = 0 := by omega
    have hl0 : l = [] := List.eq_nil_of_length_eq_zero (by omega)
    subst hl0 hm1
    refine ⟨A, c, w, ?_, by simpa [cells8] using hown, World.grownBy.refl w _, .inl rfl⟩
    have hlen := hsrc.len w
    have hcells := hsrc.cells
    rcases hown.2 with ⟨hv, h0⟩ | ⟨g, cap, cur, hv, _, hg, hnc, _⟩
    · injection hv with e1 e2 e3
      subst e1 e2 e3
      simp [Builtin.append_, run_underlying ht, run_underlying htx, sizeOf, typeInfo, hi, hlen, hsize, hcells, cells8]
    · injection hv with e1 e2 e3
      subst e1 e3
      simp [Builtin.append_, run_underlying ht, run_underlying htx, sizeOf, typeInfo, hi, hlen, hsize, hcells, cells8, hnc, storeCells]

theorem wpList_append_str {ops : Array Oper} {rest : List Oper} {o : Oper} {a : Act} {Q : Exit → Act → World → Prop} (hgd : o.guard = none) (s x : Operand) (t tx : TypeId)
    (ho : o.op = .call { callee := .builtin .append, args := #[s, x], argTypes := #[t, tx] })
    (base : Nat) (e : TypeId) (i : TypeInfo) (bytes : Nat) (ht : P.underlying t = some (.slice e)) (htx : P.underlying tx = some .string) (hi : P.info? e = some i) (hz : i.zero = some (.int .u8 0))
    (hsize : i.size = 1) (hby : i.bytes = bytes)
    (A : Option Addr) (n c : Nat) (xs : List Value) (hs : a.eval s = .slice A n c) (hown : w.ownsRow base e 1 (.slice A n c) n xs)
    (l : List UInt8) (m : Nat) (hx : a.eval x = .string (str l)) (hm : m = l.length)
    (h63 : n + m ≤ maxLen) (hbytes : (n + m) * bytes ≤ 140737488355328) (hbase : base ≤ w.heap.size)
    (h : ∀ A2 c2 w', w'.ownsRow base e 1 (.slice A2 (n + m) c2) (n + m) (xs ++ cells8 l) → w.grownBy w' (Value.ownBlock (.slice A n c)) → wpList P ops Q rest (a.put o.dst (.slice A2 (n + m) c2)) w') : wpList P ops Q (o :: rest) a w := by
  refine wpList_plain hgd fun K hK => ?_
  obtain ⟨A2, c2, w', hrun, h2, h3, _⟩ := run_append_str (P := P) w base t tx o.type e i bytes ht htx hi hz hsize hby A n c xs hown l m hm h63 hbytes hbase
  unfold Oper.wp execOp
  simp only [ho, resolve, invoke, builtin, Sem.run_bind, Sem.run_pure, Result.andThen_ok, List.map_toArray, List.map_cons, List.map_nil, hs, hx, hrun]
  exact hK _ _ (h A2 c2 w' h2 h3)
end
end Go.Proofs.YtkenaoejijpgpaaDoor
