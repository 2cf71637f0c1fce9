/- A pair: a message that is under way is taken. -/
import Derived.Test.YtlcbpodjmafoeaaOnce2
namespace Go.Proofs.Ytlcbpodjmafoeaa
open Go.RowKit

theorem and_mask (x : Int) (m : Nat) (hm : m < 100000) : ∃ k : Nat, k ≤ m ∧ bits .and .i64 x (m : Int) = (k : Int) := by
  have e : (BitVec.ofInt 64 (m : Int)).toNat = m := by rw [BitVec.toNat_ofInt]; omega
  have hle : (BitVec.ofInt 64 x).toNat &&& m ≤ m := Nat.and_le_right
  refine ⟨(BitVec.ofInt 64 x).toNat &&& m, hle, ?_⟩
  show IntKind.i64.wrap (((BitVec.ofInt 64 x &&& BitVec.ofInt 64 (m : Int)).toNat : Nat) : Int) = _
  rw [BitVec.toNat_and, e]
  generalize (BitVec.ofInt 64 x).toNat &&& m = q at hle
  rw [IntKind.wrap_i64]
  omega
theorem mgs_get (l : List Mg) {k : Nat} {m : Mg} (hk : l[k]? = some m) : ∃ pre post, mgs l = pre ++ (mgc m ++ post) ∧ pre.length = k * 21 := by
  have hlt : k < l.length := (List.getElem?_eq_some_iff.1 hk).1
  have e : l = l.take k ++ (m :: l.drop (k + 1)) := by
    have hm : l[k] = m := (List.getElem?_eq_some_iff.1 hk).2
    rw [← hm, List.getElem_cons_drop, List.take_append_drop]
  refine ⟨mgs (l.take k), mgs (l.drop (k + 1)), ?_, ?_⟩
  · conv => lhs; rw [e]
    rw [mgs_append]; rfl
  · rw [mgs_length, List.length_take]; congr 1; omega
theorem own_range {w : World} {base g c n : Nat} {l : List Mg} (h : w.ownsRow base 36 21 (.slice (some ⟨g, 0, none⟩) n c) n (mgs l)) {k : Nat} {m : Mg} (hk : l[k]? = some m) : w.rangeAt g (k * 21) (mgc m) := by
  rcases h.2 with ⟨he, _⟩ | ⟨g', cap, cur, he, _, hcur, hnc, _, hsz, htk⟩
  · cases he
  injection he with e1 e2 e3
  injection e1 with e1; injection e1 with e1
  subst e1
  obtain ⟨pre, post, e, hl⟩ := mgs_get l hk
  intro j v hj
  refine cellb hcur ?_
  have h1 : (cur.toList.take (n * 21))[k * 21 + j]? = some v := by
    have hlt := (List.getElem?_eq_some_iff.1 hj).1
    rw [htk, e, List.getElem?_append_right (by omega), hl, show k * 21 + j - k * 21 = j by omega, List.getElem?_append_left hlt]; exact hj
  rw [List.getElem?_take] at h1
  split at h1
  · simpa using h1
  · cases h1
theorem mgs_one (l : List Mg) : ∀ u ∈ mgs l, u.oneCell' = true := by
  intro u hu
  obtain ⟨m, _, hm⟩ := List.mem_flatMap.1 hu
  simp only [mgc, List.mem_cons, List.not_mem_nil, or_false] at hm
  rcases hm with h | h | h | h | h | h | h | h | h | h | h | h | h | h | h | h | h | h | h | h | h <;> subst h <;> rfl
theorem own_cells {w : World} {base g c n : Nat} {l : List Mg} (h : w.ownsRow base 36 21 (.slice (some ⟨g, 0, none⟩) n c) n (mgs l)) (i j : Nat) (hn : n = l.length) (hij : i ≤ j) (hj : j ≤ n) : CellsIn w w.heap.size 21 (some ⟨g, i * 21, none⟩) (j - i) (mgs ((l.drop i).take (j - i))) := by
  have hc := cellsIn_of_own h
  refine ⟨by rw [mgs_length, List.length_take, List.length_drop]; congr 1; omega, ?_⟩
  rcases hc.rd with e | ⟨b, off, e, hb, hr⟩
  · have : l = [] := by
      cases l with
      | nil => rfl
      | cons x l => have := congrArg List.length e; rw [mgs_length] at this; simp at this
    subst this
    exact .inl (by simp [mgs])
  · injection e with e; injection e with e1 e2; subst e1 e2
    refine .inr ⟨g, i * 21, rfl, hb, fun q u hu => ?_⟩
    have hlt := (List.getElem?_eq_some_iff.1 hu).1
    have e3 : mgs l = mgs (l.take i) ++ (mgs ((l.drop i).take (j - i)) ++ mgs ((l.drop i).drop (j - i))) := by
      rw [← mgs_append, ← mgs_append, List.take_append_drop, List.take_append_drop]
    have hli : (mgs (l.take i)).length = i * 21 := by rw [mgs_length, List.length_take]; congr 1; omega
    have h4 := hr (i * 21 + q) u (by
      rw [e3, List.getElem?_append_right (by omega), hli, show i * 21 + q - i * 21 = q by omega, List.getElem?_append_left hlt]
      exact hu)
    simpa using h4
theorem i36p : ∃ i, Try.prog.info? 36 = some i ∧ i.zero = some (.agg #[.int .i64 0, .int .i64 0, .int .i64 0, .int .i64 0, .int .i64 0, .int .i64 0, .int .i64 0, .int .i64 0, .int .i64 0, .int .i64 0, .int .i64 0, .int .i64 0, .int .i64 0, .int .i64 0, .int .i64 0, .int .i64 0, .int .i64 0, .slice none 0 0, .int .i64 0, .int .i64 0, .int .i64 0]) ∧ i.size = 21 ∧ i.bytes = 184 := by
  have h : (Try.prog.info? 36).map (fun i => (i.zero, i.size, i.bytes)) = some (some (.agg #[.int .i64 0, .int .i64 0, .int .i64 0, .int .i64 0, .int .i64 0, .int .i64 0, .int .i64 0, .int .i64 0, .int .i64 0, .int .i64 0, .int .i64 0, .int .i64 0, .int .i64 0, .int .i64 0, .int .i64 0, .int .i64 0, .int .i64 0, .slice none 0 0, .int .i64 0, .int .i64 0, .int .i64 0]), 21, 184) := by kernel_rfl
  cases hi : Try.prog.info? 36 with
  | none => rw [hi] at h; cases h
  | some i => rw [hi] at h; simp at h; exact ⟨i, rfl, h.1, h.2.1, h.2.2⟩
theorem row_new {v0 : Value} (h0 : v0.ownBlock = none) {A : Option Addr} {n c N n' c' j : Nat} (hor : (Value.slice A n c).ownBlock = v0.ownBlock ∨ (Value.slice A n c).ownBlock = some N) (hj : j < N) : (Value.slice A n' c').ownBlock ≠ some j := by
  intro e
  cases A with
  | none => cases e
  | some a =>
    have e : a.block = j := by injection e
    rcases hor with h | h
    · rw [h0] at h; cases h
    · have h : a.block = N := by injection h
      omega
theorem results_cell6 {fn : Func} {q : Tmp} {ty : TypeId} (h : fn.results = #[.cell q ty]) (tmps : Array Value) (P : Program) (w : World) :
    (results fn tmps).run P w = ((asAddr (tmps.getD q undef)).run P w).andThen fun a w₁ => ((loadVar ty a).run P w₁).andThen fun v w₂ => .ok v w₂ := by
  simp [results, h]
  congr
  funext a w'
  cases (loadVar ty a).run P w' <;> rfl
theorem results_one {fn : Func} {q : Tmp} (h : fn.results = #[.cell q 36]) (tmps : Array Value) (w : World) (g : Nat) (cs : Array Value) (hp : tmps.getD q undef = .pointer (some ⟨g, 0, none⟩)) (hg : w.heap[g]? = some (.cells cs 36 (0, 0))) (hc : cs.size = 21) :
    (results fn tmps).run Try.prog w = .ok (.agg cs) w := by
  rw [results_cell6 h, hp]
  have h := run_loadVar_row (P := Try.prog) w g 36 36 cs (0, 0) _ hg Try.underlying36 rfl (by rw [hc]; kernel_rfl)
  simp [asAddr, h]
set_option maxRecDepth 100000 in
set_option maxHeartbeats 8000000 in
theorem take_any (lo : Nat) (id : Int) (w : World) (P : Nat) (x : Px) (f : Int → Kp) (p : Pst) (pick : Int) (stays : Bool) (h : PAt lo id w P x f p) (hn0 : 0 < p.way.length) (hn1 : p.way.length ≤ 1000) :
    Calls Try.prog 29 #[.pointer (some ⟨P, 0, none⟩), .int .i64 pick, .bool stays] w fun e w' => ∃ (m : Mg) (x' : Px) (way : List Mg), e = .returned (.agg #[.int .i64 (m.v 0), .int .i64 (m.v 1), .int .i64 (m.v 2), .int .i64 (m.v 3), .int .i64 (m.v 4), .int .i64 (m.v 5), .int .i64 (m.v 6), .int .i64 (m.v 7), .int .i64 (m.v 8), .int .i64 (m.v 9), .int .i64 (m.v 10), .int .i64 (m.v 11), .int .i64 (m.v 12), .int .i64 (m.v 13), .int .i64 (m.v 14), .int .i64 (m.v 15), .int .i64 (m.v 16), .slice m.A m.n m.c, .int .i64 (m.v 18), .int .i64 (m.v 19), .int .i64 (m.v 20)]) ∧ PAt lo id w' P x' f { p with way := way } ∧ m ∈ p.way ∧ (∀ y ∈ way, y ∈ p.way) ∧ way.length ≤ p.way.length ∧ x'.nn = x.nn ∧ (∀ (b : Nat) (cs : Array Value), w.heap[b]? = some (Obj.cells cs 57 (0, 0)) → w'.heap[b]? = some (Obj.cells cs 57 (0, 0))) ∧ Chg (fun k => lo ≤ k) w w' := by
  obtain ⟨gc, gs, H, M, nn, wA, wc, bA, bc, cA, cc, t1, t2⟩ := x
  obtain ⟨n, hn⟩ : ∃ n, n = p.way.length := ⟨_, rfl⟩
  obtain ⟨g, hg⟩ : ∃ g, wA = some ⟨g, 0, none⟩ := by
    rcases h.way.2 with ⟨_, h0⟩ | ⟨g, _, _, he, _⟩
    · omega
    · injection he with e1; exact ⟨g, e1⟩
  subst hg
  obtain ⟨w0, rfl⟩ : ∃ y, y = w := ⟨_, rfl⟩
  have hP := h.blk
  have hW := h.way
  simp only at hP hW
  rw [← hn] at hP hW hn0 hn1
  have HPB_0 : Hid (w0.heap[P]? = some (.cells #[.int .i64 id, .pointer (some ⟨gc, 0, none⟩), .pointer (some ⟨gs, 0, none⟩), .int .i64 p.ep, .slice ((some ⟨g, 0, none⟩)) n wc, .slice bA p.book.length bc, .int .i64 p.told, .int .i64 t1, .int .i64 t2, .slice ((some ⟨H, 0, none⟩)) p.heard.length p.heard.length] 54 (0, 0))) := Lib.hid hP
  have HC_0 : Hid (CAt w0 gc p.s cA cc) := Lib.hid h.cl
  have HS_0 : Hid (SAt w0 gs p.ep M nn f) := Lib.hid h.sv
  have HWAY_0 : Hid (w0.ownsRow (H + 1) 36 21 (.slice ((some ⟨g, 0, none⟩)) n wc) n (mgs p.way)) := Lib.hid hW
  have HBOOK_0 : Hid (w0.ownsRow (H + 1) 3 1 (.slice bA p.book.length bc) p.book.length (ints p.book)) := Lib.hid h.book
  have HHD_0 : Hid (w0.heap[H]? = some (.cells (ints p.heard).toArray 3 (0, 0))) := Lib.hid h.hrd
  have HB_0 : Hid (Chg (fun k => lo ≤ k) w0 w0) := Lib.hid (Chg.refl _ w0)
  have HZ_0 : Hid (∀ (b : Nat) (cs : Array Value), w0.heap[b]? = some (Obj.cells cs 57 (0, 0)) → w0.heap[b]? = some (Obj.cells cs 57 (0, 0))) := Lib.hid (fun _ _ h => h)
  have HKF := Lib.hid h.kf
  have HN := Lib.hid hn
  have l1 := h.lc
  have l2 := h.lP
  have l3 := h.lH
  have l4 := h.lM
  simp only at l1 l3 l4
  have hcap : n ≤ wc := by
    rcases hW.2 with ⟨he, _⟩ | ⟨_, _, _, he, _, _, hnc, _⟩
    · cases he
    · injection he with _ _ e3; rw [e3]; exact hnc
  obtain ⟨a, ha, hab⟩ := and_mask pick 1023 (by omega)
  obtain ⟨k, hk⟩ : ∃ k, k = a % n := ⟨_, rfl⟩
  have hkn : k < n := by rw [hk]; exact Nat.mod_lt _ hn0
  have q1 : (a : Int).tmod (n : Int) = (k : Int) := by rw [rem_nat, hk]
  have q2 : bits .and .i64 pick 1023 = (a : Int) := hab
  have q3 : ¬ (n : Int) = 0 := by omega
  have q4 : (k : Int) < (n : Int) := by omega
  have q5 : (0 : Int) ≤ (k : Int) := by omega
  obtain ⟨m, hm⟩ : ∃ m, p.way[k]? = some m := ⟨p.way[k]'(by omega), List.getElem?_eq_getElem (by omega)⟩
  have HM := Lib.hid hm
  clear h hP hW hn hm hk hab ha hn0
  go_enter Try.func29, Try.ntmps29
  obtain ⟨P6, hP6⟩ : ∃ x, x = w0.heap.size := ⟨_, rfl⟩
  have loP6 : lo ≤ P6 := (by have := ltb HPB_0.out; omega)
  have gP6 : g < P6 := (by have := (HWAY_0.out.lt g rfl).2; omega)
  obtain ⟨w1, hw1⟩ : ∃ y, y = w0.alloc (.cells #[.int .i64 0, .int .i64 0, .int .i64 0, .int .i64 0, .int .i64 0, .int .i64 0, .int .i64 0, .int .i64 0, .int .i64 0, .int .i64 0, .int .i64 0, .int .i64 0, .int .i64 0, .int .i64 0, .int .i64 0, .int .i64 0, .int .i64 0, .slice none 0 0, .int .i64 0, .int .i64 0, .int .i64 0] 36) := ⟨_, rfl⟩
  have hal : Below w0.heap.size w0 w1 := by rw [hw1]; exact (Below.refl _ _).alloc (Nat.le_refl _) _
  have hnew : w1.heap[P6]? = some (.cells (mcv (fun _ => 0) (.slice none 0 0)) 36 (0, 0)) := by rw [hw1, hP6]; exact heap_alloc_new _ _
  have HNWAY_P6 : Hid ((.slice ((some ⟨g, 0, none⟩)) n wc : Value).ownBlock ≠ some P6) := Lib.hid (fun e => by have := (HWAY_0.out.lt _ e).2; omega)
  have HPB_1 : Hid (w1.heap[P]? = some (.cells #[.int .i64 id, .pointer (some ⟨gc, 0, none⟩), .pointer (some ⟨gs, 0, none⟩), .int .i64 p.ep, .slice ((some ⟨g, 0, none⟩)) n wc, .slice bA p.book.length bc, .int .i64 p.told, .int .i64 t1, .int .i64 t2, .slice ((some ⟨H, 0, none⟩)) p.heard.length p.heard.length] 54 (0, 0))) := Lib.hid ((hal.block P (ltb HPB_0.out)).trans HPB_0.out)
  have HC_1 : Hid (CAt w1 gc p.s cA cc) := Lib.hid (HC_0.out.below hal)
  have HS_1 : Hid (SAt w1 gs p.ep M nn f) := Lib.hid (HS_0.out.below hal)
  have HWAY_1 : Hid (w1.ownsRow (H + 1) 36 21 (.slice ((some ⟨g, 0, none⟩)) n wc) n (mgs p.way)) := Lib.hid ((Chg.of_below (S := fun _ => False) hal).own HWAY_0.out (fun _ _ h => h))
  have HBOOK_1 : Hid (w1.ownsRow (H + 1) 3 1 (.slice bA p.book.length bc) p.book.length (ints p.book)) := Lib.hid ((Chg.of_below (S := fun _ => False) hal).own HBOOK_0.out (fun _ _ h => h))
  have HHD_1 : Hid (w1.heap[H]? = some (.cells (ints p.heard).toArray 3 (0, 0))) := Lib.hid ((hal.block H (ltb HHD_0.out)).trans HHD_0.out)
  have HB_1 : Hid (Chg (fun k => lo ≤ k) w0 w1) := Lib.hid (HB_0.out.trans (Chg.of_below hal))
  have HZ_1 : Hid (∀ (b : Nat) (cs : Array Value), w0.heap[b]? = some (Obj.cells cs 57 (0, 0)) → w1.heap[b]? = some (Obj.cells cs 57 (0, 0))) := Lib.hid (fun b cs h => (hal.block b (ltb (HZ_0.out b cs h))).trans (HZ_0.out b cs h))
  clear hal HPB_0 HC_0 HS_0 HWAY_0 HBOOK_0 HHD_0 HB_0 HZ_0
  have HP6_1 := Lib.hid hnew
  clear hnew
  go_upto_region 1 with fail
  rw [← hw1]
  clear hw1
  rw [← hP6]
  clear hP6
  have cc2 : w1.cell? ⟨P, 4, none⟩ = some (.slice ((some ⟨g, 0, none⟩)) n wc) := cellb (i := 4) HPB_1.out rfl
  have cc3 : w1.cell? ⟨P, 4, none⟩ = some (.slice ((some ⟨g, 0, none⟩)) n wc) := cellb (i := 4) HPB_1.out rfl
  have HRG : Hid (w1.rangeAt g (k * 21) [.int .i64 (m.v 0), .int .i64 (m.v 1), .int .i64 (m.v 2), .int .i64 (m.v 3), .int .i64 (m.v 4), .int .i64 (m.v 5), .int .i64 (m.v 6), .int .i64 (m.v 7), .int .i64 (m.v 8), .int .i64 (m.v 9), .int .i64 (m.v 10), .int .i64 (m.v 11), .int .i64 (m.v 12), .int .i64 (m.v 13), .int .i64 (m.v 14), .int .i64 (m.v 15), .int .i64 (m.v 16), .slice m.A m.n m.c, .int .i64 (m.v 18), .int .i64 (m.v 19), .int .i64 (m.v 20)]) := Lib.hid (own_range HWAY_1.out HM.out)
  obtain ⟨P8, hP8⟩ : ∃ x, x = w1.heap.size := ⟨_, rfl⟩
  have loP8 : lo ≤ P8 := (by have := ltb HPB_1.out; omega)
  have gP8 : g < P8 := (by have := (HWAY_1.out.lt g rfl).2; omega)
  have oP8_P6 : P6 < P8 := (by have := ltb HP6_1.out; omega)
  obtain ⟨w2, hw4⟩ : ∃ y, y = w1.alloc (.cells #[.int .i64 (m.v 0), .int .i64 (m.v 1), .int .i64 (m.v 2), .int .i64 (m.v 3), .int .i64 (m.v 4), .int .i64 (m.v 5), .int .i64 (m.v 6), .int .i64 (m.v 7), .int .i64 (m.v 8), .int .i64 (m.v 9), .int .i64 (m.v 10), .int .i64 (m.v 11), .int .i64 (m.v 12), .int .i64 (m.v 13), .int .i64 (m.v 14), .int .i64 (m.v 15), .int .i64 (m.v 16), .slice m.A m.n m.c, .int .i64 (m.v 18), .int .i64 (m.v 19), .int .i64 (m.v 20)] 36) := ⟨_, rfl⟩
  have hal : Below w1.heap.size w1 w2 := by rw [hw4]; exact (Below.refl _ _).alloc (Nat.le_refl _) _
  have hnew : w2.heap[P8]? = some (.cells (mcv m.v (.slice m.A m.n m.c)) 36 (0, 0)) := by rw [hw4, hP8]; exact heap_alloc_new _ _
  have HNWAY_P8 : Hid ((.slice ((some ⟨g, 0, none⟩)) n wc : Value).ownBlock ≠ some P8) := Lib.hid (fun e => by have := (HWAY_1.out.lt _ e).2; omega)
  have HPB_2 : Hid (w2.heap[P]? = some (.cells #[.int .i64 id, .pointer (some ⟨gc, 0, none⟩), .pointer (some ⟨gs, 0, none⟩), .int .i64 p.ep, .slice ((some ⟨g, 0, none⟩)) n wc, .slice bA p.book.length bc, .int .i64 p.told, .int .i64 t1, .int .i64 t2, .slice ((some ⟨H, 0, none⟩)) p.heard.length p.heard.length] 54 (0, 0))) := Lib.hid ((hal.block P (ltb HPB_1.out)).trans HPB_1.out)
  have HC_2 : Hid (CAt w2 gc p.s cA cc) := Lib.hid (HC_1.out.below hal)
  have HS_2 : Hid (SAt w2 gs p.ep M nn f) := Lib.hid (HS_1.out.below hal)
  have HWAY_2 : Hid (w2.ownsRow (H + 1) 36 21 (.slice ((some ⟨g, 0, none⟩)) n wc) n (mgs p.way)) := Lib.hid ((Chg.of_below (S := fun _ => False) hal).own HWAY_1.out (fun _ _ h => h))
  have HBOOK_2 : Hid (w2.ownsRow (H + 1) 3 1 (.slice bA p.book.length bc) p.book.length (ints p.book)) := Lib.hid ((Chg.of_below (S := fun _ => False) hal).own HBOOK_1.out (fun _ _ h => h))
  have HHD_2 : Hid (w2.heap[H]? = some (.cells (ints p.heard).toArray 3 (0, 0))) := Lib.hid ((hal.block H (ltb HHD_1.out)).trans HHD_1.out)
  have HB_2 : Hid (Chg (fun k => lo ≤ k) w0 w2) := Lib.hid (HB_1.out.trans (Chg.of_below hal))
  have HZ_2 : Hid (∀ (b : Nat) (cs : Array Value), w0.heap[b]? = some (Obj.cells cs 57 (0, 0)) → w2.heap[b]? = some (Obj.cells cs 57 (0, 0))) := Lib.hid (fun b cs h => (hal.block b (ltb (HZ_1.out b cs h))).trans (HZ_1.out b cs h))
  have HP6_2 : Hid (w2.heap[P6]? = some (.cells (mcv (fun _ => 0) (.slice none 0 0)) 36 (0, 0))) := Lib.hid ((hal.block P6 (ltb HP6_1.out)).trans HP6_1.out)
  clear hal HPB_1 HC_1 HS_1 HWAY_1 HBOOK_1 HHD_1 HB_1 HZ_1 HP6_1
  have HP8_2 := Lib.hid hnew
  clear hnew
  go_upto_region 3 with (first | (refine wpList_load_mid rfl 36 (.tmp 23) rfl g (k * 21) rfl [.int .i64 (m.v 0), .int .i64 (m.v 1), .int .i64 (m.v 2), .int .i64 (m.v 3), .int .i64 (m.v 4), .int .i64 (m.v 5), .int .i64 (m.v 6), .int .i64 (m.v 7), .int .i64 (m.v 8), .int .i64 (m.v 9), .int .i64 (m.v 10), .int .i64 (m.v 11), .int .i64 (m.v 12), .int .i64 (m.v 13), .int .i64 (m.v 14), .int .i64 (m.v 15), .int .i64 (m.v 16), .slice m.A m.n m.c, .int .i64 (m.v 18), .int .i64 (m.v 19), .int .i64 (m.v 20)] _ HRG.out Try.underlying36 rfl (by kernel_rfl) ?_) | (refine wpList_store_row rfl 36 (.tmp 8) (.tmp 24) rfl w1.heap.size _ rfl rfl 36 _ (heap_alloc_new w1 _) (by kernel_rfl) rfl (by simp [Value.oneCell']) ?_; rw [World.setRow_alloc_new]))
  clear cc2 cc3 HRG
  rw [← hw4]
  clear hw4
  rw [← hP8]
  clear hP8
  cases stays
  · skip
    obtain ⟨i36, hi, hz0, hz1, hz2⟩ := i36p
    have HREST_2 : Hid (w2.ownsRow (H + 1) 36 21 (.slice none 0 0) 0 []) := Lib.hid (World.ownsRow_nil _ _ _ _)
    have HNE8 : Hid ((Value.slice none 0 0).ownBlock ≠ some P8) := Lib.hid (by simp [Value.ownBlock])
    have HNE6 : Hid ((Value.slice none 0 0).ownBlock ≠ some P6) := Lib.hid (by simp [Value.ownBlock])
    have HNE : Hid (∀ k, (Value.slice (some ⟨g, 0, none⟩) n wc).ownBlock = some k → (Value.slice none 0 0).ownBlock ≠ some k) := Lib.hid (fun k _ => by simp [Value.ownBlock])
    have c4 : w2.cell? ⟨P, 4, none⟩ = some (.slice (some ⟨g, 0, none⟩) n wc) := cellb (i := 4) HPB_2.out rfl
    have HSRC := Lib.hid (by have h := own_cells HWAY_2.out 0 k HN.out (by omega) (by omega); simpa only [Nat.zero_mul, Nat.sub_zero] using h)
    have hbg := (HWAY_2.out.lt g rfl).2
    have hb6 := ltb HP6_2.out
    have hb8 := ltb HP8_2.out
    go_upto_region 7 with (at_builtin; refine wpList_append_row _ rfl (.tmp 27) (.tmp 33) _ rfl (H + 1) 36 i36 _ 21 184 Try.underlying52 hi hz0 hz1 hz2 rfl (by omega) none 0 0 [] rfl HREST_2.out _ _ _ _ _ rfl HSRC.out (mgs_one _) (by unfold maxLen; omega) (by omega) (by have := ltb HHD_2.out; omega) ?_; intro A1 c1 w3 hown hg hor)
    have hch := Ch.ofOwn HREST_2.out hg
    clear hg c4 HSRC
    have hlow := own_lowk HREST_2.out
    clear HREST_2
    have HPB_3 : Hid (w3.heap[P]? = some (.cells #[.int .i64 id, .pointer (some ⟨gc, 0, none⟩), .pointer (some ⟨gs, 0, none⟩), .int .i64 p.ep, .slice ((some ⟨g, 0, none⟩)) n wc, .slice bA p.book.length bc, .int .i64 p.told, .int .i64 t1, .int .i64 t2, .slice ((some ⟨H, 0, none⟩)) p.heard.length p.heard.length] 54 (0, 0))) := Lib.hid (hch.blk HPB_2.out (by show (54 + 1 : Nat) ≠ _; decide))
    have HC_3 : Hid (CAt w3 gc p.s cA cc) := Lib.hid (hch.cat HC_2.out (by decide) (by decide))
    have HS_3 : Hid (SAt w3 gs p.ep M nn f) := Lib.hid (hch.sat HS_2.out (by decide) (by decide))
    have HWAY_3 : Hid (w3.ownsRow (H + 1) 36 21 (.slice ((some ⟨g, 0, none⟩)) n wc) n (mgs p.way)) := Lib.hid (hch.chg.own HWAY_2.out (fun k hk e => HNE.out k hk e))
    have HBOOK_3 : Hid (w3.ownsRow (H + 1) 3 1 (.slice bA p.book.length bc) p.book.length (ints p.book)) := Lib.hid (hch.own HBOOK_2.out (by decide))
    have HHD_3 : Hid (w3.heap[H]? = some (.cells (ints p.heard).toArray 3 (0, 0))) := Lib.hid (hch.blk HHD_2.out (by show (3 + 1 : Nat) ≠ _; decide))
    have HB_3 : Hid (Chg (fun k => lo ≤ k) w0 w3) := Lib.hid (hch.low HB_2.out (fun k hk => by have := hlow k hk; omega))
    have HZ_3 : Hid (∀ (b : Nat) (cs : Array Value), w0.heap[b]? = some (Obj.cells cs 57 (0, 0)) → w3.heap[b]? = some (Obj.cells cs 57 (0, 0))) := Lib.hid (fun b cs h => hch.blk (HZ_2.out b cs h) (by show (57 + 1 : Nat) ≠ _; decide))
    have HP6_3 : Hid (w3.heap[P6]? = some (.cells (mcv (fun _ => 0) (.slice none 0 0)) 36 (0, 0))) := Lib.hid (hch.blkN HP6_2.out HNE6.out)
    have HP8_3 : Hid (w3.heap[P8]? = some (.cells (mcv m.v (.slice m.A m.n m.c)) 36 (0, 0))) := Lib.hid (hch.blkN HP8_2.out HNE8.out)
    clear hch HPB_2 HC_2 HS_2 HWAY_2 HBOOK_2 HHD_2 HB_2 HZ_2 HP6_2 HP8_2
    have HREST_3 : Hid (w3.ownsRow (H + 1) 36 21 (.slice A1 k c1) k (mgs ((p.way.drop 0).take k))) := Lib.hid (own_norm hown)
    clear hown hlow HNE HNE8 HNE6
    have hor' : ∀ j, j < w2.heap.size → (Value.slice A1 k c1).ownBlock ≠ some j := fun j hj => row_new rfl hor hj
    have HNE8 : Hid ((Value.slice A1 k c1).ownBlock ≠ some P8) := Lib.hid (hor' P8 hb8)
    have HNE6 : Hid ((Value.slice A1 k c1).ownBlock ≠ some P6) := Lib.hid (hor' P6 hb6)
    have HNE : Hid (∀ j, (Value.slice (some ⟨g, 0, none⟩) n wc).ownBlock = some j → (Value.slice A1 k c1).ownBlock ≠ some j) := Lib.hid (fun j hj => by have hj : g = j := (by injection hj); subst hj; exact hor' g hbg)
    clear hor'
    clear hor hbg hb6 hb8
    have q6 : IntKind.i64.wrap ((k : Int) + 1) = (k : Int) + 1 := IntWalk.i64_in _ (by omega)
    have q7 : (0 : Int) ≤ (k : Int) + 1 := by omega
    have q8 : (k : Int) + 1 ≤ (n : Int) := by omega
    have q9 : ((k : Int) + 1).toNat = k + 1 := by omega
    by_cases hw : wc = k + 1
    · skip
      have qn : n = k + 1 := by omega
      have c4 : w3.cell? ⟨P, 4, none⟩ = some (.slice (some ⟨g, 0, none⟩) n wc) := cellb (i := 4) HPB_3.out rfl
      have HSRC := Lib.hid ((⟨rfl, .inl rfl⟩ : CellsIn w3 w3.heap.size 21 (some ⟨g, 0, none⟩) 0 (mgs [])))
      have hbg := (HWAY_3.out.lt g rfl).2
      have hb6 := ltb HP6_3.out
      have hb8 := ltb HP8_3.out
      go_upto_region 8 with (at_builtin; refine wpList_append_row _ rfl (.tmp 35) (.tmp 42) _ rfl (H + 1) 36 i36 _ 21 184 Try.underlying52 hi hz0 hz1 hz2 rfl (by omega) A1 k c1 (mgs ((p.way.drop 0).take k)) rfl HREST_3.out _ _ _ _ _ rfl HSRC.out (mgs_one _) (by unfold maxLen; omega) (by omega) (by have := ltb HHD_3.out; omega) ?_; intro A2 c2 w4 hown hg hor)
      have hch := Ch.ofOwn HREST_3.out hg
      clear hg c4 HSRC
      have hlow := own_lowk HREST_3.out
      clear HREST_3
      have K6 := HNE6
      have K8 := HNE8
      have HPB_4 : Hid (w4.heap[P]? = some (.cells #[.int .i64 id, .pointer (some ⟨gc, 0, none⟩), .pointer (some ⟨gs, 0, none⟩), .int .i64 p.ep, .slice ((some ⟨g, 0, none⟩)) n wc, .slice bA p.book.length bc, .int .i64 p.told, .int .i64 t1, .int .i64 t2, .slice ((some ⟨H, 0, none⟩)) p.heard.length p.heard.length] 54 (0, 0))) := Lib.hid (hch.blk HPB_3.out (by show (54 + 1 : Nat) ≠ _; decide))
      have HC_4 : Hid (CAt w4 gc p.s cA cc) := Lib.hid (hch.cat HC_3.out (by decide) (by decide))
      have HS_4 : Hid (SAt w4 gs p.ep M nn f) := Lib.hid (hch.sat HS_3.out (by decide) (by decide))
      have HWAY_4 : Hid (w4.ownsRow (H + 1) 36 21 (.slice ((some ⟨g, 0, none⟩)) n wc) n (mgs p.way)) := Lib.hid (hch.chg.own HWAY_3.out (fun k hk e => HNE.out k hk e))
      have HBOOK_4 : Hid (w4.ownsRow (H + 1) 3 1 (.slice bA p.book.length bc) p.book.length (ints p.book)) := Lib.hid (hch.own HBOOK_3.out (by decide))
      have HHD_4 : Hid (w4.heap[H]? = some (.cells (ints p.heard).toArray 3 (0, 0))) := Lib.hid (hch.blk HHD_3.out (by show (3 + 1 : Nat) ≠ _; decide))
      have HB_4 : Hid (Chg (fun k => lo ≤ k) w0 w4) := Lib.hid (hch.low HB_3.out (fun k hk => by have := hlow k hk; omega))
      have HZ_4 : Hid (∀ (b : Nat) (cs : Array Value), w0.heap[b]? = some (Obj.cells cs 57 (0, 0)) → w4.heap[b]? = some (Obj.cells cs 57 (0, 0))) := Lib.hid (fun b cs h => hch.blk (HZ_3.out b cs h) (by show (57 + 1 : Nat) ≠ _; decide))
      have HP6_4 : Hid (w4.heap[P6]? = some (.cells (mcv (fun _ => 0) (.slice none 0 0)) 36 (0, 0))) := Lib.hid (hch.blkN HP6_3.out HNE6.out)
      have HP8_4 : Hid (w4.heap[P8]? = some (.cells (mcv m.v (.slice m.A m.n m.c)) 36 (0, 0))) := Lib.hid (hch.blkN HP8_3.out HNE8.out)
      clear hch HPB_3 HC_3 HS_3 HWAY_3 HBOOK_3 HHD_3 HB_3 HZ_3 HP6_3 HP8_3
      have HREST_4 : Hid (w4.ownsRow (H + 1) 36 21 (.slice A2 k c2) k (mgs ((p.way.drop 0).take k))) := Lib.hid (by simpa [mgs] using hown)
      clear hown hlow HNE HNE8 HNE6
      have HNR6 := Lib.hid (row_new2 (n' := k) (c' := c2) K6.out hor hb6)
      have HNR8 := Lib.hid (row_new2 (n' := k) (c' := c2) K8.out hor hb8)
      clear K6 K8
      clear hor hbg hb6 hb8
      have cc5 : w4.cell? ⟨P, 4, none⟩ = some (.slice ((some ⟨g, 0, none⟩)) n wc) := cellb (i := 4) HPB_4.out rfl
      have fz6 : w4.frozen? ⟨P, 4, none⟩ = false := fzb HPB_4.out 4
      obtain ⟨w5, hw7⟩ : ∃ y, y = w4.setCell ⟨P, 4, none⟩ (.slice A2 k c2) := ⟨_, rfl⟩
      have hch := Ch.ofCell (i := 4) HPB_4.out (.slice A2 k c2)
      rw [← hw7] at hch
      have hnew : w5.heap[P]? = some (.cells #[.int .i64 id, .pointer (some ⟨gc, 0, none⟩), .pointer (some ⟨gs, 0, none⟩), .int .i64 p.ep, .slice A2 k c2, .slice bA p.book.length bc, .int .i64 p.told, .int .i64 t1, .int .i64 t2, .slice ((some ⟨H, 0, none⟩)) p.heard.length p.heard.length] 54 (0, 0)) := by rw [hw7]; exact set_blk HPB_4.out _
      have HC_5 : Hid (CAt w5 gc p.s cA cc) := Lib.hid (hch.cat HC_4.out (by decide) (by decide))
      have HS_5 : Hid (SAt w5 gs p.ep M nn f) := Lib.hid (hch.sat HS_4.out (by decide) (by decide))
      have HWAY_5 : Hid (w5.ownsRow (H + 1) 36 21 (.slice ((some ⟨g, 0, none⟩)) n wc) n (mgs p.way)) := Lib.hid (hch.own HWAY_4.out (by decide))
      have HBOOK_5 : Hid (w5.ownsRow (H + 1) 3 1 (.slice bA p.book.length bc) p.book.length (ints p.book)) := Lib.hid (hch.own HBOOK_4.out (by decide))
      have HHD_5 : Hid (w5.heap[H]? = some (.cells (ints p.heard).toArray 3 (0, 0))) := Lib.hid (hch.blk HHD_4.out (by show (3 + 1 : Nat) ≠ _; decide))
      have HB_5 : Hid (Chg (fun k => lo ≤ k) w0 w5) := Lib.hid (hch.low HB_4.out (fun k hk => by injection hk with hk; omega))
      have HZ_5 : Hid (∀ (b : Nat) (cs : Array Value), w0.heap[b]? = some (Obj.cells cs 57 (0, 0)) → w5.heap[b]? = some (Obj.cells cs 57 (0, 0))) := Lib.hid (fun b cs h => hch.blk (HZ_4.out b cs h) (by show (57 + 1 : Nat) ≠ _; decide))
      have HP6_5 : Hid (w5.heap[P6]? = some (.cells (mcv (fun _ => 0) (.slice none 0 0)) 36 (0, 0))) := Lib.hid (hch.blk HP6_4.out (by show (36 + 1 : Nat) ≠ _; decide))
      have HP8_5 : Hid (w5.heap[P8]? = some (.cells (mcv m.v (.slice m.A m.n m.c)) 36 (0, 0))) := Lib.hid (hch.blk HP8_4.out (by show (36 + 1 : Nat) ≠ _; decide))
      have HREST_5 : Hid (w5.ownsRow (H + 1) 36 21 (.slice A2 k c2) k (mgs ((p.way.drop 0).take k))) := Lib.hid (hch.own HREST_4.out (by decide))
      clear hch HC_4 HS_4 HWAY_4 HBOOK_4 HHD_4 HB_4 HZ_4 HP6_4 HP8_4 HREST_4
      have HPB_5 := Lib.hid hnew
      clear hnew HPB_4
      go_upto_region 9 with fail
      clear cc5 fz6
      rw [← hw7]
      clear hw7
      have HST := HP6_5
      have K8 := HP8_5
      obtain ⟨w6, hw9⟩ : ∃ y, y = w5.setRow P6 #[.int .i64 (m.v 0), .int .i64 (m.v 1), .int .i64 (m.v 2), .int .i64 (m.v 3), .int .i64 (m.v 4), .int .i64 (m.v 5), .int .i64 (m.v 6), .int .i64 (m.v 7), .int .i64 (m.v 8), .int .i64 (m.v 9), .int .i64 (m.v 10), .int .i64 (m.v 11), .int .i64 (m.v 12), .int .i64 (m.v 13), .int .i64 (m.v 14), .int .i64 (m.v 15), .int .i64 (m.v 16), .slice m.A m.n m.c, .int .i64 (m.v 18), .int .i64 (m.v 19), .int .i64 (m.v 20)] := ⟨_, rfl⟩
      have hch := Ch.ofRow HP6_5.out #[.int .i64 (m.v 0), .int .i64 (m.v 1), .int .i64 (m.v 2), .int .i64 (m.v 3), .int .i64 (m.v 4), .int .i64 (m.v 5), .int .i64 (m.v 6), .int .i64 (m.v 7), .int .i64 (m.v 8), .int .i64 (m.v 9), .int .i64 (m.v 10), .int .i64 (m.v 11), .int .i64 (m.v 12), .int .i64 (m.v 13), .int .i64 (m.v 14), .int .i64 (m.v 15), .int .i64 (m.v 16), .slice m.A m.n m.c, .int .i64 (m.v 18), .int .i64 (m.v 19), .int .i64 (m.v 20)]
      rw [← hw9] at hch
      have hnew : w6.heap[P6]? = some (.cells (mcv m.v (.slice m.A m.n m.c)) 36 (0, 0)) := by rw [hw9]; exact setRow_heap _ _ _ _ _ _ HP6_5.out
      have HC_6 : Hid (CAt w6 gc p.s cA cc) := Lib.hid (hch.cat HC_5.out (by decide) (by decide))
      have HS_6 : Hid (SAt w6 gs p.ep M nn f) := Lib.hid (hch.sat HS_5.out (by decide) (by decide))
      have HWAY_6 : Hid (w6.ownsRow (H + 1) 36 21 (.slice ((some ⟨g, 0, none⟩)) n wc) n (mgs p.way)) := Lib.hid (hch.chg.own HWAY_5.out (fun k hk e => HNWAY_P6.out (hk.trans e.symm)))
      have HBOOK_6 : Hid (w6.ownsRow (H + 1) 3 1 (.slice bA p.book.length bc) p.book.length (ints p.book)) := Lib.hid (hch.own HBOOK_5.out (by decide))
      have HHD_6 : Hid (w6.heap[H]? = some (.cells (ints p.heard).toArray 3 (0, 0))) := Lib.hid (hch.blk HHD_5.out (by show (3 + 1 : Nat) ≠ _; decide))
      have HB_6 : Hid (Chg (fun k => lo ≤ k) w0 w6) := Lib.hid (hch.low HB_5.out (fun k hk => by injection hk with hk; omega))
      have HZ_6 : Hid (∀ (b : Nat) (cs : Array Value), w0.heap[b]? = some (Obj.cells cs 57 (0, 0)) → w6.heap[b]? = some (Obj.cells cs 57 (0, 0))) := Lib.hid (fun b cs h => hch.blk (HZ_5.out b cs h) (by show (57 + 1 : Nat) ≠ _; decide))
      have HP8_6 : Hid (w6.heap[P8]? = some (.cells (mcv m.v (.slice m.A m.n m.c)) 36 (0, 0))) := Lib.hid (hch.blkN HP8_5.out (by intro e; injection e with e; omega))
      have HREST_6 : Hid (w6.ownsRow (H + 1) 36 21 (.slice A2 k c2) k (mgs ((p.way.drop 0).take k))) := Lib.hid (hch.chg.own HREST_5.out (fun k hk e => HNR6.out (hk.trans e.symm)))
      have HPB_6 : Hid (w6.heap[P]? = some (.cells #[.int .i64 id, .pointer (some ⟨gc, 0, none⟩), .pointer (some ⟨gs, 0, none⟩), .int .i64 p.ep, .slice A2 k c2, .slice bA p.book.length bc, .int .i64 p.told, .int .i64 t1, .int .i64 t2, .slice ((some ⟨H, 0, none⟩)) p.heard.length p.heard.length] 54 (0, 0))) := Lib.hid (hch.blk HPB_5.out (by show (54 + 1 : Nat) ≠ _; decide))
      clear hch HC_5 HS_5 HWAY_5 HBOOK_5 HHD_5 HB_5 HZ_5 HP8_5 HREST_5 HPB_5
      have HP6_6 := Lib.hid hnew
      clear hnew HP6_5
      go_wp2_with (first | (refine wpList_load_row rfl 36 (.tmp 8) rfl P8 rfl 36 #[.int .i64 (m.v 0), .int .i64 (m.v 1), .int .i64 (m.v 2), .int .i64 (m.v 3), .int .i64 (m.v 4), .int .i64 (m.v 5), .int .i64 (m.v 6), .int .i64 (m.v 7), .int .i64 (m.v 8), .int .i64 (m.v 9), .int .i64 (m.v 10), .int .i64 (m.v 11), .int .i64 (m.v 12), .int .i64 (m.v 13), .int .i64 (m.v 14), .int .i64 (m.v 15), .int .i64 (m.v 16), .slice m.A m.n m.c, .int .i64 (m.v 18), .int .i64 (m.v 19), .int .i64 (m.v 20)] (0, 0) _ K8.out Try.underlying36 rfl (by kernel_rfl) ?_) | (refine wpList_store_row rfl 36 (.tmp 6) (.tmp 48) rfl P6 _ rfl rfl 36 _ HST.out (by kernel_rfl) rfl (by simp [Value.oneCell']) ?_))
      clear K8 HST
      rw [← hw9]
      clear hw9
      go_wp2_with fail
      refine bodyPost_ret (v := .agg #[.int .i64 (m.v 0), .int .i64 (m.v 1), .int .i64 (m.v 2), .int .i64 (m.v 3), .int .i64 (m.v 4), .int .i64 (m.v 5), .int .i64 (m.v 6), .int .i64 (m.v 7), .int .i64 (m.v 8), .int .i64 (m.v 9), .int .i64 (m.v 10), .int .i64 (m.v 11), .int .i64 (m.v 12), .int .i64 (m.v 13), .int .i64 (m.v 14), .int .i64 (m.v 15), .int .i64 (m.v 16), .slice m.A m.n m.c, .int .i64 (m.v 18), .int .i64 (m.v 19), .int .i64 (m.v 20)]) (results_one Try.results29 _ _ P6 _ rfl HP6_6.out rfl) rfl ?_
      have hn := HN.out
      have e : ((p.way.drop 0).take k).length = k := by simp ; omega
      have hP : w6.heap[P]? = some (.cells #[.int .i64 id, .pointer (some ⟨gc, 0, none⟩), .pointer (some ⟨gs, 0, none⟩), .int .i64 p.ep, .slice A2 (((p.way.drop 0).take k).length) c2, .slice bA p.book.length bc, .int .i64 p.told, .int .i64 t1, .int .i64 t2, .slice ((some ⟨H, 0, none⟩)) p.heard.length p.heard.length] 54 (0, 0)) := by rw [e]; exact HPB_6.out
      have hR : w6.ownsRow (H + 1) 36 21 (.slice A2 ((p.way.drop 0).take k).length c2) ((p.way.drop 0).take k).length (mgs ((p.way.drop 0).take k)) := by rw [e]; exact HREST_6.out
      refine ⟨m, ⟨gc, gs, H, M, nn, A2, c2, bA, bc, cA, cc, t1, t2⟩, (p.way.drop 0).take k, rfl, ⟨hP, HC_6.out, HS_6.out, hR, HBOOK_6.out, HHD_6.out, HKF.out, l1, l2, l3, l4⟩, List.mem_of_getElem? HM.out, fun y hy => by have h := List.mem_of_mem_take hy; simpa using h, by rw [e]; omega, rfl, HZ_6.out, HB_6.out⟩
    · skip
      have c4 : w3.cell? ⟨P, 4, none⟩ = some (.slice (some ⟨g, 0, none⟩) n wc) := cellb (i := 4) HPB_3.out rfl
      have HSRC := Lib.hid (own_cells HWAY_3.out (k + 1) n HN.out (by omega) (by omega))
      have hbg := (HWAY_3.out.lt g rfl).2
      have hb6 := ltb HP6_3.out
      have hb8 := ltb HP8_3.out
      go_upto_region 8 with (at_builtin; refine wpList_append_row _ rfl (.tmp 35) (.tmp 42) _ rfl (H + 1) 36 i36 _ 21 184 Try.underlying52 hi hz0 hz1 hz2 rfl (by omega) A1 k c1 (mgs ((p.way.drop 0).take k)) rfl HREST_3.out _ _ _ _ _ rfl HSRC.out (mgs_one _) (by unfold maxLen; omega) (by omega) (by have := ltb HHD_3.out; omega) ?_; intro A2 c2 w4 hown hg hor)
      have hch := Ch.ofOwn HREST_3.out hg
      clear hg c4 HSRC
      have hlow := own_lowk HREST_3.out
      clear HREST_3
      have K6 := HNE6
      have K8 := HNE8
      have HPB_4 : Hid (w4.heap[P]? = some (.cells #[.int .i64 id, .pointer (some ⟨gc, 0, none⟩), .pointer (some ⟨gs, 0, none⟩), .int .i64 p.ep, .slice ((some ⟨g, 0, none⟩)) n wc, .slice bA p.book.length bc, .int .i64 p.told, .int .i64 t1, .int .i64 t2, .slice ((some ⟨H, 0, none⟩)) p.heard.length p.heard.length] 54 (0, 0))) := Lib.hid (hch.blk HPB_3.out (by show (54 + 1 : Nat) ≠ _; decide))
      have HC_4 : Hid (CAt w4 gc p.s cA cc) := Lib.hid (hch.cat HC_3.out (by decide) (by decide))
      have HS_4 : Hid (SAt w4 gs p.ep M nn f) := Lib.hid (hch.sat HS_3.out (by decide) (by decide))
      have HWAY_4 : Hid (w4.ownsRow (H + 1) 36 21 (.slice ((some ⟨g, 0, none⟩)) n wc) n (mgs p.way)) := Lib.hid (hch.chg.own HWAY_3.out (fun k hk e => HNE.out k hk e))
      have HBOOK_4 : Hid (w4.ownsRow (H + 1) 3 1 (.slice bA p.book.length bc) p.book.length (ints p.book)) := Lib.hid (hch.own HBOOK_3.out (by decide))
      have HHD_4 : Hid (w4.heap[H]? = some (.cells (ints p.heard).toArray 3 (0, 0))) := Lib.hid (hch.blk HHD_3.out (by show (3 + 1 : Nat) ≠ _; decide))
      have HB_4 : Hid (Chg (fun k => lo ≤ k) w0 w4) := Lib.hid (hch.low HB_3.out (fun k hk => by have := hlow k hk; omega))
      have HZ_4 : Hid (∀ (b : Nat) (cs : Array Value), w0.heap[b]? = some (Obj.cells cs 57 (0, 0)) → w4.heap[b]? = some (Obj.cells cs 57 (0, 0))) := Lib.hid (fun b cs h => hch.blk (HZ_3.out b cs h) (by show (57 + 1 : Nat) ≠ _; decide))
      have HP6_4 : Hid (w4.heap[P6]? = some (.cells (mcv (fun _ => 0) (.slice none 0 0)) 36 (0, 0))) := Lib.hid (hch.blkN HP6_3.out HNE6.out)
      have HP8_4 : Hid (w4.heap[P8]? = some (.cells (mcv m.v (.slice m.A m.n m.c)) 36 (0, 0))) := Lib.hid (hch.blkN HP8_3.out HNE8.out)
      clear hch HPB_3 HC_3 HS_3 HWAY_3 HBOOK_3 HHD_3 HB_3 HZ_3 HP6_3 HP8_3
      have HREST_4 : Hid (w4.ownsRow (H + 1) 36 21 (.slice A2 ((k + (n - (k + 1)))) c2) (k + (n - (k + 1))) ((mgs ((p.way.drop 0).take k)) ++ (mgs ((p.way.drop (k + 1)).take (n - (k + 1)))))) := Lib.hid hown
      clear hown hlow HNE HNE8 HNE6
      have HNR6 := Lib.hid (row_new2 (n' := (k + (n - (k + 1)))) (c' := c2) K6.out hor hb6)
      have HNR8 := Lib.hid (row_new2 (n' := (k + (n - (k + 1)))) (c' := c2) K8.out hor hb8)
      clear K6 K8
      clear hor hbg hb6 hb8
      have cc10 : w4.cell? ⟨P, 4, none⟩ = some (.slice ((some ⟨g, 0, none⟩)) n wc) := cellb (i := 4) HPB_4.out rfl
      have fz11 : w4.frozen? ⟨P, 4, none⟩ = false := fzb HPB_4.out 4
      obtain ⟨w5, hw12⟩ : ∃ y, y = w4.setCell ⟨P, 4, none⟩ (.slice A2 ((k + (n - (k + 1)))) c2) := ⟨_, rfl⟩
      have hch := Ch.ofCell (i := 4) HPB_4.out (.slice A2 ((k + (n - (k + 1)))) c2)
      rw [← hw12] at hch
      have hnew : w5.heap[P]? = some (.cells #[.int .i64 id, .pointer (some ⟨gc, 0, none⟩), .pointer (some ⟨gs, 0, none⟩), .int .i64 p.ep, .slice A2 ((k + (n - (k + 1)))) c2, .slice bA p.book.length bc, .int .i64 p.told, .int .i64 t1, .int .i64 t2, .slice ((some ⟨H, 0, none⟩)) p.heard.length p.heard.length] 54 (0, 0)) := by rw [hw12]; exact set_blk HPB_4.out _
      have HC_5 : Hid (CAt w5 gc p.s cA cc) := Lib.hid (hch.cat HC_4.out (by decide) (by decide))
      have HS_5 : Hid (SAt w5 gs p.ep M nn f) := Lib.hid (hch.sat HS_4.out (by decide) (by decide))
      have HWAY_5 : Hid (w5.ownsRow (H + 1) 36 21 (.slice ((some ⟨g, 0, none⟩)) n wc) n (mgs p.way)) := Lib.hid (hch.own HWAY_4.out (by decide))
      have HBOOK_5 : Hid (w5.ownsRow (H + 1) 3 1 (.slice bA p.book.length bc) p.book.length (ints p.book)) := Lib.hid (hch.own HBOOK_4.out (by decide))
      have HHD_5 : Hid (w5.heap[H]? = some (.cells (ints p.heard).toArray 3 (0, 0))) := Lib.hid (hch.blk HHD_4.out (by show (3 + 1 : Nat) ≠ _; decide))
      have HB_5 : Hid (Chg (fun k => lo ≤ k) w0 w5) := Lib.hid (hch.low HB_4.out (fun k hk => by injection hk with hk; omega))
      have HZ_5 : Hid (∀ (b : Nat) (cs : Array Value), w0.heap[b]? = some (Obj.cells cs 57 (0, 0)) → w5.heap[b]? = some (Obj.cells cs 57 (0, 0))) := Lib.hid (fun b cs h => hch.blk (HZ_4.out b cs h) (by show (57 + 1 : Nat) ≠ _; decide))
      have HP6_5 : Hid (w5.heap[P6]? = some (.cells (mcv (fun _ => 0) (.slice none 0 0)) 36 (0, 0))) := Lib.hid (hch.blk HP6_4.out (by show (36 + 1 : Nat) ≠ _; decide))
      have HP8_5 : Hid (w5.heap[P8]? = some (.cells (mcv m.v (.slice m.A m.n m.c)) 36 (0, 0))) := Lib.hid (hch.blk HP8_4.out (by show (36 + 1 : Nat) ≠ _; decide))
      have HREST_5 : Hid (w5.ownsRow (H + 1) 36 21 (.slice A2 ((k + (n - (k + 1)))) c2) (k + (n - (k + 1))) ((mgs ((p.way.drop 0).take k)) ++ (mgs ((p.way.drop (k + 1)).take (n - (k + 1)))))) := Lib.hid (hch.own HREST_4.out (by decide))
      clear hch HC_4 HS_4 HWAY_4 HBOOK_4 HHD_4 HB_4 HZ_4 HP6_4 HP8_4 HREST_4
      have HPB_5 := Lib.hid hnew
      clear hnew HPB_4
      go_upto_region 9 with fail
      clear cc10 fz11
      rw [← hw12]
      clear hw12
      have HST := HP6_5
      have K13 := HP8_5
      obtain ⟨w6, hw14⟩ : ∃ y, y = w5.setRow P6 #[.int .i64 (m.v 0), .int .i64 (m.v 1), .int .i64 (m.v 2), .int .i64 (m.v 3), .int .i64 (m.v 4), .int .i64 (m.v 5), .int .i64 (m.v 6), .int .i64 (m.v 7), .int .i64 (m.v 8), .int .i64 (m.v 9), .int .i64 (m.v 10), .int .i64 (m.v 11), .int .i64 (m.v 12), .int .i64 (m.v 13), .int .i64 (m.v 14), .int .i64 (m.v 15), .int .i64 (m.v 16), .slice m.A m.n m.c, .int .i64 (m.v 18), .int .i64 (m.v 19), .int .i64 (m.v 20)] := ⟨_, rfl⟩
      have hch := Ch.ofRow HP6_5.out #[.int .i64 (m.v 0), .int .i64 (m.v 1), .int .i64 (m.v 2), .int .i64 (m.v 3), .int .i64 (m.v 4), .int .i64 (m.v 5), .int .i64 (m.v 6), .int .i64 (m.v 7), .int .i64 (m.v 8), .int .i64 (m.v 9), .int .i64 (m.v 10), .int .i64 (m.v 11), .int .i64 (m.v 12), .int .i64 (m.v 13), .int .i64 (m.v 14), .int .i64 (m.v 15), .int .i64 (m.v 16), .slice m.A m.n m.c, .int .i64 (m.v 18), .int .i64 (m.v 19), .int .i64 (m.v 20)]
      rw [← hw14] at hch
      have hnew : w6.heap[P6]? = some (.cells (mcv m.v (.slice m.A m.n m.c)) 36 (0, 0)) := by rw [hw14]; exact setRow_heap _ _ _ _ _ _ HP6_5.out
      have HC_6 : Hid (CAt w6 gc p.s cA cc) := Lib.hid (hch.cat HC_5.out (by decide) (by decide))
      have HS_6 : Hid (SAt w6 gs p.ep M nn f) := Lib.hid (hch.sat HS_5.out (by decide) (by decide))
      have HWAY_6 : Hid (w6.ownsRow (H + 1) 36 21 (.slice ((some ⟨g, 0, none⟩)) n wc) n (mgs p.way)) := Lib.hid (hch.chg.own HWAY_5.out (fun k hk e => HNWAY_P6.out (hk.trans e.symm)))
      have HBOOK_6 : Hid (w6.ownsRow (H + 1) 3 1 (.slice bA p.book.length bc) p.book.length (ints p.book)) := Lib.hid (hch.own HBOOK_5.out (by decide))
      have HHD_6 : Hid (w6.heap[H]? = some (.cells (ints p.heard).toArray 3 (0, 0))) := Lib.hid (hch.blk HHD_5.out (by show (3 + 1 : Nat) ≠ _; decide))
      have HB_6 : Hid (Chg (fun k => lo ≤ k) w0 w6) := Lib.hid (hch.low HB_5.out (fun k hk => by injection hk with hk; omega))
      have HZ_6 : Hid (∀ (b : Nat) (cs : Array Value), w0.heap[b]? = some (Obj.cells cs 57 (0, 0)) → w6.heap[b]? = some (Obj.cells cs 57 (0, 0))) := Lib.hid (fun b cs h => hch.blk (HZ_5.out b cs h) (by show (57 + 1 : Nat) ≠ _; decide))
      have HP8_6 : Hid (w6.heap[P8]? = some (.cells (mcv m.v (.slice m.A m.n m.c)) 36 (0, 0))) := Lib.hid (hch.blkN HP8_5.out (by intro e; injection e with e; omega))
      have HREST_6 : Hid (w6.ownsRow (H + 1) 36 21 (.slice A2 ((k + (n - (k + 1)))) c2) (k + (n - (k + 1))) ((mgs ((p.way.drop 0).take k)) ++ (mgs ((p.way.drop (k + 1)).take (n - (k + 1)))))) := Lib.hid (hch.chg.own HREST_5.out (fun k hk e => HNR6.out (hk.trans e.symm)))
      have HPB_6 : Hid (w6.heap[P]? = some (.cells #[.int .i64 id, .pointer (some ⟨gc, 0, none⟩), .pointer (some ⟨gs, 0, none⟩), .int .i64 p.ep, .slice A2 ((k + (n - (k + 1)))) c2, .slice bA p.book.length bc, .int .i64 p.told, .int .i64 t1, .int .i64 t2, .slice ((some ⟨H, 0, none⟩)) p.heard.length p.heard.length] 54 (0, 0))) := Lib.hid (hch.blk HPB_5.out (by show (54 + 1 : Nat) ≠ _; decide))
      clear hch HC_5 HS_5 HWAY_5 HBOOK_5 HHD_5 HB_5 HZ_5 HP8_5 HREST_5 HPB_5
      have HP6_6 := Lib.hid hnew
      clear hnew HP6_5
      go_wp2_with (first | (refine wpList_load_row rfl 36 (.tmp 8) rfl P8 rfl 36 #[.int .i64 (m.v 0), .int .i64 (m.v 1), .int .i64 (m.v 2), .int .i64 (m.v 3), .int .i64 (m.v 4), .int .i64 (m.v 5), .int .i64 (m.v 6), .int .i64 (m.v 7), .int .i64 (m.v 8), .int .i64 (m.v 9), .int .i64 (m.v 10), .int .i64 (m.v 11), .int .i64 (m.v 12), .int .i64 (m.v 13), .int .i64 (m.v 14), .int .i64 (m.v 15), .int .i64 (m.v 16), .slice m.A m.n m.c, .int .i64 (m.v 18), .int .i64 (m.v 19), .int .i64 (m.v 20)] (0, 0) _ K13.out Try.underlying36 rfl (by kernel_rfl) ?_) | (refine wpList_store_row rfl 36 (.tmp 6) (.tmp 48) rfl P6 _ rfl rfl 36 _ HST.out (by kernel_rfl) rfl (by simp [Value.oneCell']) ?_))
      clear K13 HST
      rw [← hw14]
      clear hw14
      go_wp2_with fail
      refine bodyPost_ret (v := .agg #[.int .i64 (m.v 0), .int .i64 (m.v 1), .int .i64 (m.v 2), .int .i64 (m.v 3), .int .i64 (m.v 4), .int .i64 (m.v 5), .int .i64 (m.v 6), .int .i64 (m.v 7), .int .i64 (m.v 8), .int .i64 (m.v 9), .int .i64 (m.v 10), .int .i64 (m.v 11), .int .i64 (m.v 12), .int .i64 (m.v 13), .int .i64 (m.v 14), .int .i64 (m.v 15), .int .i64 (m.v 16), .slice m.A m.n m.c, .int .i64 (m.v 18), .int .i64 (m.v 19), .int .i64 (m.v 20)]) (results_one Try.results29 _ _ P6 _ rfl HP6_6.out rfl) rfl ?_
      have hn := HN.out
      have e : ((p.way.drop 0).take k ++ (p.way.drop (k + 1)).take (n - (k + 1))).length = k + (n - (k + 1)) := by simp ; omega
      have hP : w6.heap[P]? = some (.cells #[.int .i64 id, .pointer (some ⟨gc, 0, none⟩), .pointer (some ⟨gs, 0, none⟩), .int .i64 p.ep, .slice A2 (((p.way.drop 0).take k ++ (p.way.drop (k + 1)).take (n - (k + 1))).length) c2, .slice bA p.book.length bc, .int .i64 p.told, .int .i64 t1, .int .i64 t2, .slice ((some ⟨H, 0, none⟩)) p.heard.length p.heard.length] 54 (0, 0)) := by rw [e]; exact HPB_6.out
      have hR : w6.ownsRow (H + 1) 36 21 (.slice A2 ((p.way.drop 0).take k ++ (p.way.drop (k + 1)).take (n - (k + 1))).length c2) ((p.way.drop 0).take k ++ (p.way.drop (k + 1)).take (n - (k + 1))).length (mgs ((p.way.drop 0).take k ++ (p.way.drop (k + 1)).take (n - (k + 1)))) := by rw [e, mgs_append]; exact HREST_6.out
      refine ⟨m, ⟨gc, gs, H, M, nn, A2, c2, bA, bc, cA, cc, t1, t2⟩, (p.way.drop 0).take k ++ (p.way.drop (k + 1)).take (n - (k + 1)), rfl, ⟨hP, HC_6.out, HS_6.out, hR, HBOOK_6.out, HHD_6.out, HKF.out, l1, l2, l3, l4⟩, List.mem_of_getElem? HM.out, fun y hy => by
        rcases List.mem_append.1 hy with h | h
        · have h := List.mem_of_mem_take h; simpa using h
        · exact List.mem_of_mem_drop (List.mem_of_mem_take h), by rw [e]; omega, rfl, HZ_6.out, HB_6.out⟩
  · skip
    have HST := HP6_2
    have K15 := HP8_2
    obtain ⟨w3, hw16⟩ : ∃ y, y = w2.setRow P6 #[.int .i64 (m.v 0), .int .i64 (m.v 1), .int .i64 (m.v 2), .int .i64 (m.v 3), .int .i64 (m.v 4), .int .i64 (m.v 5), .int .i64 (m.v 6), .int .i64 (m.v 7), .int .i64 (m.v 8), .int .i64 (m.v 9), .int .i64 (m.v 10), .int .i64 (m.v 11), .int .i64 (m.v 12), .int .i64 (m.v 13), .int .i64 (m.v 14), .int .i64 (m.v 15), .int .i64 (m.v 16), .slice m.A m.n m.c, .int .i64 (m.v 18), .int .i64 (m.v 19), .int .i64 (m.v 20)] := ⟨_, rfl⟩
    have hch := Ch.ofRow HP6_2.out #[.int .i64 (m.v 0), .int .i64 (m.v 1), .int .i64 (m.v 2), .int .i64 (m.v 3), .int .i64 (m.v 4), .int .i64 (m.v 5), .int .i64 (m.v 6), .int .i64 (m.v 7), .int .i64 (m.v 8), .int .i64 (m.v 9), .int .i64 (m.v 10), .int .i64 (m.v 11), .int .i64 (m.v 12), .int .i64 (m.v 13), .int .i64 (m.v 14), .int .i64 (m.v 15), .int .i64 (m.v 16), .slice m.A m.n m.c, .int .i64 (m.v 18), .int .i64 (m.v 19), .int .i64 (m.v 20)]
    rw [← hw16] at hch
    have hnew : w3.heap[P6]? = some (.cells (mcv m.v (.slice m.A m.n m.c)) 36 (0, 0)) := by rw [hw16]; exact setRow_heap _ _ _ _ _ _ HP6_2.out
    have HPB_3 : Hid (w3.heap[P]? = some (.cells #[.int .i64 id, .pointer (some ⟨gc, 0, none⟩), .pointer (some ⟨gs, 0, none⟩), .int .i64 p.ep, .slice ((some ⟨g, 0, none⟩)) n wc, .slice bA p.book.length bc, .int .i64 p.told, .int .i64 t1, .int .i64 t2, .slice ((some ⟨H, 0, none⟩)) p.heard.length p.heard.length] 54 (0, 0))) := Lib.hid (hch.blk HPB_2.out (by show (54 + 1 : Nat) ≠ _; decide))
    have HC_3 : Hid (CAt w3 gc p.s cA cc) := Lib.hid (hch.cat HC_2.out (by decide) (by decide))
    have HS_3 : Hid (SAt w3 gs p.ep M nn f) := Lib.hid (hch.sat HS_2.out (by decide) (by decide))
    have HWAY_3 : Hid (w3.ownsRow (H + 1) 36 21 (.slice ((some ⟨g, 0, none⟩)) n wc) n (mgs p.way)) := Lib.hid (hch.chg.own HWAY_2.out (fun k hk e => HNWAY_P6.out (hk.trans e.symm)))
    have HBOOK_3 : Hid (w3.ownsRow (H + 1) 3 1 (.slice bA p.book.length bc) p.book.length (ints p.book)) := Lib.hid (hch.own HBOOK_2.out (by decide))
    have HHD_3 : Hid (w3.heap[H]? = some (.cells (ints p.heard).toArray 3 (0, 0))) := Lib.hid (hch.blk HHD_2.out (by show (3 + 1 : Nat) ≠ _; decide))
    have HB_3 : Hid (Chg (fun k => lo ≤ k) w0 w3) := Lib.hid (hch.low HB_2.out (fun k hk => by injection hk with hk; omega))
    have HZ_3 : Hid (∀ (b : Nat) (cs : Array Value), w0.heap[b]? = some (Obj.cells cs 57 (0, 0)) → w3.heap[b]? = some (Obj.cells cs 57 (0, 0))) := Lib.hid (fun b cs h => hch.blk (HZ_2.out b cs h) (by show (57 + 1 : Nat) ≠ _; decide))
    have HP8_3 : Hid (w3.heap[P8]? = some (.cells (mcv m.v (.slice m.A m.n m.c)) 36 (0, 0))) := Lib.hid (hch.blkN HP8_2.out (by intro e; injection e with e; omega))
    clear hch HPB_2 HC_2 HS_2 HWAY_2 HBOOK_2 HHD_2 HB_2 HZ_2 HP8_2
    have HP6_3 := Lib.hid hnew
    clear hnew HP6_2
    go_wp2_with (first | (refine wpList_load_row rfl 36 (.tmp 8) rfl P8 rfl 36 #[.int .i64 (m.v 0), .int .i64 (m.v 1), .int .i64 (m.v 2), .int .i64 (m.v 3), .int .i64 (m.v 4), .int .i64 (m.v 5), .int .i64 (m.v 6), .int .i64 (m.v 7), .int .i64 (m.v 8), .int .i64 (m.v 9), .int .i64 (m.v 10), .int .i64 (m.v 11), .int .i64 (m.v 12), .int .i64 (m.v 13), .int .i64 (m.v 14), .int .i64 (m.v 15), .int .i64 (m.v 16), .slice m.A m.n m.c, .int .i64 (m.v 18), .int .i64 (m.v 19), .int .i64 (m.v 20)] (0, 0) _ K15.out Try.underlying36 rfl (by kernel_rfl) ?_) | (refine wpList_store_row rfl 36 (.tmp 6) (.tmp 26) rfl P6 _ rfl rfl 36 _ HST.out (by kernel_rfl) rfl (by simp [Value.oneCell']) ?_))
    clear K15 HST
    rw [← hw16]
    clear hw16
    go_wp2_with fail
    refine bodyPost_ret (v := .agg #[.int .i64 (m.v 0), .int .i64 (m.v 1), .int .i64 (m.v 2), .int .i64 (m.v 3), .int .i64 (m.v 4), .int .i64 (m.v 5), .int .i64 (m.v 6), .int .i64 (m.v 7), .int .i64 (m.v 8), .int .i64 (m.v 9), .int .i64 (m.v 10), .int .i64 (m.v 11), .int .i64 (m.v 12), .int .i64 (m.v 13), .int .i64 (m.v 14), .int .i64 (m.v 15), .int .i64 (m.v 16), .slice m.A m.n m.c, .int .i64 (m.v 18), .int .i64 (m.v 19), .int .i64 (m.v 20)]) (results_one Try.results29 _ _ P6 _ rfl HP6_3.out rfl) rfl ?_
    have hn := HN.out
    have e : (p.way).length = n := by simp [hn]
    have hP : w3.heap[P]? = some (.cells #[.int .i64 id, .pointer (some ⟨gc, 0, none⟩), .pointer (some ⟨gs, 0, none⟩), .int .i64 p.ep, .slice ((some ⟨g, 0, none⟩)) ((p.way).length) wc, .slice bA p.book.length bc, .int .i64 p.told, .int .i64 t1, .int .i64 t2, .slice ((some ⟨H, 0, none⟩)) p.heard.length p.heard.length] 54 (0, 0)) := by rw [e]; exact HPB_3.out
    have hR : w3.ownsRow (H + 1) 36 21 (.slice (some ⟨g, 0, none⟩) (p.way).length wc) (p.way).length (mgs (p.way)) := by rw [e]; exact HWAY_3.out
    refine ⟨m, ⟨gc, gs, H, M, nn, (some ⟨g, 0, none⟩), wc, bA, bc, cA, cc, t1, t2⟩, p.way, rfl, ⟨hP, HC_3.out, HS_3.out, hR, HBOOK_3.out, HHD_3.out, HKF.out, l1, l2, l3, l4⟩, List.mem_of_getElem? HM.out, fun y hy => hy, by rw [e]; omega, rfl, HZ_3.out, HB_3.out⟩
end Go.Proofs.Ytlcbpodjmafoeaa
