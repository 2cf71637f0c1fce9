/- A server that keeps what was done. -/
import Derived.Test.YtlcbpodjmafoeaaRep
import Derived.Deep.Cut
namespace Go.Proofs.Ytlcbpodjmafoeaa
open Go.RowKit Go.Maps

theorem wp_mapUpdate_k {o : Oper} {a : Act} {w : World} {K : Act → World → Prop} {Q : Exit → Act → World → Prop} (m x v : Operand) (ho : o.op = Op.mapUpdate 79 m x v) (M n : Nat) (f : Int → Kp) (k : Int) (y : Kp) (hm : a.eval m = .map (some M)) (hx : a.eval x = .int .i64 k) (hv : a.eval v = kv y)
    (h : KAt w M n f) (hk : (Lit.int .i64 k).wf = true) (hn : n < maxLen) (hK : ∀ w', KAt w' M (n + 1) (kput f k y) → w.grownBy w' (some M) → K (a.put o.dst undef) w') : o.wp Try.prog a w K Q := by
  have h0 := h
  obtain ⟨D, h1, h2, h3⟩ := h
  obtain ⟨w', hrun, r1, r2⟩ := h1.update (int_keyed Try.underlying3) Try.underlying79 hn (key_wf k hk) (kR_kv y)
  have hK' := hK w' ⟨_, r1, h2.put _ _, fun i hi => by
    by_cases e : i = k
    · subst e
      rw [atKey_put_same h2 (by trivial)]
      simp [kput]
    · rw [atKey_put_other (fun h => e (by injection h))]
      rw [h3 i hi]
      simp [kput, e]⟩ r2
  unfold Oper.wp
  simp only [execOp, ho, hm, hx, hv]
  simp [hrun, Result.andThen]
  exact hK'
theorem grown_block {w w' : World} {M k : Nat} (hg : w.grownBy w' (some M)) (hk : k < w.heap.size) (hne : k ≠ M) : w'.heap[k]? = w.heap[k]? := by
  obtain ⟨_, _, _, _, h5⟩ := hg
  exact h5 k hk (fun e => hne (by injection e))
theorem grown_cell {w w' : World} {M : Nat} (hg : w.grownBy w' (some M)) {p : Addr} (hk : p.block < w.heap.size) (hne : p.block ≠ M) : w'.cell? p = w.cell? p := by
  simp [World.cell?, grown_block hg hk hne]
theorem grown_setRow {w w' : World} {M R : Nat} (hg : w.grownBy w' (some M)) (hR : w.heap.size ≤ R) (cs : Array Value) : w.grownBy (w'.setRow R cs) (some M) :=
  by
    obtain ⟨h1, h2, h3, h4, h5⟩ := hg
    exact ⟨h1, h2, h3, by simpa using h4, fun i hi hne => (setRow_other w' R i cs (by omega)).trans (h5 i hi hne)⟩
def DonePost (ep : Int) (M nn : Nat) (f : Int → Kp) (g : Nat) (cl sq a b c : Int) (w : World) (e : Ending) (w' : World) : Prop :=
  ∃ k : Bool, (k = true ↔ ((f cl).q < sq ∧ OkR ep cl sq a b c)) ∧ e = .returned (.tuple #[.agg (if k = true then #[.int .i64 8, .int .i64 ep, .int .i64 0, .int .i64 0, .int .i64 0, .int .i64 0, .int .i64 0, .int .i64 0, .int .i64 0, .int .i64 0, .int .i64 0, .int .i64 0, .int .i64 0, .int .i64 0, .int .i64 0, .int .i64 cl, .int .i64 sq, .slice none 0 0, .int .i64 a, .int .i64 b, .int .i64 c] else #[.int .i64 0, .int .i64 0, .int .i64 0, .int .i64 0, .int .i64 0, .int .i64 0, .int .i64 0, .int .i64 0, .int .i64 0, .int .i64 0, .int .i64 0, .int .i64 0, .int .i64 0, .int .i64 0, .int .i64 0, .int .i64 0, .int .i64 0, .slice none 0 0, .int .i64 0, .int .i64 0, .int .i64 0]), .bool k]) ∧ SAt w' g ep M (nn + 1) (if k = true then kput f cl ⟨sq, a, b, c⟩ else f) ∧ w.grownBy w' (some M)
theorem SAt.offY {w : World} {g : Nat} {ep : Int} {M n X : Nat} {f : Int → Kp} {cs : Array Value} {t : TypeId} {fr : Nat × Nat} (h : SAt w g ep M n f) (hx : w.heap[X]? = some (.cells cs t fr)) (hg : X ≠ g) (cs' : Array Value) : SAt (w.setRow X cs') g ep M n f := by
  refine ⟨(setRow_other w X g cs' (fun e => hg e.symm)).trans h.blk, h.map.kept (row := some X) ⟨rfl, rfl, rfl, by simp, fun i _ hi => setRow_other w X i cs' (fun e => hi (by rw [e]))⟩ (fun e => ?_)⟩
  injection e with e
  obtain ⟨D, ⟨es, clock, hb, _⟩, _⟩ := h.map
  rw [e, hx] at hb
  cases hb
theorem SAt.mono {w : World} {g : Nat} {ep : Int} {M n n' : Nat} {f : Int → Kp} (h : SAt w g ep M n f) (hn : n ≤ n') : SAt w g ep M n' f := by
  obtain ⟨D, h1, h2⟩ := h.map
  exact ⟨h.blk, D, h1.mono hn, h2⟩
set_option maxRecDepth 100000 in
set_option maxHeartbeats 4000000 in
theorem done_any (g : Nat) (ep : Int) (M nn : Nat) (f : Int → Kp) (cl sq a b c : Int) (w : World) (h : SAt w g ep M nn f) (hwf : (Lit.int .i64 cl).wf = true) (hn : nn < maxLen) :
    Calls Try.prog 13 #[.pointer (some ⟨g, 0, none⟩), .int .i64 cl, .int .i64 sq, .agg #[.int .i64 a, .int .i64 b, .int .i64 c]] w fun e w' => DonePost ep M nn f g cl sq a b c w e w' := by
  have hgl := h.glt
  obtain ⟨W, hW⟩ : ∃ W, W = (w.alloc (.cells #[.int .i64 a, .int .i64 b, .int .i64 c] 34)).alloc (.cells #[.int .i64 0, .int .i64 0, .int .i64 0, .int .i64 0, .int .i64 0, .int .i64 0, .int .i64 0, .int .i64 0, .int .i64 0, .int .i64 0, .int .i64 0, .int .i64 0, .int .i64 0, .int .i64 0, .int .i64 0, .int .i64 0, .int .i64 0, .slice none 0 0, .int .i64 0, .int .i64 0, .int .i64 0] 36) := ⟨_, rfl⟩
  obtain ⟨S, hS⟩ : ∃ S, S = w.heap.size := ⟨_, rfl⟩
  have hb : Below w.heap.size w W := by rw [hW]; exact ((Below.refl w.heap.size w).alloc (Nat.le_refl _) _).alloc (by simp) _
  have hr : W.heap[S]? = some (.cells #[.int .i64 a, .int .i64 b, .int .i64 c] 34 (0, 0)) := by
    have := heap_alloc_new w (.cells #[.int .i64 a, .int .i64 b, .int .i64 c] 34)
    rw [hW, hS]; exact (Below.heap_alloc _ _ _ (by simp)).trans this
  have hq : W.heap[S + 1]? = some (.cells #[.int .i64 0, .int .i64 0, .int .i64 0, .int .i64 0, .int .i64 0, .int .i64 0, .int .i64 0, .int .i64 0, .int .i64 0, .int .i64 0, .int .i64 0, .int .i64 0, .int .i64 0, .int .i64 0, .int .i64 0, .int .i64 0, .int .i64 0, .slice none 0 0, .int .i64 0, .int .i64 0, .int .i64 0] 36 (0, 0)) := by
    have := heap_alloc_new (w.alloc (.cells #[.int .i64 a, .int .i64 b, .int .i64 c] 34)) (.cells #[.int .i64 0, .int .i64 0, .int .i64 0, .int .i64 0, .int .i64 0, .int .i64 0, .int .i64 0, .int .i64 0, .int .i64 0, .int .i64 0, .int .i64 0, .int .i64 0, .int .i64 0, .int .i64 0, .int .i64 0, .int .i64 0, .int .i64 0, .slice none 0 0, .int .i64 0, .int .i64 0, .int .i64 0] 36)
    rw [hW, hS]; simpa using this
  have hsW := h.below hb
  obtain ⟨k0, hk0⟩ : ∃ k, k = f cl := ⟨_, rfl⟩
  obtain ⟨kq, k1, k2, k3⟩ := k0
  have hlk := hsW.map.look cl hwf
  rw [← hk0] at hlk
  have HF := Lib.hid hk0.symm
  have hlk2 : (Instr.lookup 79 (.map (some M)) (.int .i64 cl) false).run Try.prog W = .ok (.agg #[.int .i64 kq, .int .i64 k1, .int .i64 k2, .int .i64 k3]) W := hlk
  have g1 : W.cell? ⟨g, 1, none⟩ = some (.map (some M)) := cellb (i := 1) hsW.blk rfl
  have qf : ∀ w, (Instr.field 84 (.agg #[.int .i64 kq, .int .i64 k1, .int .i64 k2, .int .i64 k3]) 0).run Try.prog w = .ok (.int .i64 kq) w := fun w => by simp [Instr.field, asAgg, go_sem]
  have HB := Lib.hid hb
  have HQ := Lib.hid hq
  have HT := Lib.hid hr
  have HS := Lib.hid hsW
  have HSW : Hid (w.heap.size = S) := Lib.hid hS.symm
  have hML : M < w.heap.size := h.map.lt
  clear hb hr hq hsW hlk hk0 h
  rcases Classical.em (sq ≤ kq) with hle | hle
  · have HRET := Lib.hid (setRow_heap W (S + 1) _ #[.int .i64 0, .int .i64 0, .int .i64 0, .int .i64 0, .int .i64 0, .int .i64 0, .int .i64 0, .int .i64 0, .int .i64 0, .int .i64 0, .int .i64 0, .int .i64 0, .int .i64 0, .int .i64 0, .int .i64 0, .int .i64 0, .int .i64 0, .slice none 0 0, .int .i64 0, .int .i64 0, .int .i64 0] _ _ HQ.out)
    have HBF := Lib.hid (below_setRow (g := S + 1) HB.out (by have := HSW.out; omega) #[.int .i64 0, .int .i64 0, .int .i64 0, .int .i64 0, .int .i64 0, .int .i64 0, .int .i64 0, .int .i64 0, .int .i64 0, .int .i64 0, .int .i64 0, .int .i64 0, .int .i64 0, .int .i64 0, .int .i64 0, .int .i64 0, .int .i64 0, .slice none 0 0, .int .i64 0, .int .i64 0, .int .i64 0])
    have HSF := Lib.hid ((SAt.offY HS.out HQ.out (by have := HSW.out; omega) #[.int .i64 0, .int .i64 0, .int .i64 0, .int .i64 0, .int .i64 0, .int .i64 0, .int .i64 0, .int .i64 0, .int .i64 0, .int .i64 0, .int .i64 0, .int .i64 0, .int .i64 0, .int .i64 0, .int .i64 0, .int .i64 0, .int .i64 0, .slice none 0 0, .int .i64 0, .int .i64 0, .int .i64 0]).mono (Nat.le_succ nn))
    have HLE := Lib.hid hle
    go_enter Try.func13, Try.ntmps13
    go_upto_region 1 with fail
    rw [← hS]
    rw [← hW]
    clear hW hS
    go_wp2_with (refine wpList_store_row rfl 36 (.tmp 8) (.tmp 25) rfl (S + 1) _ rfl rfl 36 _ HQ.out (by kernel_rfl) rfl (by simp [Value.oneCell']) ?_)
    refine bodyPost_ret (v := .tuple #[.agg #[.int .i64 0, .int .i64 0, .int .i64 0, .int .i64 0, .int .i64 0, .int .i64 0, .int .i64 0, .int .i64 0, .int .i64 0, .int .i64 0, .int .i64 0, .int .i64 0, .int .i64 0, .int .i64 0, .int .i64 0, .int .i64 0, .int .i64 0, .slice none 0 0, .int .i64 0, .int .i64 0, .int .i64 0], .bool false]) (results_89 Try.results13 _ _ (S + 1) _ rfl HRET.out rfl) rfl ?_
    exact ⟨false, ⟨fun h => by simp at h, fun h => by have h1 := h.1; rw [HF.out] at h1; have := HLE.out; simp only at h1; omega⟩, rfl, HSF.out, grown_of_below HBF.out (some M)⟩
  · have HLE := Lib.hid hle
    have t0 : W.cell? ⟨S, 0, none⟩ = some (.int .i64 a) := cellb (i := 0) HT.out rfl
    have t1 : W.cell? ⟨S, 1, none⟩ = some (.int .i64 b) := cellb (i := 1) HT.out rfl
    have t2 : W.cell? ⟨S, 2, none⟩ = some (.int .i64 c) := cellb (i := 2) HT.out rfl
    go_enter Try.func13, Try.ntmps13
    go_upto_region 1 with fail
    rw [← hS]
    rw [← hW]
    clear hW hS
    go_wp2_with fail
    clear t0 t1 t2 hlk2 g1
    refine (reply_any g ep M nn f cl sq a b c W HS.out).mono ?_
    rintro e w8 ⟨k, hk, rfl, hb⟩
    have HK := Lib.hid hk
    have HQ8 := Lib.hid ((hb.block (S + 1) (ltb HQ.out)).trans HQ.out)
    have HT8 := Lib.hid ((hb.block S (ltb HT.out)).trans HT.out)
    have HB8 := Lib.hid (HB.out.trans (hb.mono HB.out.size))
    have HS8 := Lib.hid (HS.out.below hb)
    clear hk hb HQ HT HB HS
    clear qf
    cases k
    · simp only [Bool.false_eq_true, if_false]
      have HQ9 := Lib.hid ((Below.heap_alloc w8 (.cells #[.int .i64 0, .int .i64 0, .int .i64 0, .int .i64 0, .int .i64 0, .int .i64 0, .int .i64 0, .int .i64 0, .int .i64 0, .int .i64 0, .int .i64 0, .int .i64 0, .int .i64 0, .int .i64 0, .int .i64 0, .int .i64 0, .int .i64 0, .slice none 0 0, .int .i64 0, .int .i64 0, .int .i64 0] 36) (S + 1) (ltb HQ8.out)).trans HQ8.out)
      have HB9 := Lib.hid (HB8.out.alloc HB8.out.size (.cells #[.int .i64 0, .int .i64 0, .int .i64 0, .int .i64 0, .int .i64 0, .int .i64 0, .int .i64 0, .int .i64 0, .int .i64 0, .int .i64 0, .int .i64 0, .int .i64 0, .int .i64 0, .int .i64 0, .int .i64 0, .int .i64 0, .int .i64 0, .slice none 0 0, .int .i64 0, .int .i64 0, .int .i64 0] 36))
      have HS9 := Lib.hid (HS8.out.below ((Below.refl w8.heap.size w8).alloc (Nat.le_refl _) (.cells #[.int .i64 0, .int .i64 0, .int .i64 0, .int .i64 0, .int .i64 0, .int .i64 0, .int .i64 0, .int .i64 0, .int .i64 0, .int .i64 0, .int .i64 0, .int .i64 0, .int .i64 0, .int .i64 0, .int .i64 0, .int .i64 0, .int .i64 0, .slice none 0 0, .int .i64 0, .int .i64 0, .int .i64 0] 36)))
      have HY9 := Lib.hid (heap_alloc_new w8 (.cells #[.int .i64 0, .int .i64 0, .int .i64 0, .int .i64 0, .int .i64 0, .int .i64 0, .int .i64 0, .int .i64 0, .int .i64 0, .int .i64 0, .int .i64 0, .int .i64 0, .int .i64 0, .int .i64 0, .int .i64 0, .int .i64 0, .int .i64 0, .slice none 0 0, .int .i64 0, .int .i64 0, .int .i64 0] 36))
      have HRET := Lib.hid (setRow_heap _ (S + 1) _ #[.int .i64 0, .int .i64 0, .int .i64 0, .int .i64 0, .int .i64 0, .int .i64 0, .int .i64 0, .int .i64 0, .int .i64 0, .int .i64 0, .int .i64 0, .int .i64 0, .int .i64 0, .int .i64 0, .int .i64 0, .int .i64 0, .int .i64 0, .slice none 0 0, .int .i64 0, .int .i64 0, .int .i64 0] _ _ HQ9.out)
      have HBF := Lib.hid (below_setRow (g := S + 1) HB9.out (by have := HSW.out; omega) #[.int .i64 0, .int .i64 0, .int .i64 0, .int .i64 0, .int .i64 0, .int .i64 0, .int .i64 0, .int .i64 0, .int .i64 0, .int .i64 0, .int .i64 0, .int .i64 0, .int .i64 0, .int .i64 0, .int .i64 0, .int .i64 0, .int .i64 0, .slice none 0 0, .int .i64 0, .int .i64 0, .int .i64 0])
      have HSF := Lib.hid ((SAt.offY HS9.out HQ9.out (by have := HSW.out; omega) #[.int .i64 0, .int .i64 0, .int .i64 0, .int .i64 0, .int .i64 0, .int .i64 0, .int .i64 0, .int .i64 0, .int .i64 0, .int .i64 0, .int .i64 0, .int .i64 0, .int .i64 0, .int .i64 0, .int .i64 0, .int .i64 0, .int .i64 0, .slice none 0 0, .int .i64 0, .int .i64 0, .int .i64 0]).mono (Nat.le_succ nn))
      go_wp2_with (first | (refine wpList_store_row rfl 36 (.tmp 10) (.tmp 32) rfl w8.heap.size _ rfl rfl 36 _ (heap_alloc_new w8 _) (by kernel_rfl) rfl (by simp [Value.oneCell']) ?_; rw [World.setRow_alloc_new]) | (refine wpList_load_row rfl 36 _ rfl w8.heap.size rfl 36 _ (0, 0) _ HY9.out Try.underlying36 rfl (by kernel_rfl) ?_) | (refine wpList_store_row rfl 36 (.tmp 8) (.tmp 43) rfl (S + 1) _ rfl rfl 36 _ HQ9.out (by kernel_rfl) rfl (by simp [Value.oneCell']) ?_))
      refine bodyPost_ret (v := .tuple #[.agg #[.int .i64 0, .int .i64 0, .int .i64 0, .int .i64 0, .int .i64 0, .int .i64 0, .int .i64 0, .int .i64 0, .int .i64 0, .int .i64 0, .int .i64 0, .int .i64 0, .int .i64 0, .int .i64 0, .int .i64 0, .int .i64 0, .int .i64 0, .slice none 0 0, .int .i64 0, .int .i64 0, .int .i64 0], .bool false]) (results_89 Try.results13 _ _ (S + 1) _ rfl HRET.out rfl) rfl ?_
      exact ⟨false, ⟨fun h => by simp at h, fun h => absurd (HK.out.2 h.2) (by decide)⟩, rfl, HSF.out, grown_of_below HBF.out (some M)⟩
    · simp only [if_true]
      have HQ9 := Lib.hid ((Below.heap_alloc w8 (.cells #[.int .i64 8, .int .i64 ep, .int .i64 0, .int .i64 0, .int .i64 0, .int .i64 0, .int .i64 0, .int .i64 0, .int .i64 0, .int .i64 0, .int .i64 0, .int .i64 0, .int .i64 0, .int .i64 0, .int .i64 0, .int .i64 cl, .int .i64 sq, .slice none 0 0, .int .i64 a, .int .i64 b, .int .i64 c] 36) (S + 1) (ltb HQ8.out)).trans HQ8.out)
      have HT9 := Lib.hid ((Below.heap_alloc w8 (.cells #[.int .i64 8, .int .i64 ep, .int .i64 0, .int .i64 0, .int .i64 0, .int .i64 0, .int .i64 0, .int .i64 0, .int .i64 0, .int .i64 0, .int .i64 0, .int .i64 0, .int .i64 0, .int .i64 0, .int .i64 0, .int .i64 cl, .int .i64 sq, .slice none 0 0, .int .i64 a, .int .i64 b, .int .i64 c] 36) S (ltb HT8.out)).trans HT8.out)
      have HB9 := Lib.hid (HB8.out.alloc HB8.out.size (.cells #[.int .i64 8, .int .i64 ep, .int .i64 0, .int .i64 0, .int .i64 0, .int .i64 0, .int .i64 0, .int .i64 0, .int .i64 0, .int .i64 0, .int .i64 0, .int .i64 0, .int .i64 0, .int .i64 0, .int .i64 0, .int .i64 cl, .int .i64 sq, .slice none 0 0, .int .i64 a, .int .i64 b, .int .i64 c] 36))
      have HS9 := Lib.hid (HS8.out.below ((Below.refl w8.heap.size w8).alloc (Nat.le_refl _) (.cells #[.int .i64 8, .int .i64 ep, .int .i64 0, .int .i64 0, .int .i64 0, .int .i64 0, .int .i64 0, .int .i64 0, .int .i64 0, .int .i64 0, .int .i64 0, .int .i64 0, .int .i64 0, .int .i64 0, .int .i64 0, .int .i64 cl, .int .i64 sq, .slice none 0 0, .int .i64 a, .int .i64 b, .int .i64 c] 36)))
      have HY9 := Lib.hid (heap_alloc_new w8 (.cells #[.int .i64 8, .int .i64 ep, .int .i64 0, .int .i64 0, .int .i64 0, .int .i64 0, .int .i64 0, .int .i64 0, .int .i64 0, .int .i64 0, .int .i64 0, .int .i64 0, .int .i64 0, .int .i64 0, .int .i64 0, .int .i64 cl, .int .i64 sq, .slice none 0 0, .int .i64 a, .int .i64 b, .int .i64 c] 36))
      obtain ⟨Y, hY⟩ : ∃ Y, Y = w8.heap.size := ⟨_, rfl⟩
      rw [← hY] at HY9
      go_wp2_with (refine wpList_store_row rfl 36 (.tmp 10) (.tmp 32) rfl w8.heap.size _ rfl rfl 36 _ (heap_alloc_new w8 _) (by kernel_rfl) rfl (by simp [Value.oneCell']) ?_; rw [World.setRow_alloc_new])
      rw [← hY]
      clear hY HQ8 HT8 HB8 HS8
      generalize w8.alloc (.cells #[.int .i64 8, .int .i64 ep, .int .i64 0, .int .i64 0, .int .i64 0, .int .i64 0, .int .i64 0, .int .i64 0, .int .i64 0, .int .i64 0, .int .i64 0, .int .i64 0, .int .i64 0, .int .i64 0, .int .i64 0, .int .i64 cl, .int .i64 sq, .slice none 0 0, .int .i64 a, .int .i64 b, .int .i64 c] 36) = w9 at HQ9 HT9 HB9 HS9 HY9 ⊢
      have d0 : w9.drew.cell? ⟨g, 1, none⟩ = some (.map (some M)) := cellb (i := 1) HS9.out.blk rfl
      have d1 : w9.drew.cell? ⟨S, 0, none⟩ = some (.int .i64 a) := cellb (i := 0) HT9.out rfl
      have d2 : w9.drew.cell? ⟨S, 1, none⟩ = some (.int .i64 b) := cellb (i := 1) HT9.out rfl
      have d3 : w9.drew.cell? ⟨S, 2, none⟩ = some (.int .i64 c) := cellb (i := 2) HT9.out rfl
      have HSd : Hid (SAt w9.drew g ep M nn f) := Lib.hid (HS9.out.below (Below.refl w9.heap.size w9).drew)

      refine wp_region_noPanic ?_
      refine wp_region_held_drew (S := fun w' => w'.cell? ⟨g, 1, none⟩ = some (.map (some M)) ∧ w'.cell? ⟨S, 0, none⟩ = some (.int .i64 a) ∧ w'.cell? ⟨S, 1, none⟩ = some (.int .i64 b) ∧ w'.cell? ⟨S, 2, none⟩ = some (.int .i64 c)) (by kernel_rfl) ?_ (fun hHeld => ?_)
      · try dsimp only
        (refine ⟨?_, ?_, ?_, ?_⟩ <;> (first | with_reducible assumption))
      refine wpAnyH_take (i := 0) (v := ?_) (by (simp only [List.getElem?_toArray, List.getElem?_cons_zero]; rfl)) (by kernel_rfl) (by kernel_rfl) (by kernel_rfl) (fun _ _ _ h => h) (Or.inl ⟨by rfl, ?_⟩) (by assumption) ?_
      rotate_left
      · (intro w hSw; (try dsimp only at hSw); go_simp; try with_reducible rfl)
      try simp only [Act.put, List.setIfInBounds_toArray, List.set_cons_zero, List.set_cons_succ]
      refine wpAnyH_take (i := 1) (v := ?_) (by (simp only [List.getElem?_toArray, List.getElem?_cons_succ, List.getElem?_cons_zero]; rfl)) (by kernel_rfl) (by kernel_rfl) (by kernel_rfl) (fun _ _ _ h => h) (Or.inl ⟨by rfl, ?_⟩) (by assumption) ?_
      rotate_left
      · (intro w hSw; (try dsimp only at hSw); go_simp; try with_reducible rfl)
      try simp only [Act.put, List.setIfInBounds_toArray, List.set_cons_zero, List.set_cons_succ]
      refine wpAnyH_take (i := 2) (v := ?_) (by (simp only [List.getElem?_toArray, List.getElem?_cons_succ, List.getElem?_cons_zero]; rfl)) (by kernel_rfl) (by kernel_rfl) (by kernel_rfl) (fun _ _ _ h => h) (Or.inl ⟨by rfl, ?_⟩) (by assumption) ?_
      rotate_left
      · (intro w hSw; (try dsimp only at hSw); go_simp; try with_reducible rfl)
      try simp only [Act.put, List.setIfInBounds_toArray, List.set_cons_zero, List.set_cons_succ]
      refine wpAnyH_take (i := 3) (v := ?_) (by (simp only [List.getElem?_toArray, List.getElem?_cons_succ, List.getElem?_cons_zero]; rfl)) (by kernel_rfl) (by kernel_rfl) (by kernel_rfl) (fun _ _ _ h => h) (Or.inl ⟨by rfl, ?_⟩) (by assumption) ?_
      rotate_left
      · (intro w hSw; (try dsimp only at hSw); go_simp; try with_reducible rfl)
      try simp only [Act.put, List.setIfInBounds_toArray, List.set_cons_zero, List.set_cons_succ]
      refine wpAnyH_take (i := 4) (v := ?_) (by (simp only [List.getElem?_toArray, List.getElem?_cons_succ, List.getElem?_cons_zero]; rfl)) (by kernel_rfl) (by kernel_rfl) (by kernel_rfl) (fun _ _ _ h => h) (Or.inl ⟨by rfl, ?_⟩) (by assumption) ?_
      rotate_left
      · (intro w hSw; (try dsimp only at hSw); go_simp; try with_reducible rfl)
      try simp only [Act.put, List.setIfInBounds_toArray, List.set_cons_zero, List.set_cons_succ]
      refine wpAnyH_take (i := 5) (v := ?_) (by (simp only [List.getElem?_toArray, List.getElem?_cons_succ, List.getElem?_cons_zero]; rfl)) (by kernel_rfl) (by kernel_rfl) (by kernel_rfl) (fun _ _ _ h => h) (Or.inl ⟨by rfl, ?_⟩) (by assumption) ?_
      rotate_left
      · (intro w hSw; (try dsimp only at hSw); go_simp; try with_reducible rfl)
      try simp only [Act.put, List.setIfInBounds_toArray, List.set_cons_zero, List.set_cons_succ]
      refine wpAnyH_take (i := 6) (v := ?_) (by (simp only [List.getElem?_toArray, List.getElem?_cons_succ, List.getElem?_cons_zero]; rfl)) (by kernel_rfl) (by kernel_rfl) (by kernel_rfl) (fun _ _ _ h => h) (Or.inl ⟨by rfl, ?_⟩) (by assumption) ?_
      rotate_left
      · (intro w hSw; (try dsimp only at hSw); go_simp; try with_reducible rfl)
      try simp only [Act.put, List.setIfInBounds_toArray, List.set_cons_zero, List.set_cons_succ]
      refine wpAnyH_take (i := 7) (v := ?_) (by (simp only [List.getElem?_toArray, List.getElem?_cons_succ, List.getElem?_cons_zero]; rfl)) (by kernel_rfl) (by kernel_rfl) (by kernel_rfl) (fun _ _ _ h => h) (Or.inl ⟨by rfl, ?_⟩) (by assumption) ?_
      rotate_left
      · (intro w hSw; (try dsimp only at hSw); go_simp; try with_reducible rfl)
      try simp only [Act.put, List.setIfInBounds_toArray, List.set_cons_zero, List.set_cons_succ]
      refine wpAnyH_ready (rs := [8]) (by kernel_rfl) (by simp) ?_
      refine AllReadyH.cons (by (simp only [List.getElem?_toArray, List.getElem?_cons_succ, List.getElem?_cons_zero]; rfl)) (fun K hK => ?_) AllReadyH.nil
      refine wp_mapUpdate_k (.tmp 38) (.tmp 39) (.tmp 42) rfl M nn f cl ⟨sq, a, b, c⟩ rfl rfl rfl HSd.out.map hwf hn (fun w10 hk10 hg => ?_)
      have hMg : g ≠ M := fun e => by have h1 := HSd.out.blk; obtain ⟨D, ⟨es, clock, hb, _⟩, _⟩ := HSd.out.map; rw [e, hb] at h1; cases h1
      have hMS : S ≠ M := by have := HSW.out; omega
      have e0 : w10.cell? ⟨g, 1, none⟩ = some (.map (some M)) := (grown_cell hg HSd.out.glt hMg).trans d0
      have e1 : w10.cell? ⟨S, 0, none⟩ = some (.int .i64 a) := (grown_cell hg (ltb HT9.out) hMS).trans d1
      have e2 : w10.cell? ⟨S, 1, none⟩ = some (.int .i64 b) := (grown_cell hg (ltb HT9.out) hMS).trans d2
      have e3 : w10.cell? ⟨S, 2, none⟩ = some (.int .i64 c) := (grown_cell hg (ltb HT9.out) hMS).trans d3
      refine hK.out _ _ ?_ (fun hHeld => ?_)
      · try dsimp only
        (refine ⟨?_, ?_, ?_, ?_⟩ <;> (first | with_reducible assumption))
      clear hK K
      try simp only [Act.put]
      refine wpAnyH_done (by kernel_rfl) ?_ _
      refine NoPanic.normal ?_
      clear hHeld d0 d1 d2 d3 e0 e1 e2 e3
      have HG := Lib.hid (show w.grownBy w10 (some M) from (grown_of_below HB9.out.drew (some M)).trans hg)
      have HY10 := Lib.hid ((grown_block hg (ltb HY9.out) (by intro e; obtain ⟨D, ⟨es, clock, hb, _⟩, _⟩ := HSd.out.map; have h1 := HY9.out; rw [e] at h1; have h2 : w9.heap[M]? = _ := hb; rw [h2] at h1; cases h1)).trans HY9.out)
      have HQ10 := Lib.hid ((grown_block hg (ltb HQ9.out) (by have := HSW.out; omega)).trans HQ9.out)
      have HS10 := Lib.hid (show SAt w10 g ep M (nn + 1) (kput f cl ⟨sq, a, b, c⟩) from ⟨(grown_block hg HSd.out.glt hMg).trans HSd.out.blk, hk10⟩)
      clear hg hk10 hMg hMS HQ9 HT9 HB9 HS9 HY9 HSd
      have HRET := Lib.hid (setRow_heap w10 (S + 1) _ #[.int .i64 8, .int .i64 ep, .int .i64 0, .int .i64 0, .int .i64 0, .int .i64 0, .int .i64 0, .int .i64 0, .int .i64 0, .int .i64 0, .int .i64 0, .int .i64 0, .int .i64 0, .int .i64 0, .int .i64 0, .int .i64 cl, .int .i64 sq, .slice none 0 0, .int .i64 a, .int .i64 b, .int .i64 c] _ _ HQ10.out)
      have HSF := Lib.hid (SAt.offY HS10.out HQ10.out (by have := HSW.out; omega) #[.int .i64 8, .int .i64 ep, .int .i64 0, .int .i64 0, .int .i64 0, .int .i64 0, .int .i64 0, .int .i64 0, .int .i64 0, .int .i64 0, .int .i64 0, .int .i64 0, .int .i64 0, .int .i64 0, .int .i64 0, .int .i64 cl, .int .i64 sq, .slice none 0 0, .int .i64 a, .int .i64 b, .int .i64 c])
      have HGF := Lib.hid (grown_setRow HG.out (R := S + 1) (by have := HSW.out; omega) #[.int .i64 8, .int .i64 ep, .int .i64 0, .int .i64 0, .int .i64 0, .int .i64 0, .int .i64 0, .int .i64 0, .int .i64 0, .int .i64 0, .int .i64 0, .int .i64 0, .int .i64 0, .int .i64 0, .int .i64 0, .int .i64 cl, .int .i64 sq, .slice none 0 0, .int .i64 a, .int .i64 b, .int .i64 c])
      go_wp2_with (first | (refine wpList_load_row rfl 36 _ rfl Y rfl 36 _ (0, 0) _ HY10.out Try.underlying36 rfl (by kernel_rfl) ?_) | (refine wpList_store_row rfl 36 (.tmp 8) (.tmp 43) rfl (S + 1) _ rfl rfl 36 _ HQ10.out (by kernel_rfl) rfl (by simp [Value.oneCell']) ?_))
      refine bodyPost_ret (v := .tuple #[.agg #[.int .i64 8, .int .i64 ep, .int .i64 0, .int .i64 0, .int .i64 0, .int .i64 0, .int .i64 0, .int .i64 0, .int .i64 0, .int .i64 0, .int .i64 0, .int .i64 0, .int .i64 0, .int .i64 0, .int .i64 0, .int .i64 cl, .int .i64 sq, .slice none 0 0, .int .i64 a, .int .i64 b, .int .i64 c], .bool true]) (results_89 Try.results13 _ _ (S + 1) _ rfl HRET.out rfl) rfl ?_
      exact ⟨true, ⟨fun _ => ⟨by rw [HF.out]; have := HLE.out; simp only; omega, HK.out.1 trivial⟩, fun _ => rfl⟩, rfl, HSF.out, HGF.out⟩
end Go.Proofs.Ytlcbpodjmafoeaa
