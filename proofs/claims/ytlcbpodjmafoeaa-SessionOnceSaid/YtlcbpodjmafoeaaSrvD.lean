/- The document's server: what was done. -/
import Derived.Test.YtlcbpodjmafoeaaSrvS
import Derived.Test.YtlcbpodjmafoeaaHeldW
import Derived.Test.YtlcbpodjmafoeaaLook2
namespace Go.Proofs.Ytlcbpodjmafoeaa
open Go.RowKit

theorem results_cct {f : Func} (hf : f.results = #[.cell 8 28, .cell 9 36, .tmp 10]) (tmps : Array Value) (w : World) (g1 g2 : Nat) (cs1 cs2 : Array Value) (hp1 : tmps.getD 8 undef = .pointer (some ⟨g1, 0, none⟩)) (hp2 : tmps.getD 9 undef = .pointer (some ⟨g2, 0, none⟩)) (hg1 : w.heap[g1]? = some (.cells cs1 28 (0, 0))) (hg2 : w.heap[g2]? = some (.cells cs2 36 (0, 0))) (hc1 : cs1.size = 2) (hc2 : cs2.size = 21) :
    (results f tmps).run Try.prog w = .ok (.tuple #[.agg cs1, .agg cs2, tmps.getD 10 undef]) w := by
  have h1 := run_loadVar_row (P := Try.prog) w g1 28 28 cs1 (0, 0) _ hg1 Try.underlying28 rfl (by rw [hc1]; kernel_rfl)
  have h2 := run_loadVar_row (P := Try.prog) w g2 36 36 cs2 (0, 0) _ hg2 Try.underlying36 rfl (by rw [hc2]; kernel_rfl)
  have hp1' : tmps[8]?.getD undef = .pointer (some ⟨g1, 0, none⟩) := by simpa using hp1
  have hp2' : tmps[9]?.getD undef = .pointer (some ⟨g2, 0, none⟩) := by simpa using hp2
  simp [results, hf, hp1', hp2', asAddr, h1, h2]
theorem i87x : (Try.prog.info? 87).map (fun i => (i.zero, i.size, i.bytes)) = some (some (.agg #[.int .i64 0, .int .i64 0, .int .i64 0, .int .i64 0, .int .i64 0]), 5, 40) := by kernel_rfl
theorem i87p : ∃ i, Try.prog.info? 87 = some i ∧ i.zero = some (.agg #[.int .i64 0, .int .i64 0, .int .i64 0, .int .i64 0, .int .i64 0]) ∧ i.size = 5 ∧ i.bytes = 40 := by
  have h := i87x
  cases hi : Try.prog.info? 87 with
  | none => rw [hi] at h; cases h
  | some i => rw [hi] at h; simp at h; exact ⟨i, rfl, h.1, h.2.1, h.2.2⟩
theorem kcells_one (L : List Ke) : ∀ u ∈ kcells L, u.oneCell' = true := by
  intro u hu
  unfold kcells at hu
  obtain ⟨k, _, hk⟩ := List.mem_flatMap.1 hu
  simp [kec] at hk
  rcases hk with rfl | rfl | rfl | rfl | rfl <;> rfl
def RDonePost (ep : Int) (base : Nat) (L : List Ke) (cl sq a b d : Int) (w : World) (e : Ending) (w' : World) : Prop :=
  ∃ (k : Bool) (A' : Option Addr) (n' c' : Nat), (k = true ↔ ((lk L cl).q < sq ∧ OkR ep cl sq a b d)) ∧ e = .returned (.tuple #[.agg #[.int .i64 ep, .slice A' n' c'], .agg (if k = true then #[.int .i64 8, .int .i64 ep, .int .i64 0, .int .i64 0, .int .i64 0, .int .i64 0, .int .i64 0, .int .i64 0, .int .i64 0, .int .i64 0, .int .i64 0, .int .i64 0, .int .i64 0, .int .i64 0, .int .i64 0, .int .i64 cl, .int .i64 sq, .slice none 0 0, .int .i64 a, .int .i64 b, .int .i64 d] else #[.int .i64 0, .int .i64 0, .int .i64 0, .int .i64 0, .int .i64 0, .int .i64 0, .int .i64 0, .int .i64 0, .int .i64 0, .int .i64 0, .int .i64 0, .int .i64 0, .int .i64 0, .int .i64 0, .int .i64 0, .int .i64 0, .int .i64 0, .slice none 0 0, .int .i64 0, .int .i64 0, .int .i64 0]), .bool k]) ∧ LAt w' base A' n' c' (if k = true then L ++ [⟨cl, sq, a, b, d⟩] else L) ∧ Below w.heap.size w w'

set_option maxRecDepth 100000 in
set_option maxHeartbeats 8000000 in
theorem rdone_any (ep : Int) (base : Nat) (A : Option Addr) (n c : Nat) (L : List Ke) (cl sq a b d : Int) (w : World) (h : LAt w base A n c L) (hn : n ≤ 1000) (hbs : base ≤ w.heap.size) :
    Calls Try.prog 14 #[.agg #[.int .i64 ep, .slice A n c], .int .i64 cl, .int .i64 sq, .agg #[.int .i64 a, .int .i64 b, .int .i64 d]] w fun e w' => RDonePost ep base L cl sq a b d w e w' := by
  obtain ⟨i87, hi, hz0, hz1, hz2⟩ := i87p
  have HL := Lib.hid h
  have HNL : Hid (n = L.length) := Lib.hid h.1
  clear h
  have HOW : Hid (∀ k, (Value.slice A n c).ownBlock = some k → k < w.heap.size) := Lib.hid (fun k hk => (HL.out.2.lt k hk).2)
  obtain ⟨S, hS⟩ : ∃ S, S = w.heap.size := ⟨_, rfl⟩
  obtain ⟨w1, hw1⟩ : ∃ x, x = ((((w.alloc (.cells #[.int .i64 ep, .slice A n c] 28)).alloc (.cells #[.int .i64 a, .int .i64 b, .int .i64 d] 34)).alloc (.cells #[.int .i64 0, .slice none 0 0] 28)).alloc (.cells #[.int .i64 0, .int .i64 0, .int .i64 0, .int .i64 0, .int .i64 0, .int .i64 0, .int .i64 0, .int .i64 0, .int .i64 0, .int .i64 0, .int .i64 0, .int .i64 0, .int .i64 0, .int .i64 0, .int .i64 0, .int .i64 0, .int .i64 0, .slice none 0 0, .int .i64 0, .int .i64 0, .int .i64 0] 36)) := ⟨_, rfl⟩
  have HB_1 : Hid (Below w.heap.size w w1) := Lib.hid (by rw [hw1]; exact (((((Below.refl w.heap.size w).alloc (by simp) _).alloc (by simp) _).alloc (by simp; omega) _).alloc (by simp; omega) _))
  have HX0_1 : Hid (w1.heap[S]? = some (.cells #[.int .i64 ep, .slice A n c] 28 (0, 0))) := Lib.hid (by
    rw [hw1, hS]
    have h := heap_alloc_new w (.cells #[.int .i64 ep, .slice A n c] 28)
    replace h := (Below.heap_alloc (w.alloc (.cells #[.int .i64 ep, .slice A n c] 28)) (.cells #[.int .i64 a, .int .i64 b, .int .i64 d] 34) _ (by simp; try omega)).trans h
    replace h := (Below.heap_alloc ((w.alloc (.cells #[.int .i64 ep, .slice A n c] 28)).alloc (.cells #[.int .i64 a, .int .i64 b, .int .i64 d] 34)) (.cells #[.int .i64 0, .slice none 0 0] 28) _ (by simp; try omega)).trans h
    replace h := (Below.heap_alloc (((w.alloc (.cells #[.int .i64 ep, .slice A n c] 28)).alloc (.cells #[.int .i64 a, .int .i64 b, .int .i64 d] 34)).alloc (.cells #[.int .i64 0, .slice none 0 0] 28)) (.cells #[.int .i64 0, .int .i64 0, .int .i64 0, .int .i64 0, .int .i64 0, .int .i64 0, .int .i64 0, .int .i64 0, .int .i64 0, .int .i64 0, .int .i64 0, .int .i64 0, .int .i64 0, .int .i64 0, .int .i64 0, .int .i64 0, .int .i64 0, .slice none 0 0, .int .i64 0, .int .i64 0, .int .i64 0] 36) _ (by simp; try omega)).trans h
    exact h)
  have HX1_1 : Hid (w1.heap[S + 1]? = some (.cells #[.int .i64 a, .int .i64 b, .int .i64 d] 34 (0, 0))) := Lib.hid (by
    rw [hw1, hS]
    have h := heap_alloc_new (w.alloc (.cells #[.int .i64 ep, .slice A n c] 28)) (.cells #[.int .i64 a, .int .i64 b, .int .i64 d] 34)
    simp only [World.size_alloc] at h
    replace h := (Below.heap_alloc ((w.alloc (.cells #[.int .i64 ep, .slice A n c] 28)).alloc (.cells #[.int .i64 a, .int .i64 b, .int .i64 d] 34)) (.cells #[.int .i64 0, .slice none 0 0] 28) _ (by simp; try omega)).trans h
    replace h := (Below.heap_alloc (((w.alloc (.cells #[.int .i64 ep, .slice A n c] 28)).alloc (.cells #[.int .i64 a, .int .i64 b, .int .i64 d] 34)).alloc (.cells #[.int .i64 0, .slice none 0 0] 28)) (.cells #[.int .i64 0, .int .i64 0, .int .i64 0, .int .i64 0, .int .i64 0, .int .i64 0, .int .i64 0, .int .i64 0, .int .i64 0, .int .i64 0, .int .i64 0, .int .i64 0, .int .i64 0, .int .i64 0, .int .i64 0, .int .i64 0, .int .i64 0, .slice none 0 0, .int .i64 0, .int .i64 0, .int .i64 0] 36) _ (by simp; try omega)).trans h
    exact h)
  have HX2_1 : Hid (w1.heap[S + 2]? = some (.cells #[.int .i64 0, .slice none 0 0] 28 (0, 0))) := Lib.hid (by
    rw [hw1, hS]
    have h := heap_alloc_new ((w.alloc (.cells #[.int .i64 ep, .slice A n c] 28)).alloc (.cells #[.int .i64 a, .int .i64 b, .int .i64 d] 34)) (.cells #[.int .i64 0, .slice none 0 0] 28)
    simp only [World.size_alloc] at h
    replace h := (Below.heap_alloc (((w.alloc (.cells #[.int .i64 ep, .slice A n c] 28)).alloc (.cells #[.int .i64 a, .int .i64 b, .int .i64 d] 34)).alloc (.cells #[.int .i64 0, .slice none 0 0] 28)) (.cells #[.int .i64 0, .int .i64 0, .int .i64 0, .int .i64 0, .int .i64 0, .int .i64 0, .int .i64 0, .int .i64 0, .int .i64 0, .int .i64 0, .int .i64 0, .int .i64 0, .int .i64 0, .int .i64 0, .int .i64 0, .int .i64 0, .int .i64 0, .slice none 0 0, .int .i64 0, .int .i64 0, .int .i64 0] 36) _ (by simp; try omega)).trans h
    exact h)
  have HX3_1 : Hid (w1.heap[S + 3]? = some (.cells #[.int .i64 0, .int .i64 0, .int .i64 0, .int .i64 0, .int .i64 0, .int .i64 0, .int .i64 0, .int .i64 0, .int .i64 0, .int .i64 0, .int .i64 0, .int .i64 0, .int .i64 0, .int .i64 0, .int .i64 0, .int .i64 0, .int .i64 0, .slice none 0 0, .int .i64 0, .int .i64 0, .int .i64 0] 36 (0, 0))) := Lib.hid (by
    rw [hw1, hS]
    have h := heap_alloc_new (((w.alloc (.cells #[.int .i64 ep, .slice A n c] 28)).alloc (.cells #[.int .i64 a, .int .i64 b, .int .i64 d] 34)).alloc (.cells #[.int .i64 0, .slice none 0 0] 28)) (.cells #[.int .i64 0, .int .i64 0, .int .i64 0, .int .i64 0, .int .i64 0, .int .i64 0, .int .i64 0, .int .i64 0, .int .i64 0, .int .i64 0, .int .i64 0, .int .i64 0, .int .i64 0, .int .i64 0, .int .i64 0, .int .i64 0, .int .i64 0, .slice none 0 0, .int .i64 0, .int .i64 0, .int .i64 0] 36)
    simp only [World.size_alloc] at h
    exact h)
  have HS := Lib.hid hS

  go_enter Try.func14, Try.ntmps14
  go_upto_region 1 with (fail)
  rw [← hw1, ← hS]
  clear hw1 hS
  go_wp2_with (first | (refine wpList_load_row rfl 28 (.tmp 4) rfl S rfl 28 _ (0, 0) _ HX0_1.out Try.underlying28 rfl (by kernel_rfl) ?_) | (refine wpList_load_row rfl 34 (.tmp 7) rfl (S + 1) rfl 34 _ (0, 0) _ HX1_1.out Try.underlying34 rfl (by kernel_rfl) ?_))
  refine (rreply_any ep A n c cl sq a b d w1).mono ?_
  rintro e w2 ⟨k, hk, rfl, hb⟩
  have HK := Lib.hid hk
  clear hk
  have HB_2 : Hid (Below w.heap.size w w2) := Lib.hid (HB_1.out.trans (hb.mono HB_1.out.size))
  have HX0_2 : Hid (w2.heap[S]? = some (.cells #[.int .i64 ep, .slice A n c] 28 (0, 0))) := Lib.hid ((hb.block S (ltb HX0_1.out)).trans HX0_1.out)
  have HX1_2 : Hid (w2.heap[(S + 1)]? = some (.cells #[.int .i64 a, .int .i64 b, .int .i64 d] 34 (0, 0))) := Lib.hid ((hb.block (S + 1) (ltb HX1_1.out)).trans HX1_1.out)
  have HX2_2 : Hid (w2.heap[(S + 2)]? = some (.cells #[.int .i64 0, .slice none 0 0] 28 (0, 0))) := Lib.hid ((hb.block (S + 2) (ltb HX2_1.out)).trans HX2_1.out)
  have HX3_2 : Hid (w2.heap[(S + 3)]? = some (.cells #[.int .i64 0, .int .i64 0, .int .i64 0, .int .i64 0, .int .i64 0, .int .i64 0, .int .i64 0, .int .i64 0, .int .i64 0, .int .i64 0, .int .i64 0, .int .i64 0, .int .i64 0, .int .i64 0, .int .i64 0, .int .i64 0, .int .i64 0, .slice none 0 0, .int .i64 0, .int .i64 0, .int .i64 0] 36 (0, 0))) := Lib.hid ((hb.block (S + 3) (ltb HX3_1.out)).trans HX3_1.out)
  clear hb HB_1 HX0_1 HX1_1 HX2_1 HX3_1

  have HL2 : Hid (LAt w2 base A n c L) := Lib.hid (HL.out.below HB_2.out)
  clear HL
  have HOB : Hid (∀ k, (Value.slice A n c).ownBlock = some k → ¬ (k = S + 2 ∨ k = S + 3)) := Lib.hid (fun k hk e => by have := HOW.out k hk; have := HS.out; omega)
  cases k
  · skip
    simp only [Bool.false_eq_true, if_false]
    obtain ⟨P11, hP11⟩ : ∃ x, x = w2.heap.size := ⟨_, rfl⟩
    have hlP11 : S + 3 < P11 := by have := ltb HX3_2.out; omega
    have hal : Below w2.heap.size w2 (w2.alloc (.cells #[.int .i64 0, .int .i64 0, .int .i64 0, .int .i64 0, .int .i64 0, .int .i64 0, .int .i64 0, .int .i64 0, .int .i64 0, .int .i64 0, .int .i64 0, .int .i64 0, .int .i64 0, .int .i64 0, .int .i64 0, .int .i64 0, .int .i64 0, .slice none 0 0, .int .i64 0, .int .i64 0, .int .i64 0] 36)) := (Below.refl _ _).alloc (Nat.le_refl _) _
    have hnew : (w2.alloc (.cells #[.int .i64 0, .int .i64 0, .int .i64 0, .int .i64 0, .int .i64 0, .int .i64 0, .int .i64 0, .int .i64 0, .int .i64 0, .int .i64 0, .int .i64 0, .int .i64 0, .int .i64 0, .int .i64 0, .int .i64 0, .int .i64 0, .int .i64 0, .slice none 0 0, .int .i64 0, .int .i64 0, .int .i64 0] 36)).heap[P11]? = some (.cells #[.int .i64 0, .int .i64 0, .int .i64 0, .int .i64 0, .int .i64 0, .int .i64 0, .int .i64 0, .int .i64 0, .int .i64 0, .int .i64 0, .int .i64 0, .int .i64 0, .int .i64 0, .int .i64 0, .int .i64 0, .int .i64 0, .int .i64 0, .slice none 0 0, .int .i64 0, .int .i64 0, .int .i64 0] 36 (0, 0)) := by rw [hP11]; exact heap_alloc_new _ _
    have HB_3 : Hid (Below w.heap.size w (w2.alloc (.cells #[.int .i64 0, .int .i64 0, .int .i64 0, .int .i64 0, .int .i64 0, .int .i64 0, .int .i64 0, .int .i64 0, .int .i64 0, .int .i64 0, .int .i64 0, .int .i64 0, .int .i64 0, .int .i64 0, .int .i64 0, .int .i64 0, .int .i64 0, .slice none 0 0, .int .i64 0, .int .i64 0, .int .i64 0] 36))) := Lib.hid (HB_2.out.trans (hal.mono HB_2.out.size))
    have HX0_3 : Hid ((w2.alloc (.cells #[.int .i64 0, .int .i64 0, .int .i64 0, .int .i64 0, .int .i64 0, .int .i64 0, .int .i64 0, .int .i64 0, .int .i64 0, .int .i64 0, .int .i64 0, .int .i64 0, .int .i64 0, .int .i64 0, .int .i64 0, .int .i64 0, .int .i64 0, .slice none 0 0, .int .i64 0, .int .i64 0, .int .i64 0] 36)).heap[S]? = some (.cells #[.int .i64 ep, .slice A n c] 28 (0, 0))) := Lib.hid ((hal.block S (ltb HX0_2.out)).trans HX0_2.out)
    have HX1_3 : Hid ((w2.alloc (.cells #[.int .i64 0, .int .i64 0, .int .i64 0, .int .i64 0, .int .i64 0, .int .i64 0, .int .i64 0, .int .i64 0, .int .i64 0, .int .i64 0, .int .i64 0, .int .i64 0, .int .i64 0, .int .i64 0, .int .i64 0, .int .i64 0, .int .i64 0, .slice none 0 0, .int .i64 0, .int .i64 0, .int .i64 0] 36)).heap[(S + 1)]? = some (.cells #[.int .i64 a, .int .i64 b, .int .i64 d] 34 (0, 0))) := Lib.hid ((hal.block (S + 1) (ltb HX1_2.out)).trans HX1_2.out)
    have HX2_3 : Hid ((w2.alloc (.cells #[.int .i64 0, .int .i64 0, .int .i64 0, .int .i64 0, .int .i64 0, .int .i64 0, .int .i64 0, .int .i64 0, .int .i64 0, .int .i64 0, .int .i64 0, .int .i64 0, .int .i64 0, .int .i64 0, .int .i64 0, .int .i64 0, .int .i64 0, .slice none 0 0, .int .i64 0, .int .i64 0, .int .i64 0] 36)).heap[(S + 2)]? = some (.cells #[.int .i64 0, .slice none 0 0] 28 (0, 0))) := Lib.hid ((hal.block (S + 2) (ltb HX2_2.out)).trans HX2_2.out)
    have HX3_3 : Hid ((w2.alloc (.cells #[.int .i64 0, .int .i64 0, .int .i64 0, .int .i64 0, .int .i64 0, .int .i64 0, .int .i64 0, .int .i64 0, .int .i64 0, .int .i64 0, .int .i64 0, .int .i64 0, .int .i64 0, .int .i64 0, .int .i64 0, .int .i64 0, .int .i64 0, .slice none 0 0, .int .i64 0, .int .i64 0, .int .i64 0] 36)).heap[(S + 3)]? = some (.cells #[.int .i64 0, .int .i64 0, .int .i64 0, .int .i64 0, .int .i64 0, .int .i64 0, .int .i64 0, .int .i64 0, .int .i64 0, .int .i64 0, .int .i64 0, .int .i64 0, .int .i64 0, .int .i64 0, .int .i64 0, .int .i64 0, .int .i64 0, .slice none 0 0, .int .i64 0, .int .i64 0, .int .i64 0] 36 (0, 0))) := Lib.hid ((hal.block (S + 3) (ltb HX3_2.out)).trans HX3_2.out)
    clear hal HB_2 HX0_2 HX1_2 HX2_2 HX3_2
    have HP11_3 : Hid ((w2.alloc (.cells #[.int .i64 0, .int .i64 0, .int .i64 0, .int .i64 0, .int .i64 0, .int .i64 0, .int .i64 0, .int .i64 0, .int .i64 0, .int .i64 0, .int .i64 0, .int .i64 0, .int .i64 0, .int .i64 0, .int .i64 0, .int .i64 0, .int .i64 0, .slice none 0 0, .int .i64 0, .int .i64 0, .int .i64 0] 36)).heap[P11]? = some (.cells #[.int .i64 0, .int .i64 0, .int .i64 0, .int .i64 0, .int .i64 0, .int .i64 0, .int .i64 0, .int .i64 0, .int .i64 0, .int .i64 0, .int .i64 0, .int .i64 0, .int .i64 0, .int .i64 0, .int .i64 0, .int .i64 0, .int .i64 0, .slice none 0 0, .int .i64 0, .int .i64 0, .int .i64 0] 36 (0, 0))) := Lib.hid hnew
    clear hnew
    have HL3 := Lib.hid (HL2.out.below ((Below.refl w2.heap.size w2).alloc (Nat.le_refl _) (.cells #[.int .i64 0, .int .i64 0, .int .i64 0, .int .i64 0, .int .i64 0, .int .i64 0, .int .i64 0, .int .i64 0, .int .i64 0, .int .i64 0, .int .i64 0, .int .i64 0, .int .i64 0, .int .i64 0, .int .i64 0, .int .i64 0, .int .i64 0, .slice none 0 0, .int .i64 0, .int .i64 0, .int .i64 0] 36)))
    clear HL2
    go_upto_region 2 with (refine wpList_store_row rfl 36 (.tmp 11) (.tmp 20) rfl w2.heap.size _ rfl rfl 36 _ (heap_alloc_new w2 _) (by kernel_rfl) rfl (by simp [Value.oneCell']) ?_; rw [World.setRow_alloc_new])
    rw [← hP11]
    clear hP11
    generalize w2.alloc (.cells #[.int .i64 0, .int .i64 0, .int .i64 0, .int .i64 0, .int .i64 0, .int .i64 0, .int .i64 0, .int .i64 0, .int .i64 0, .int .i64 0, .int .i64 0, .int .i64 0, .int .i64 0, .int .i64 0, .int .i64 0, .int .i64 0, .int .i64 0, .slice none 0 0, .int .i64 0, .int .i64 0, .int .i64 0] 36) = w3 at HB_3 HX0_3 HX1_3 HX2_3 HX3_3 HP11_3 HL3 ⊢
    have HST1 : Hid (((w3.setRow (S + 2) #[.int .i64 ep, .slice A n c]).setRow (S + 3) #[.int .i64 0, .int .i64 0, .int .i64 0, .int .i64 0, .int .i64 0, .int .i64 0, .int .i64 0, .int .i64 0, .int .i64 0, .int .i64 0, .int .i64 0, .int .i64 0, .int .i64 0, .int .i64 0, .int .i64 0, .int .i64 0, .int .i64 0, .slice none 0 0, .int .i64 0, .int .i64 0, .int .i64 0]).heap[S + 2]? = some (.cells #[.int .i64 ep, .slice A n c] 28 (0, 0))) := Lib.hid ((setRow_other _ _ _ _ (by omega)).trans (setRow_heap w3 (S + 2) _ _ _ _ HX2_3.out))
    have HST0 : Hid ((w3.setRow (S + 2) #[.int .i64 ep, .slice A n c]).heap[S + 3]? = some (.cells #[.int .i64 0, .int .i64 0, .int .i64 0, .int .i64 0, .int .i64 0, .int .i64 0, .int .i64 0, .int .i64 0, .int .i64 0, .int .i64 0, .int .i64 0, .int .i64 0, .int .i64 0, .int .i64 0, .int .i64 0, .int .i64 0, .int .i64 0, .slice none 0 0, .int .i64 0, .int .i64 0, .int .i64 0] 36 (0, 0))) := Lib.hid ((setRow_other _ _ _ _ (by omega)).trans HX3_3.out)
    have HST2 : Hid (((w3.setRow (S + 2) #[.int .i64 ep, .slice A n c]).setRow (S + 3) #[.int .i64 0, .int .i64 0, .int .i64 0, .int .i64 0, .int .i64 0, .int .i64 0, .int .i64 0, .int .i64 0, .int .i64 0, .int .i64 0, .int .i64 0, .int .i64 0, .int .i64 0, .int .i64 0, .int .i64 0, .int .i64 0, .int .i64 0, .slice none 0 0, .int .i64 0, .int .i64 0, .int .i64 0]).heap[S + 3]? = some (.cells #[.int .i64 0, .int .i64 0, .int .i64 0, .int .i64 0, .int .i64 0, .int .i64 0, .int .i64 0, .int .i64 0, .int .i64 0, .int .i64 0, .int .i64 0, .int .i64 0, .int .i64 0, .int .i64 0, .int .i64 0, .int .i64 0, .int .i64 0, .slice none 0 0, .int .i64 0, .int .i64 0, .int .i64 0] 36 (0, 0))) := Lib.hid (setRow_heap _ (S + 3) _ _ _ _ HST0.out)
    have hch : Chg (fun k => k = S + 2 ∨ k = S + 3) w3 ((w3.setRow (S + 2) #[.int .i64 ep, .slice A n c]).setRow (S + 3) #[.int .i64 0, .int .i64 0, .int .i64 0, .int .i64 0, .int .i64 0, .int .i64 0, .int .i64 0, .int .i64 0, .int .i64 0, .int .i64 0, .int .i64 0, .int .i64 0, .int .i64 0, .int .i64 0, .int .i64 0, .int .i64 0, .int .i64 0, .slice none 0 0, .int .i64 0, .int .i64 0, .int .i64 0]) := ((Chg.refl (fun k => k = S + 2 ∨ k = S + 3) w3).setRow (.inr (.inl rfl)) _).setRow (.inr (.inr rfl)) _
    have HBF : Hid (Below w.heap.size w ((w3.setRow (S + 2) #[.int .i64 ep, .slice A n c]).setRow (S + 3) #[.int .i64 0, .int .i64 0, .int .i64 0, .int .i64 0, .int .i64 0, .int .i64 0, .int .i64 0, .int .i64 0, .int .i64 0, .int .i64 0, .int .i64 0, .int .i64 0, .int .i64 0, .int .i64 0, .int .i64 0, .int .i64 0, .int .i64 0, .slice none 0 0, .int .i64 0, .int .i64 0, .int .i64 0])) := Lib.hid (HB_3.out.trans (hch.below HB_3.out.size (fun k hk e => by have := HS.out; omega)))
    have HLF : Hid (LAt ((w3.setRow (S + 2) #[.int .i64 ep, .slice A n c]).setRow (S + 3) #[.int .i64 0, .int .i64 0, .int .i64 0, .int .i64 0, .int .i64 0, .int .i64 0, .int .i64 0, .int .i64 0, .int .i64 0, .int .i64 0, .int .i64 0, .int .i64 0, .int .i64 0, .int .i64 0, .int .i64 0, .int .i64 0, .int .i64 0, .slice none 0 0, .int .i64 0, .int .i64 0, .int .i64 0]) base A n c L) := Lib.hid ⟨HL3.out.1, hch.own HL3.out.2 (fun k hk e => HOB.out k hk e)⟩
    clear hch
    go_wp2_with (first | (refine wpList_load_row rfl 28 (.tmp 4) rfl S rfl 28 _ (0, 0) _ HX0_3.out Try.underlying28 rfl (by kernel_rfl) ?_) | (refine wpList_store_row rfl 28 (.tmp 8) (.tmp 32) rfl (S + 2) _ rfl rfl 28 _ HX2_3.out (by kernel_rfl) rfl (by simp [Value.oneCell']) ?_) | (refine wpList_store_row rfl 36 (.tmp 9) (.tmp 33) rfl (S + 3) _ rfl rfl 36 _ HST0.out (by kernel_rfl) rfl (by simp [Value.oneCell']) ?_))
    refine bodyPost_ret (v := .tuple #[.agg #[.int .i64 ep, .slice A n c], .agg #[.int .i64 0, .int .i64 0, .int .i64 0, .int .i64 0, .int .i64 0, .int .i64 0, .int .i64 0, .int .i64 0, .int .i64 0, .int .i64 0, .int .i64 0, .int .i64 0, .int .i64 0, .int .i64 0, .int .i64 0, .int .i64 0, .int .i64 0, .slice none 0 0, .int .i64 0, .int .i64 0, .int .i64 0], .bool false]) (results_cct Try.results14 _ _ (S + 2) (S + 3) _ _ rfl rfl HST1.out HST2.out rfl rfl) rfl ?_
    exact ⟨false, A, n, c, by simpa using fun _ => (show ¬ OkR ep cl sq a b d from by simpa using HK.out), rfl, HLF.out, HBF.out⟩
  · skip
    simp only [if_true]
    obtain ⟨P11, hP11⟩ : ∃ x, x = w2.heap.size := ⟨_, rfl⟩
    have hlP11 : S + 3 < P11 := by have := ltb HX3_2.out; omega
    have hal : Below w2.heap.size w2 (w2.alloc (.cells #[.int .i64 8, .int .i64 ep, .int .i64 0, .int .i64 0, .int .i64 0, .int .i64 0, .int .i64 0, .int .i64 0, .int .i64 0, .int .i64 0, .int .i64 0, .int .i64 0, .int .i64 0, .int .i64 0, .int .i64 0, .int .i64 cl, .int .i64 sq, .slice none 0 0, .int .i64 a, .int .i64 b, .int .i64 d] 36)) := (Below.refl _ _).alloc (Nat.le_refl _) _
    have hnew : (w2.alloc (.cells #[.int .i64 8, .int .i64 ep, .int .i64 0, .int .i64 0, .int .i64 0, .int .i64 0, .int .i64 0, .int .i64 0, .int .i64 0, .int .i64 0, .int .i64 0, .int .i64 0, .int .i64 0, .int .i64 0, .int .i64 0, .int .i64 cl, .int .i64 sq, .slice none 0 0, .int .i64 a, .int .i64 b, .int .i64 d] 36)).heap[P11]? = some (.cells #[.int .i64 8, .int .i64 ep, .int .i64 0, .int .i64 0, .int .i64 0, .int .i64 0, .int .i64 0, .int .i64 0, .int .i64 0, .int .i64 0, .int .i64 0, .int .i64 0, .int .i64 0, .int .i64 0, .int .i64 0, .int .i64 cl, .int .i64 sq, .slice none 0 0, .int .i64 a, .int .i64 b, .int .i64 d] 36 (0, 0)) := by rw [hP11]; exact heap_alloc_new _ _
    have HB_3 : Hid (Below w.heap.size w (w2.alloc (.cells #[.int .i64 8, .int .i64 ep, .int .i64 0, .int .i64 0, .int .i64 0, .int .i64 0, .int .i64 0, .int .i64 0, .int .i64 0, .int .i64 0, .int .i64 0, .int .i64 0, .int .i64 0, .int .i64 0, .int .i64 0, .int .i64 cl, .int .i64 sq, .slice none 0 0, .int .i64 a, .int .i64 b, .int .i64 d] 36))) := Lib.hid (HB_2.out.trans (hal.mono HB_2.out.size))
    have HX0_3 : Hid ((w2.alloc (.cells #[.int .i64 8, .int .i64 ep, .int .i64 0, .int .i64 0, .int .i64 0, .int .i64 0, .int .i64 0, .int .i64 0, .int .i64 0, .int .i64 0, .int .i64 0, .int .i64 0, .int .i64 0, .int .i64 0, .int .i64 0, .int .i64 cl, .int .i64 sq, .slice none 0 0, .int .i64 a, .int .i64 b, .int .i64 d] 36)).heap[S]? = some (.cells #[.int .i64 ep, .slice A n c] 28 (0, 0))) := Lib.hid ((hal.block S (ltb HX0_2.out)).trans HX0_2.out)
    have HX1_3 : Hid ((w2.alloc (.cells #[.int .i64 8, .int .i64 ep, .int .i64 0, .int .i64 0, .int .i64 0, .int .i64 0, .int .i64 0, .int .i64 0, .int .i64 0, .int .i64 0, .int .i64 0, .int .i64 0, .int .i64 0, .int .i64 0, .int .i64 0, .int .i64 cl, .int .i64 sq, .slice none 0 0, .int .i64 a, .int .i64 b, .int .i64 d] 36)).heap[(S + 1)]? = some (.cells #[.int .i64 a, .int .i64 b, .int .i64 d] 34 (0, 0))) := Lib.hid ((hal.block (S + 1) (ltb HX1_2.out)).trans HX1_2.out)
    have HX2_3 : Hid ((w2.alloc (.cells #[.int .i64 8, .int .i64 ep, .int .i64 0, .int .i64 0, .int .i64 0, .int .i64 0, .int .i64 0, .int .i64 0, .int .i64 0, .int .i64 0, .int .i64 0, .int .i64 0, .int .i64 0, .int .i64 0, .int .i64 0, .int .i64 cl, .int .i64 sq, .slice none 0 0, .int .i64 a, .int .i64 b, .int .i64 d] 36)).heap[(S + 2)]? = some (.cells #[.int .i64 0, .slice none 0 0] 28 (0, 0))) := Lib.hid ((hal.block (S + 2) (ltb HX2_2.out)).trans HX2_2.out)
    have HX3_3 : Hid ((w2.alloc (.cells #[.int .i64 8, .int .i64 ep, .int .i64 0, .int .i64 0, .int .i64 0, .int .i64 0, .int .i64 0, .int .i64 0, .int .i64 0, .int .i64 0, .int .i64 0, .int .i64 0, .int .i64 0, .int .i64 0, .int .i64 0, .int .i64 cl, .int .i64 sq, .slice none 0 0, .int .i64 a, .int .i64 b, .int .i64 d] 36)).heap[(S + 3)]? = some (.cells #[.int .i64 0, .int .i64 0, .int .i64 0, .int .i64 0, .int .i64 0, .int .i64 0, .int .i64 0, .int .i64 0, .int .i64 0, .int .i64 0, .int .i64 0, .int .i64 0, .int .i64 0, .int .i64 0, .int .i64 0, .int .i64 0, .int .i64 0, .slice none 0 0, .int .i64 0, .int .i64 0, .int .i64 0] 36 (0, 0))) := Lib.hid ((hal.block (S + 3) (ltb HX3_2.out)).trans HX3_2.out)
    clear hal HB_2 HX0_2 HX1_2 HX2_2 HX3_2
    have HP11_3 : Hid ((w2.alloc (.cells #[.int .i64 8, .int .i64 ep, .int .i64 0, .int .i64 0, .int .i64 0, .int .i64 0, .int .i64 0, .int .i64 0, .int .i64 0, .int .i64 0, .int .i64 0, .int .i64 0, .int .i64 0, .int .i64 0, .int .i64 0, .int .i64 cl, .int .i64 sq, .slice none 0 0, .int .i64 a, .int .i64 b, .int .i64 d] 36)).heap[P11]? = some (.cells #[.int .i64 8, .int .i64 ep, .int .i64 0, .int .i64 0, .int .i64 0, .int .i64 0, .int .i64 0, .int .i64 0, .int .i64 0, .int .i64 0, .int .i64 0, .int .i64 0, .int .i64 0, .int .i64 0, .int .i64 0, .int .i64 cl, .int .i64 sq, .slice none 0 0, .int .i64 a, .int .i64 b, .int .i64 d] 36 (0, 0))) := Lib.hid hnew
    clear hnew
    have HL3 := Lib.hid (HL2.out.below ((Below.refl w2.heap.size w2).alloc (Nat.le_refl _) (.cells #[.int .i64 8, .int .i64 ep, .int .i64 0, .int .i64 0, .int .i64 0, .int .i64 0, .int .i64 0, .int .i64 0, .int .i64 0, .int .i64 0, .int .i64 0, .int .i64 0, .int .i64 0, .int .i64 0, .int .i64 0, .int .i64 cl, .int .i64 sq, .slice none 0 0, .int .i64 a, .int .i64 b, .int .i64 d] 36)))
    clear HL2
    go_upto_region 2 with (refine wpList_store_row rfl 36 (.tmp 11) (.tmp 20) rfl w2.heap.size _ rfl rfl 36 _ (heap_alloc_new w2 _) (by kernel_rfl) rfl (by simp [Value.oneCell']) ?_; rw [World.setRow_alloc_new])
    rw [← hP11]
    clear hP11
    generalize w2.alloc (.cells #[.int .i64 8, .int .i64 ep, .int .i64 0, .int .i64 0, .int .i64 0, .int .i64 0, .int .i64 0, .int .i64 0, .int .i64 0, .int .i64 0, .int .i64 0, .int .i64 0, .int .i64 0, .int .i64 0, .int .i64 0, .int .i64 cl, .int .i64 sq, .slice none 0 0, .int .i64 a, .int .i64 b, .int .i64 d] 36) = w3 at HB_3 HX0_3 HX1_3 HX2_3 HX3_3 HP11_3 HL3 ⊢
    go_wp2_with (refine wpList_load_g rfl 28 (.tmp 4) rfl S rfl 28 _ (0, 0) _ HX0_3.out Try.underlying28 rfl (by kernel_rfl) ?_)
    refine (of_any ep base A n c L cl w3 HL3.out hn).mono ?_
    rintro e w4 ⟨rfl, hb⟩
    obtain ⟨y, hy⟩ : ∃ y, y = lk L cl := ⟨_, rfl⟩
    rw [← hy]
    have HY := Lib.hid hy
    clear hy
    have HL4 := Lib.hid (HL3.out.below hb)
    clear HL3
    have HB_4 : Hid (Below w.heap.size w w4) := Lib.hid (HB_3.out.trans (hb.mono HB_3.out.size))
    have HX0_4 : Hid (w4.heap[S]? = some (.cells #[.int .i64 ep, .slice A n c] 28 (0, 0))) := Lib.hid ((hb.block S (ltb HX0_3.out)).trans HX0_3.out)
    have HX1_4 : Hid (w4.heap[(S + 1)]? = some (.cells #[.int .i64 a, .int .i64 b, .int .i64 d] 34 (0, 0))) := Lib.hid ((hb.block (S + 1) (ltb HX1_3.out)).trans HX1_3.out)
    have HX2_4 : Hid (w4.heap[(S + 2)]? = some (.cells #[.int .i64 0, .slice none 0 0] 28 (0, 0))) := Lib.hid ((hb.block (S + 2) (ltb HX2_3.out)).trans HX2_3.out)
    have HX3_4 : Hid (w4.heap[(S + 3)]? = some (.cells #[.int .i64 0, .int .i64 0, .int .i64 0, .int .i64 0, .int .i64 0, .int .i64 0, .int .i64 0, .int .i64 0, .int .i64 0, .int .i64 0, .int .i64 0, .int .i64 0, .int .i64 0, .int .i64 0, .int .i64 0, .int .i64 0, .int .i64 0, .slice none 0 0, .int .i64 0, .int .i64 0, .int .i64 0] 36 (0, 0))) := Lib.hid ((hb.block (S + 3) (ltb HX3_3.out)).trans HX3_3.out)
    have HP11_4 : Hid (w4.heap[P11]? = some (.cells #[.int .i64 8, .int .i64 ep, .int .i64 0, .int .i64 0, .int .i64 0, .int .i64 0, .int .i64 0, .int .i64 0, .int .i64 0, .int .i64 0, .int .i64 0, .int .i64 0, .int .i64 0, .int .i64 0, .int .i64 0, .int .i64 cl, .int .i64 sq, .slice none 0 0, .int .i64 a, .int .i64 b, .int .i64 d] 36 (0, 0))) := Lib.hid ((hb.block P11 (ltb HP11_3.out)).trans HP11_3.out)
    clear hb HB_3 HX0_3 HX1_3 HX2_3 HX3_3 HP11_3
    have qf : ∀ w, (Instr.field 87 (.agg #[.int .i64 y.cl, .int .i64 y.q, .int .i64 y.a, .int .i64 y.b, .int .i64 y.c]) 1).run Try.prog w = .ok (.int .i64 y.q) w := fun w => by simp [Instr.field, asAgg, go_sem]
    by_cases hle : sq ≤ y.q
    · skip
      have HLE := Lib.hid hle
      have HST1 : Hid (((w4.setRow (S + 2) #[.int .i64 ep, .slice A n c]).setRow (S + 3) #[.int .i64 0, .int .i64 0, .int .i64 0, .int .i64 0, .int .i64 0, .int .i64 0, .int .i64 0, .int .i64 0, .int .i64 0, .int .i64 0, .int .i64 0, .int .i64 0, .int .i64 0, .int .i64 0, .int .i64 0, .int .i64 0, .int .i64 0, .slice none 0 0, .int .i64 0, .int .i64 0, .int .i64 0]).heap[S + 2]? = some (.cells #[.int .i64 ep, .slice A n c] 28 (0, 0))) := Lib.hid ((setRow_other _ _ _ _ (by omega)).trans (setRow_heap w4 (S + 2) _ _ _ _ HX2_4.out))
      have HST0 : Hid ((w4.setRow (S + 2) #[.int .i64 ep, .slice A n c]).heap[S + 3]? = some (.cells #[.int .i64 0, .int .i64 0, .int .i64 0, .int .i64 0, .int .i64 0, .int .i64 0, .int .i64 0, .int .i64 0, .int .i64 0, .int .i64 0, .int .i64 0, .int .i64 0, .int .i64 0, .int .i64 0, .int .i64 0, .int .i64 0, .int .i64 0, .slice none 0 0, .int .i64 0, .int .i64 0, .int .i64 0] 36 (0, 0))) := Lib.hid ((setRow_other _ _ _ _ (by omega)).trans HX3_4.out)
      have HST2 : Hid (((w4.setRow (S + 2) #[.int .i64 ep, .slice A n c]).setRow (S + 3) #[.int .i64 0, .int .i64 0, .int .i64 0, .int .i64 0, .int .i64 0, .int .i64 0, .int .i64 0, .int .i64 0, .int .i64 0, .int .i64 0, .int .i64 0, .int .i64 0, .int .i64 0, .int .i64 0, .int .i64 0, .int .i64 0, .int .i64 0, .slice none 0 0, .int .i64 0, .int .i64 0, .int .i64 0]).heap[S + 3]? = some (.cells #[.int .i64 0, .int .i64 0, .int .i64 0, .int .i64 0, .int .i64 0, .int .i64 0, .int .i64 0, .int .i64 0, .int .i64 0, .int .i64 0, .int .i64 0, .int .i64 0, .int .i64 0, .int .i64 0, .int .i64 0, .int .i64 0, .int .i64 0, .slice none 0 0, .int .i64 0, .int .i64 0, .int .i64 0] 36 (0, 0))) := Lib.hid (setRow_heap _ (S + 3) _ _ _ _ HST0.out)
      have hch : Chg (fun k => k = S + 2 ∨ k = S + 3) w4 ((w4.setRow (S + 2) #[.int .i64 ep, .slice A n c]).setRow (S + 3) #[.int .i64 0, .int .i64 0, .int .i64 0, .int .i64 0, .int .i64 0, .int .i64 0, .int .i64 0, .int .i64 0, .int .i64 0, .int .i64 0, .int .i64 0, .int .i64 0, .int .i64 0, .int .i64 0, .int .i64 0, .int .i64 0, .int .i64 0, .slice none 0 0, .int .i64 0, .int .i64 0, .int .i64 0]) := ((Chg.refl (fun k => k = S + 2 ∨ k = S + 3) w4).setRow (.inr (.inl rfl)) _).setRow (.inr (.inr rfl)) _
      have HBF : Hid (Below w.heap.size w ((w4.setRow (S + 2) #[.int .i64 ep, .slice A n c]).setRow (S + 3) #[.int .i64 0, .int .i64 0, .int .i64 0, .int .i64 0, .int .i64 0, .int .i64 0, .int .i64 0, .int .i64 0, .int .i64 0, .int .i64 0, .int .i64 0, .int .i64 0, .int .i64 0, .int .i64 0, .int .i64 0, .int .i64 0, .int .i64 0, .slice none 0 0, .int .i64 0, .int .i64 0, .int .i64 0])) := Lib.hid (HB_4.out.trans (hch.below HB_4.out.size (fun k hk e => by have := HS.out; omega)))
      have HLF : Hid (LAt ((w4.setRow (S + 2) #[.int .i64 ep, .slice A n c]).setRow (S + 3) #[.int .i64 0, .int .i64 0, .int .i64 0, .int .i64 0, .int .i64 0, .int .i64 0, .int .i64 0, .int .i64 0, .int .i64 0, .int .i64 0, .int .i64 0, .int .i64 0, .int .i64 0, .int .i64 0, .int .i64 0, .int .i64 0, .int .i64 0, .slice none 0 0, .int .i64 0, .int .i64 0, .int .i64 0]) base A n c L) := Lib.hid ⟨HL4.out.1, hch.own HL4.out.2 (fun k hk e => HOB.out k hk e)⟩
      clear hch
      go_wp2_with (first | (refine wpList_load_row rfl 28 (.tmp 4) rfl S rfl 28 _ (0, 0) _ HX0_4.out Try.underlying28 rfl (by kernel_rfl) ?_) | (refine wpList_store_row rfl 28 (.tmp 8) (.tmp 32) rfl (S + 2) _ rfl rfl 28 _ HX2_4.out (by kernel_rfl) rfl (by simp [Value.oneCell']) ?_) | (refine wpList_store_row rfl 36 (.tmp 9) (.tmp 33) rfl (S + 3) _ rfl rfl 36 _ HST0.out (by kernel_rfl) rfl (by simp [Value.oneCell']) ?_))
      refine bodyPost_ret (v := .tuple #[.agg #[.int .i64 ep, .slice A n c], .agg #[.int .i64 0, .int .i64 0, .int .i64 0, .int .i64 0, .int .i64 0, .int .i64 0, .int .i64 0, .int .i64 0, .int .i64 0, .int .i64 0, .int .i64 0, .int .i64 0, .int .i64 0, .int .i64 0, .int .i64 0, .int .i64 0, .int .i64 0, .slice none 0 0, .int .i64 0, .int .i64 0, .int .i64 0], .bool false]) (results_cct Try.results14 _ _ (S + 2) (S + 3) _ _ rfl rfl HST1.out HST2.out rfl rfl) rfl ?_
      exact ⟨false, A, n, c, by have := HLE.out; rw [HY.out] at this; simp; omega, rfl, HLF.out, HBF.out⟩
    have HLE : Hid (y.q < sq) := Lib.hid (by omega)
    have ca : w4.cell? ⟨S, 1, none⟩ = some (.slice A n c) := cellb (i := 1) HX0_4.out rfl
    have HSZ4 : Hid (w.heap.size ≤ w4.heap.size) := Lib.hid HB_4.out.size
    obtain ⟨Zb, hZb⟩ : ∃ x, x = w4.heap.size := ⟨_, rfl⟩
    have hlZ : P11 < Zb := by have := ltb HP11_4.out; omega
    have hwZ : w.heap.size ≤ Zb := by have := HB_4.out.size; omega
    have HOZ : Hid (w4.ownsRow Zb 87 5 (.slice none 0 0) 0 []) := Lib.hid (World.ownsRow_nil _ _ _ _)
    have HZ4 : Hid (Zb ≤ w4.heap.size) := Lib.hid (by omega)
    clear hZb
    go_upto_region 6 with (at_builtin; refine wpList_append_row _ rfl (.tmp 34) (.tmp 36) _ rfl Zb 87 i87 _ 5 40 Try.underlying26 hi hz0 hz1 hz2 rfl (by omega) none 0 0 [] rfl HOZ.out _ A n c (kcells L) rfl (cellsIn_of_own HL4.out.2) (kcells_one L) (by unfold maxLen; omega) (by omega) HZ4.out ?_; intro A5 c5 w5 hown5 hg5 _; have HO5 := Lib.hid (own_norm hown5); have HG5 := Lib.hid hg5; clear hown5 hg5)
    have hb5 : Below w4.heap.size w4 w5 := (Below.refl w4.heap.size w4).grown HG5.out (Nat.le_refl _) (fun q hq => by cases hq)
    have HZ5 : Hid (Zb ≤ w5.heap.size) := Lib.hid (by have := HZ4.out; have := hb5.size; omega)
    clear HL4 HOZ ca HG5
    have HB_5 : Hid (Below w.heap.size w w5) := Lib.hid (HB_4.out.trans (hb5.mono HB_4.out.size))
    have HX0_5 : Hid (w5.heap[S]? = some (.cells #[.int .i64 ep, .slice A n c] 28 (0, 0))) := Lib.hid ((hb5.block S (ltb HX0_4.out)).trans HX0_4.out)
    have HX1_5 : Hid (w5.heap[(S + 1)]? = some (.cells #[.int .i64 a, .int .i64 b, .int .i64 d] 34 (0, 0))) := Lib.hid ((hb5.block (S + 1) (ltb HX1_4.out)).trans HX1_4.out)
    have HX2_5 : Hid (w5.heap[(S + 2)]? = some (.cells #[.int .i64 0, .slice none 0 0] 28 (0, 0))) := Lib.hid ((hb5.block (S + 2) (ltb HX2_4.out)).trans HX2_4.out)
    have HX3_5 : Hid (w5.heap[(S + 3)]? = some (.cells #[.int .i64 0, .int .i64 0, .int .i64 0, .int .i64 0, .int .i64 0, .int .i64 0, .int .i64 0, .int .i64 0, .int .i64 0, .int .i64 0, .int .i64 0, .int .i64 0, .int .i64 0, .int .i64 0, .int .i64 0, .int .i64 0, .int .i64 0, .slice none 0 0, .int .i64 0, .int .i64 0, .int .i64 0] 36 (0, 0))) := Lib.hid ((hb5.block (S + 3) (ltb HX3_4.out)).trans HX3_4.out)
    have HP11_5 : Hid (w5.heap[P11]? = some (.cells #[.int .i64 8, .int .i64 ep, .int .i64 0, .int .i64 0, .int .i64 0, .int .i64 0, .int .i64 0, .int .i64 0, .int .i64 0, .int .i64 0, .int .i64 0, .int .i64 0, .int .i64 0, .int .i64 0, .int .i64 0, .int .i64 cl, .int .i64 sq, .slice none 0 0, .int .i64 a, .int .i64 b, .int .i64 d] 36 (0, 0))) := Lib.hid ((hb5.block P11 (ltb HP11_4.out)).trans HP11_4.out)
    clear hb5 HB_4 HX0_4 HX1_4 HX2_4 HX3_4 HP11_4
    go_upto_region 7 with (first | (refine wpList_load_row rfl 34 (.tmp 7) rfl (S + 1) rfl 34 _ (0, 0) _ HX1_5.out Try.underlying34 rfl (by kernel_rfl) ?_) | (at_builtin; refine wpList_append_row _ rfl (.tmp 38) (.tmp 43) _ rfl Zb 87 i87 _ 5 40 Try.underlying26 hi hz0 hz1 hz2 rfl (by omega) A5 n c5 (kcells L) rfl (HO5.out.alloc _) (w5.heap.size + 1) (some ⟨w5.heap.size, 0, none⟩) 1 1 [.int .i64 cl, .int .i64 sq, .int .i64 a, .int .i64 b, .int .i64 d] rfl (cellsIn_alloc w5 #[.int .i64 cl, .int .i64 sq, .int .i64 a, .int .i64 b, .int .i64 d] 87 (0, 0) 5 1 rfl) (by simp [Value.oneCell']) (by unfold maxLen; omega) (by omega) (by have := HZ5.out; simp; omega) ?_; intro A6 c6 w6 hown6 hg6 _; have HO6 := Lib.hid hown6; have HG6 := Lib.hid hg6; clear hown6 hg6))
    have hb6 : Below w5.heap.size w5 (w5.alloc (.cells #[.int .i64 cl, .int .i64 sq, .int .i64 a, .int .i64 b, .int .i64 d] 87)) := (Below.refl _ _).alloc (Nat.le_refl _) _
    have HOW5 : Hid (∀ q, (Value.slice A5 n c5).ownBlock = some q → Zb ≤ q) := Lib.hid (fun q hq => (HO5.out.lt q hq).1)
    have hch : Chg (fun q => Zb ≤ q) w5 w6 := (Chg.of_below (S := fun q => Zb ≤ q) hb6).grown HG6.out (fun q hq => .inr (HOW5.out q hq))
    clear hb6 HO5 HG6
    have HB_6 : Hid (Below w.heap.size w w6) := Lib.hid (HB_5.out.trans (hch.below HB_5.out.size (fun k hk e => by omega)))
    have HX0_6 : Hid (w6.heap[S]? = some (.cells #[.int .i64 ep, .slice A n c] 28 (0, 0))) := Lib.hid ((hch.block S (ltb HX0_5.out) (by omega)).trans HX0_5.out)
    have HX1_6 : Hid (w6.heap[(S + 1)]? = some (.cells #[.int .i64 a, .int .i64 b, .int .i64 d] 34 (0, 0))) := Lib.hid ((hch.block (S + 1) (ltb HX1_5.out) (by omega)).trans HX1_5.out)
    have HX2_6 : Hid (w6.heap[(S + 2)]? = some (.cells #[.int .i64 0, .slice none 0 0] 28 (0, 0))) := Lib.hid ((hch.block (S + 2) (ltb HX2_5.out) (by omega)).trans HX2_5.out)
    have HX3_6 : Hid (w6.heap[(S + 3)]? = some (.cells #[.int .i64 0, .int .i64 0, .int .i64 0, .int .i64 0, .int .i64 0, .int .i64 0, .int .i64 0, .int .i64 0, .int .i64 0, .int .i64 0, .int .i64 0, .int .i64 0, .int .i64 0, .int .i64 0, .int .i64 0, .int .i64 0, .int .i64 0, .slice none 0 0, .int .i64 0, .int .i64 0, .int .i64 0] 36 (0, 0))) := Lib.hid ((hch.block (S + 3) (ltb HX3_5.out) (by omega)).trans HX3_5.out)
    have HP11_6 : Hid (w6.heap[P11]? = some (.cells #[.int .i64 8, .int .i64 ep, .int .i64 0, .int .i64 0, .int .i64 0, .int .i64 0, .int .i64 0, .int .i64 0, .int .i64 0, .int .i64 0, .int .i64 0, .int .i64 0, .int .i64 0, .int .i64 0, .int .i64 0, .int .i64 cl, .int .i64 sq, .slice none 0 0, .int .i64 a, .int .i64 b, .int .i64 d] 36 (0, 0))) := Lib.hid ((hch.block P11 (ltb HP11_5.out) (by omega)).trans HP11_5.out)
    clear hch HB_5 HX0_5 HX1_5 HX2_5 HX3_5 HP11_5
    have c1 : w6.cell? ⟨S, 1, none⟩ = some (.slice A n c) := cellb (i := 1) HX0_6.out rfl
    have f1 : w6.frozen? ⟨S, 1, none⟩ = false := fzb HX0_6.out 1
    have HO7 : Hid ((w6.setCell ⟨S, 1, none⟩ (.slice A6 (n + 1) c6)).ownsRow Zb 87 5 (.slice A6 (n + 1) c6) (n + 1) (kcells L ++ [.int .i64 cl, .int .i64 sq, .int .i64 a, .int .i64 b, .int .i64 d])) := Lib.hid (((Chg.refl (fun k => k = S) w6).setCell (p := ⟨S, 1, none⟩) (.inr rfl) _).own HO6.out (fun k hk e => by have := (HO6.out.lt k hk).1; have : k = S := e; omega))
    have hx0 : (w6.setCell ⟨S, 1, none⟩ (.slice A6 (n + 1) c6)).heap[S]? = some (.cells #[.int .i64 ep, .slice A6 (n + 1) c6] 28 (0, 0)) := by simp [World.setCell, Array.getElem?_modify, HX0_6.out]
    have hch : Chg (fun k => k = S) w6 (w6.setCell ⟨S, 1, none⟩ (.slice A6 (n + 1) c6)) := (Chg.refl (fun k => k = S) w6).setCell (p := ⟨S, 1, none⟩) (.inr rfl) _
    have HX0_7 := Lib.hid hx0
    have HX2_7 := Lib.hid ((hch.block (S + 2) (ltb HX2_6.out) (by omega)).trans HX2_6.out)
    have HX3_7 := Lib.hid ((hch.block (S + 3) (ltb HX3_6.out) (by omega)).trans HX3_6.out)
    have HP11_7 := Lib.hid ((hch.block P11 (ltb HP11_6.out) (by omega)).trans HP11_6.out)
    have HB_7 := Lib.hid (HB_6.out.trans (hch.below HB_6.out.size (fun k hk e => by have := HS.out; omega)))
    clear hx0 hch HO6
    go_upto_region 8 with (fail)
    clear c1 f1 HX0_6 HX1_6 HX2_6 HX3_6 HP11_6 HB_6
    generalize w6.setCell ⟨S, 1, none⟩ (.slice A6 (n + 1) c6) = w7 at HO7 HX0_7 HX2_7 HX3_7 HP11_7 HB_7 ⊢
    have d0 : w7.drew.heap[S]? = some (.cells #[.int .i64 ep, .slice A6 (n + 1) c6] 28 (0, 0)) := HX0_7.out
    have d1 : w7.drew.heap[P11]? = some (.cells #[.int .i64 8, .int .i64 ep, .int .i64 0, .int .i64 0, .int .i64 0, .int .i64 0, .int .i64 0, .int .i64 0, .int .i64 0, .int .i64 0, .int .i64 0, .int .i64 0, .int .i64 0, .int .i64 0, .int .i64 0, .int .i64 cl, .int .i64 sq, .slice none 0 0, .int .i64 a, .int .i64 b, .int .i64 d] 36 (0, 0)) := HP11_7.out
    have HQ2 : Hid (w7.drew.heap[S + 2]? = some (.cells #[.int .i64 0, .slice none 0 0] 28 (0, 0))) := HX2_7
    have HQ3 : Hid (w7.drew.heap[S + 3]? = some (.cells #[.int .i64 0, .int .i64 0, .int .i64 0, .int .i64 0, .int .i64 0, .int .i64 0, .int .i64 0, .int .i64 0, .int .i64 0, .int .i64 0, .int .i64 0, .int .i64 0, .int .i64 0, .int .i64 0, .int .i64 0, .int .i64 0, .int .i64 0, .slice none 0 0, .int .i64 0, .int .i64 0, .int .i64 0] 36 (0, 0))) := HX3_7
    refine wp_region_noPanic ?_
    refine wp_region_held_drew (S := fun w' => w'.heap[S]? = some (.cells #[.int .i64 ep, .slice A6 (n + 1) c6] 28 (0, 0)) ∧ w'.heap[P11]? = some (.cells #[.int .i64 8, .int .i64 ep, .int .i64 0, .int .i64 0, .int .i64 0, .int .i64 0, .int .i64 0, .int .i64 0, .int .i64 0, .int .i64 0, .int .i64 0, .int .i64 0, .int .i64 0, .int .i64 0, .int .i64 0, .int .i64 cl, .int .i64 sq, .slice none 0 0, .int .i64 a, .int .i64 b, .int .i64 d] 36 (0, 0))) (by kernel_rfl) ?_ (fun hHeld => ?_)
    · try dsimp only
      (refine ⟨?_, ?_⟩ <;> (first | with_reducible assumption))
    refine wpAnyH_take (i := 0) (v := ?_) (by (simp only [List.getElem?_toArray, List.getElem?_cons_zero]; rfl)) (by kernel_rfl) (by kernel_rfl) (by kernel_rfl) (fun _ _ _ h => h) (Or.inl ⟨by rfl, ?_⟩) (by assumption) ?_
    rotate_left
    · intro w hSw
      try dsimp only at hSw
      refine take_load (x := .tmp 4) (ty := 28) ?_ S ?_ 28 _ (0, 0) _ hSw.1 Try.underlying28 rfl (by kernel_rfl)
      all_goals rfl
    try simp only [Act.put, List.setIfInBounds_toArray, List.set_cons_zero, List.set_cons_succ]
    refine wpAnyH_take (i := 1) (v := ?_) (by (simp only [List.getElem?_toArray, List.getElem?_cons_succ, List.getElem?_cons_zero]; rfl)) (by kernel_rfl) (by kernel_rfl) (by kernel_rfl) (fun _ _ _ h => h) (Or.inl ⟨by rfl, ?_⟩) (by assumption) ?_
    rotate_left
    · intro w hSw
      try dsimp only at hSw
      refine take_load (x := .tmp 11) (ty := 36) ?_ P11 ?_ 36 _ (0, 0) _ hSw.2 Try.underlying36 rfl (by kernel_rfl)
      all_goals rfl
    try simp only [Act.put, List.setIfInBounds_toArray, List.set_cons_zero, List.set_cons_succ]
    refine wpAnyH_ready (rs := [2]) (by kernel_rfl) (by simp) ?_
    refine AllReadyH.cons (by (simp only [List.getElem?_toArray, List.getElem?_cons_succ, List.getElem?_cons_zero]; rfl)) (fun K hK => ?_) AllReadyH.nil
    refine wp_store_row 28 (.tmp 8) (.tmp 47) rfl (S + 2) _ rfl rfl 28 _ HQ2.out (by kernel_rfl) rfl (by simp [Value.oneCell']) ?_
    have y0 : (w7.drew.setRow (S + 2) #[.int .i64 ep, .slice A6 (n + 1) c6]).heap[S]? = some (.cells #[.int .i64 ep, .slice A6 (n + 1) c6] 28 (0, 0)) := (setRow_other _ _ _ _ (by omega)).trans d0
    have y1 : (w7.drew.setRow (S + 2) #[.int .i64 ep, .slice A6 (n + 1) c6]).heap[P11]? = some (.cells #[.int .i64 8, .int .i64 ep, .int .i64 0, .int .i64 0, .int .i64 0, .int .i64 0, .int .i64 0, .int .i64 0, .int .i64 0, .int .i64 0, .int .i64 0, .int .i64 0, .int .i64 0, .int .i64 0, .int .i64 0, .int .i64 cl, .int .i64 sq, .slice none 0 0, .int .i64 a, .int .i64 b, .int .i64 d] 36 (0, 0)) := (setRow_other _ _ _ _ (by omega)).trans d1
    have HQ3' : Hid ((w7.drew.setRow (S + 2) #[.int .i64 ep, .slice A6 (n + 1) c6]).heap[S + 3]? = some (.cells #[.int .i64 0, .int .i64 0, .int .i64 0, .int .i64 0, .int .i64 0, .int .i64 0, .int .i64 0, .int .i64 0, .int .i64 0, .int .i64 0, .int .i64 0, .int .i64 0, .int .i64 0, .int .i64 0, .int .i64 0, .int .i64 0, .int .i64 0, .slice none 0 0, .int .i64 0, .int .i64 0, .int .i64 0] 36 (0, 0))) := Lib.hid ((setRow_other _ _ _ _ (by omega)).trans HQ3.out)
    refine hK.out _ _ ?_ (fun hHeld => ?_)
    · try dsimp only
      (refine ⟨?_, ?_⟩ <;> (first | with_reducible assumption))
    clear hK K
    try simp only [Act.put]
    refine wpAnyH_ready (rs := [3]) (by kernel_rfl) (by simp) ?_
    refine AllReadyH.cons (by (simp only [List.getElem?_toArray, List.getElem?_cons_succ, List.getElem?_cons_zero]; rfl)) (fun K hK => ?_) AllReadyH.nil
    refine wp_store_row 36 (.tmp 9) (.tmp 48) rfl (S + 3) _ rfl rfl 36 _ HQ3'.out (by kernel_rfl) rfl (by simp [Value.oneCell']) ?_
    have z0 : ((w7.drew.setRow (S + 2) #[.int .i64 ep, .slice A6 (n + 1) c6]).setRow (S + 3) #[.int .i64 8, .int .i64 ep, .int .i64 0, .int .i64 0, .int .i64 0, .int .i64 0, .int .i64 0, .int .i64 0, .int .i64 0, .int .i64 0, .int .i64 0, .int .i64 0, .int .i64 0, .int .i64 0, .int .i64 0, .int .i64 cl, .int .i64 sq, .slice none 0 0, .int .i64 a, .int .i64 b, .int .i64 d]).heap[S]? = some (.cells #[.int .i64 ep, .slice A6 (n + 1) c6] 28 (0, 0)) := (setRow_other _ _ _ _ (by omega)).trans y0
    have z1 : ((w7.drew.setRow (S + 2) #[.int .i64 ep, .slice A6 (n + 1) c6]).setRow (S + 3) #[.int .i64 8, .int .i64 ep, .int .i64 0, .int .i64 0, .int .i64 0, .int .i64 0, .int .i64 0, .int .i64 0, .int .i64 0, .int .i64 0, .int .i64 0, .int .i64 0, .int .i64 0, .int .i64 0, .int .i64 0, .int .i64 cl, .int .i64 sq, .slice none 0 0, .int .i64 a, .int .i64 b, .int .i64 d]).heap[P11]? = some (.cells #[.int .i64 8, .int .i64 ep, .int .i64 0, .int .i64 0, .int .i64 0, .int .i64 0, .int .i64 0, .int .i64 0, .int .i64 0, .int .i64 0, .int .i64 0, .int .i64 0, .int .i64 0, .int .i64 0, .int .i64 0, .int .i64 cl, .int .i64 sq, .slice none 0 0, .int .i64 a, .int .i64 b, .int .i64 d] 36 (0, 0)) := (setRow_other _ _ _ _ (by omega)).trans y1
    refine hK.out _ _ ?_ (fun hHeld => ?_)
    · try dsimp only
      (refine ⟨?_, ?_⟩ <;> (first | with_reducible assumption))
    clear hK K
    try simp only [Act.put]
    refine wpAnyH_take (i := 4) (v := ?_) (by (simp only [List.getElem?_toArray, List.getElem?_cons_succ, List.getElem?_cons_zero]; rfl)) (by kernel_rfl) (by kernel_rfl) (by kernel_rfl) (fun _ _ _ h => h) (Or.inl ⟨by rfl, ?_⟩) (by assumption) ?_
    rotate_left
    · (intro w hSw; (try dsimp only at hSw); go_simp; try with_reducible rfl)
    try simp only [Act.put, List.setIfInBounds_toArray, List.set_cons_zero, List.set_cons_succ]
    refine wpAnyH_done (by kernel_rfl) ?_ _
    refine NoPanic.normal ?_
    have hch : Chg (fun k => k = S + 2 ∨ k = S + 3) w7.drew ((w7.drew.setRow (S + 2) #[.int .i64 ep, .slice A6 (n + 1) c6]).setRow (S + 3) #[.int .i64 8, .int .i64 ep, .int .i64 0, .int .i64 0, .int .i64 0, .int .i64 0, .int .i64 0, .int .i64 0, .int .i64 0, .int .i64 0, .int .i64 0, .int .i64 0, .int .i64 0, .int .i64 0, .int .i64 0, .int .i64 cl, .int .i64 sq, .slice none 0 0, .int .i64 a, .int .i64 b, .int .i64 d]) := ((Chg.refl (fun k => k = S + 2 ∨ k = S + 3) w7.drew).setRow (.inr (.inl rfl)) _).setRow (.inr (.inr rfl)) _
    have HST1 : Hid (((w7.drew.setRow (S + 2) #[.int .i64 ep, .slice A6 (n + 1) c6]).setRow (S + 3) #[.int .i64 8, .int .i64 ep, .int .i64 0, .int .i64 0, .int .i64 0, .int .i64 0, .int .i64 0, .int .i64 0, .int .i64 0, .int .i64 0, .int .i64 0, .int .i64 0, .int .i64 0, .int .i64 0, .int .i64 0, .int .i64 cl, .int .i64 sq, .slice none 0 0, .int .i64 a, .int .i64 b, .int .i64 d]).heap[S + 2]? = some (.cells #[.int .i64 ep, .slice A6 (n + 1) c6] 28 (0, 0))) := Lib.hid ((setRow_other _ _ _ _ (by omega)).trans (setRow_heap w7.drew (S + 2) _ _ _ _ HQ2.out))
    have HST2 : Hid (((w7.drew.setRow (S + 2) #[.int .i64 ep, .slice A6 (n + 1) c6]).setRow (S + 3) #[.int .i64 8, .int .i64 ep, .int .i64 0, .int .i64 0, .int .i64 0, .int .i64 0, .int .i64 0, .int .i64 0, .int .i64 0, .int .i64 0, .int .i64 0, .int .i64 0, .int .i64 0, .int .i64 0, .int .i64 0, .int .i64 cl, .int .i64 sq, .slice none 0 0, .int .i64 a, .int .i64 b, .int .i64 d]).heap[S + 3]? = some (.cells #[.int .i64 8, .int .i64 ep, .int .i64 0, .int .i64 0, .int .i64 0, .int .i64 0, .int .i64 0, .int .i64 0, .int .i64 0, .int .i64 0, .int .i64 0, .int .i64 0, .int .i64 0, .int .i64 0, .int .i64 0, .int .i64 cl, .int .i64 sq, .slice none 0 0, .int .i64 a, .int .i64 b, .int .i64 d] 36 (0, 0))) := Lib.hid (setRow_heap _ (S + 3) _ _ _ _ HQ3'.out)
    have HBF : Hid (Below w.heap.size w ((w7.drew.setRow (S + 2) #[.int .i64 ep, .slice A6 (n + 1) c6]).setRow (S + 3) #[.int .i64 8, .int .i64 ep, .int .i64 0, .int .i64 0, .int .i64 0, .int .i64 0, .int .i64 0, .int .i64 0, .int .i64 0, .int .i64 0, .int .i64 0, .int .i64 0, .int .i64 0, .int .i64 0, .int .i64 0, .int .i64 cl, .int .i64 sq, .slice none 0 0, .int .i64 a, .int .i64 b, .int .i64 d])) := Lib.hid (HB_7.out.drew.trans (hch.below HB_7.out.drew.size (fun k hk e => by have := HS.out; omega)))
    have HLF : Hid (LAt ((w7.drew.setRow (S + 2) #[.int .i64 ep, .slice A6 (n + 1) c6]).setRow (S + 3) #[.int .i64 8, .int .i64 ep, .int .i64 0, .int .i64 0, .int .i64 0, .int .i64 0, .int .i64 0, .int .i64 0, .int .i64 0, .int .i64 0, .int .i64 0, .int .i64 0, .int .i64 0, .int .i64 0, .int .i64 0, .int .i64 cl, .int .i64 sq, .slice none 0 0, .int .i64 a, .int .i64 b, .int .i64 d]) base A6 (n + 1) c6 (L ++ [⟨cl, sq, a, b, d⟩])) := Lib.hid ⟨by rw [List.length_append, ← HNL.out]; rfl, by
      rw [kcells_append]
      have h7 : w7.drew.ownsRow Zb 87 5 (.slice A6 (n + 1) c6) (n + 1) (kcells L ++ [.int .i64 cl, .int .i64 sq, .int .i64 a, .int .i64 b, .int .i64 d]) := HO7.out
      exact own_low (hch.own h7 (fun k hk e => by have := (h7.lt k hk).1; omega)) (by omega)⟩
    have HIF : Hid ((lk L cl).q < sq ∧ OkR ep cl sq a b d) := Lib.hid ⟨by rw [← HY.out]; exact HLE.out, by simpa using HK.out⟩
    clear hch hHeld d0 d1 y0 y1 z0 z1 qf
    go_wp2_with fail
    refine bodyPost_ret (v := .tuple #[.agg #[.int .i64 ep, .slice A6 (n + 1) c6], .agg #[.int .i64 8, .int .i64 ep, .int .i64 0, .int .i64 0, .int .i64 0, .int .i64 0, .int .i64 0, .int .i64 0, .int .i64 0, .int .i64 0, .int .i64 0, .int .i64 0, .int .i64 0, .int .i64 0, .int .i64 0, .int .i64 cl, .int .i64 sq, .slice none 0 0, .int .i64 a, .int .i64 b, .int .i64 d], .bool true]) (results_cct Try.results14 _ _ (S + 2) (S + 3) _ _ rfl rfl HST1.out HST2.out rfl rfl) rfl ?_
    exact ⟨true, A6, n + 1, c6, ⟨fun _ => HIF.out, fun _ => rfl⟩, rfl, HLF.out, HBF.out⟩
end Go.Proofs.Ytlcbpodjmafoeaa
