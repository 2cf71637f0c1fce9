/- A server's reply. -/
import Derived.Test.YtlcbpodjmafoeaaMap
namespace Go.Proofs.Ytlcbpodjmafoeaa
open Go.RowKit

def repV (ep cl sq a b c : Int) : Nat → Int := fun i => if i = 0 then 8 else if i = 1 then ep else if i = 15 then cl else if i = 16 then sq else if i = 18 then a else if i = 19 then b else if i = 20 then c else 0
def OkR (ep cl sq a b c : Int) : Prop := OkL [⟨1, 0, 1099511627776⟩, ⟨15, 1, 16⟩, ⟨16, 1, 1099511627776⟩, ⟨18, 0, 999⟩, ⟨19, 0, 100⟩, ⟨20, 0, 100⟩] (repV ep cl sq a b c) 0 0
def RepPost (ep cl sq a b c : Int) (w : World) (e : Ending) (w' : World) : Prop := ∃ k : Bool, (k = true ↔ OkR ep cl sq a b c) ∧ e = .returned (.tuple #[.agg (if k = true then #[.int .i64 8, .int .i64 ep, .int .i64 0, .int .i64 0, .int .i64 0, .int .i64 0, .int .i64 0, .int .i64 0, .int .i64 0, .int .i64 0, .int .i64 0, .int .i64 0, .int .i64 0, .int .i64 0, .int .i64 0, .int .i64 cl, .int .i64 sq, .slice none 0 0, .int .i64 a, .int .i64 b, .int .i64 c] else #[.int .i64 0, .int .i64 0, .int .i64 0, .int .i64 0, .int .i64 0, .int .i64 0, .int .i64 0, .int .i64 0, .int .i64 0, .int .i64 0, .int .i64 0, .int .i64 0, .int .i64 0, .int .i64 0, .int .i64 0, .int .i64 0, .int .i64 0, .slice none 0 0, .int .i64 0, .int .i64 0, .int .i64 0]), .bool k]) ∧ Below w.heap.size w w'
theorem results_89 {f : Func} (hf : f.results = #[.cell 8 36, .tmp 9]) (tmps : Array Value) (w : World) (g : Nat) (cs : Array Value) (hp : tmps.getD 8 undef = .pointer (some ⟨g, 0, none⟩)) (hg : w.heap[g]? = some (.cells cs 36 (0, 0))) (hc : cs.size = 21) :
    (results f tmps).run Try.prog w = .ok (.tuple #[.agg cs, tmps.getD 9 undef]) w := by
  rw [results_cell_tmp hf]
  rw [hp]
  have h := run_loadVar_row (P := Try.prog) w g 36 36 cs (0, 0) _ hg Try.underlying36 rfl (by rw [hc]; kernel_rfl)
  simp [asAddr, h]
set_option maxRecDepth 100000 in
set_option maxHeartbeats 4000000 in
theorem reply_any (g : Nat) (ep : Int) (M n : Nat) (f : Int → Kp) (cl sq a b c : Int) (w : World) (h : SAt w g ep M n f) :
    Calls Try.prog 25 #[.pointer (some ⟨g, 0, none⟩), .int .i64 cl, .int .i64 sq, .agg #[.int .i64 a, .int .i64 b, .int .i64 c]] w fun e w' => RepPost ep cl sq a b c w e w' := by
  have hgl := h.glt
  obtain ⟨W, hW⟩ : ∃ W, W = (w.alloc (.cells #[.int .i64 a, .int .i64 b, .int .i64 c] 34)).alloc (.cells #[.int .i64 0, .int .i64 0, .int .i64 0, .int .i64 0, .int .i64 0, .int .i64 0, .int .i64 0, .int .i64 0, .int .i64 0, .int .i64 0, .int .i64 0, .int .i64 0, .int .i64 0, .int .i64 0, .int .i64 0, .int .i64 0, .int .i64 0, .slice none 0 0, .int .i64 0, .int .i64 0, .int .i64 0] 36) := ⟨_, rfl⟩
  obtain ⟨S, hS⟩ : ∃ S, S = w.heap.size := ⟨_, rfl⟩
  have hb : Below w.heap.size w W := by rw [hW]; exact ((Below.refl w.heap.size w).alloc (Nat.le_refl _) _).alloc (by simp) _
  have hr : W.heap[S]? = some (.cells #[.int .i64 a, .int .i64 b, .int .i64 c] 34 (0, 0)) := by
    have := heap_alloc_new w (.cells #[.int .i64 a, .int .i64 b, .int .i64 c] 34)
    rw [hW, hS]; exact (Below.heap_alloc _ _ _ (by simp)).trans this
  have hq : W.heap[S + 1]? = some (.cells #[.int .i64 0, .int .i64 0, .int .i64 0, .int .i64 0, .int .i64 0, .int .i64 0, .int .i64 0, .int .i64 0, .int .i64 0, .int .i64 0, .int .i64 0, .int .i64 0, .int .i64 0, .int .i64 0, .int .i64 0, .int .i64 0, .int .i64 0, .slice none 0 0, .int .i64 0, .int .i64 0, .int .i64 0] 36 (0, 0)) := by
    have := heap_alloc_new (w.alloc (.cells #[.int .i64 a, .int .i64 b, .int .i64 c] 34)) (.cells #[.int .i64 0, .int .i64 0, .int .i64 0, .int .i64 0, .int .i64 0, .int .i64 0, .int .i64 0, .int .i64 0, .int .i64 0, .int .i64 0, .int .i64 0, .int .i64 0, .int .i64 0, .int .i64 0, .int .i64 0, .int .i64 0, .int .i64 0, .slice none 0 0, .int .i64 0, .int .i64 0, .int .i64 0] 36)
    rw [hW, hS]; simpa using this
  have hws : W.heap.size = S + 2 := by rw [hW, hS]; simp
  have d0 : W.drew.cell? ⟨g, 0, none⟩ = some (.int .i64 ep) := cellb (i := 0) ((hb.block g hgl).trans h.blk) rfl
  have d1 : W.drew.cell? ⟨S, 0, none⟩ = some (.int .i64 a) := cellb (i := 0) hr rfl
  have d2 : W.drew.cell? ⟨S, 1, none⟩ = some (.int .i64 b) := cellb (i := 1) hr rfl
  have d3 : W.drew.cell? ⟨S, 2, none⟩ = some (.int .i64 c) := cellb (i := 2) hr rfl
  have HB := Lib.hid hb
  have HQ := Lib.hid hq
  have HSW : Hid (w.heap.size = S) := Lib.hid hS.symm
  have HWS := Lib.hid hws
  clear hb hr hq hws h
  go_enter Try.func25, Try.ntmps25
  go_wp2_with fail
  rw [← hS]
  rw [← hW]
  clear hW hS
  have hgS : g < S := by have := HSW.out; omega
  refine wp_region_noPanic ?_
  refine wp_region_held_drew (S := fun w' => w'.cell? ⟨g, 0, none⟩ = some (.int .i64 ep) ∧ w'.cell? ⟨S, 0, none⟩ = some (.int .i64 a) ∧ w'.cell? ⟨S, 1, none⟩ = some (.int .i64 b) ∧ w'.cell? ⟨S, 2, none⟩ = some (.int .i64 c)) (by kernel_rfl) ?_ (fun hHeld => ?_)
  · try dsimp only
    (refine ⟨?_, ?_, ?_, ?_⟩ <;> (first | with_reducible assumption))
  refine wpAnyH_take (i := 0) (v := ?_) (by (simp only [List.getElem?_toArray, List.getElem?_cons_zero]; rfl)) (by kernel_rfl) (by kernel_rfl) (by kernel_rfl) (fun _ _ _ h => h) (Or.inl ⟨by rfl, ?_⟩) (by assumption) ?_
  rotate_left
  · (intro w hSw; (try dsimp only at hSw); go_simp; try with_reducible rfl)
  try simp only [Act.put, List.setIfInBounds_toArray, List.set_cons_zero, List.set_cons_succ]
  refine wpAnyH_take (i := 1) (v := ?_) (by (simp only [List.getElem?_toArray, List.getElem?_cons_succ, List.getElem?_cons_zero]; rfl)) (by kernel_rfl) (by kernel_rfl) (by kernel_rfl) (fun _ _ _ h => h) (Or.inl ⟨by rfl, ?_⟩) (by assumption) ?_
  rotate_left
  · (intro w hSw; (try dsimp only at hSw); go_simp; try with_reducible rfl)
  try simp only [Act.put, List.setIfInBounds_toArray, List.set_cons_zero, List.set_cons_succ]
  refine wpAnyH_take (i := 2) (v := ?_) (by (simp only [List.getElem?_toArray, List.getElem?_cons_succ, List.getElem?_cons_zero]; rfl)) (by kernel_rfl) (by kernel_rfl) (by kernel_rfl) (fun _ _ _ h => h) (Or.inl ⟨by rfl, ?_⟩) (by assumption) ?_
  rotate_left
  · (intro w hSw; (try dsimp only at hSw); go_simp; try with_reducible rfl)
  try simp only [Act.put, List.setIfInBounds_toArray, List.set_cons_zero, List.set_cons_succ]
  refine wpAnyH_take (i := 3) (v := ?_) (by (simp only [List.getElem?_toArray, List.getElem?_cons_succ, List.getElem?_cons_zero]; rfl)) (by kernel_rfl) (by kernel_rfl) (by kernel_rfl) (fun _ _ _ h => h) (Or.inl ⟨by rfl, ?_⟩) (by assumption) ?_
  rotate_left
  · (intro w hSw; (try dsimp only at hSw); go_simp; try with_reducible rfl)
  try simp only [Act.put, List.setIfInBounds_toArray, List.set_cons_zero, List.set_cons_succ]
  refine wpAnyH_take (i := 4) (v := ?_) (by (simp only [List.getElem?_toArray, List.getElem?_cons_succ, List.getElem?_cons_zero]; rfl)) (by kernel_rfl) (by kernel_rfl) (by kernel_rfl) (fun _ _ _ h => h) (Or.inl ⟨by rfl, ?_⟩) (by assumption) ?_
  rotate_left
  · (intro w hSw; (try dsimp only at hSw); go_simp; try with_reducible rfl)
  try simp only [Act.put, List.setIfInBounds_toArray, List.set_cons_zero, List.set_cons_succ]
  refine wpAnyH_take (i := 5) (v := ?_) (by (simp only [List.getElem?_toArray, List.getElem?_cons_succ, List.getElem?_cons_zero]; rfl)) (by kernel_rfl) (by kernel_rfl) (by kernel_rfl) (fun _ _ _ h => h) (Or.inl ⟨by rfl, ?_⟩) (by assumption) ?_
  rotate_left
  · (intro w hSw; (try dsimp only at hSw); go_simp; try with_reducible rfl)
  try simp only [Act.put, List.setIfInBounds_toArray, List.set_cons_zero, List.set_cons_succ]
  refine wpAnyH_take (i := 6) (v := ?_) (by (simp only [List.getElem?_toArray, List.getElem?_cons_succ, List.getElem?_cons_zero]; rfl)) (by kernel_rfl) (by kernel_rfl) (by kernel_rfl) (fun _ _ _ h => h) (Or.inl ⟨by rfl, ?_⟩) (by assumption) ?_
  rotate_left
  · (intro w hSw; (try dsimp only at hSw); go_simp; try with_reducible rfl)
  try simp only [Act.put, List.setIfInBounds_toArray, List.set_cons_zero, List.set_cons_succ]
  refine wpAnyH_take (i := 7) (v := ?_) (by (simp only [List.getElem?_toArray, List.getElem?_cons_succ, List.getElem?_cons_zero]; rfl)) (by kernel_rfl) (by kernel_rfl) (by kernel_rfl) (fun _ _ _ h => h) (Or.inl ⟨by rfl, ?_⟩) (by assumption) ?_
  rotate_left
  · (intro w hSw; (try dsimp only at hSw); go_simp; try with_reducible rfl)
  try simp only [Act.put, List.setIfInBounds_toArray, List.set_cons_zero, List.set_cons_succ]
  refine wpAnyH_ready (rs := [8]) (by kernel_rfl) (by simp) ?_
  refine AllReadyH.cons (by (simp only [List.getElem?_toArray, List.getElem?_cons_succ, List.getElem?_cons_zero]; rfl)) (fun K hK => ?_) AllReadyH.nil
  go_simp
  obtain ⟨Tb, hTb⟩ : ∃ x, x = W.heap.size := ⟨_, rfl⟩
  have ht8 : (W.alloc (.cells #[.int .i64 0, .int .i64 0, .int .i64 0, .int .i64 0, .int .i64 0, .int .i64 0, .int .i64 0, .int .i64 0, .int .i64 0, .int .i64 0, .int .i64 0, .int .i64 0, .int .i64 0, .int .i64 0, .int .i64 0, .int .i64 0, .int .i64 0, .slice none 0 0, .int .i64 0, .int .i64 0, .int .i64 0] 36)).drew.heap[Tb]? = some (.cells #[.int .i64 0, .int .i64 0, .int .i64 0, .int .i64 0, .int .i64 0, .int .i64 0, .int .i64 0, .int .i64 0, .int .i64 0, .int .i64 0, .int .i64 0, .int .i64 0, .int .i64 0, .int .i64 0, .int .i64 0, .int .i64 0, .int .i64 0, .slice none 0 0, .int .i64 0, .int .i64 0, .int .i64 0] 36 (0, 0)) := by rw [hTb]; exact heap_alloc_new W _
  have hb8 : Below W.heap.size W (W.alloc (.cells #[.int .i64 0, .int .i64 0, .int .i64 0, .int .i64 0, .int .i64 0, .int .i64 0, .int .i64 0, .int .i64 0, .int .i64 0, .int .i64 0, .int .i64 0, .int .i64 0, .int .i64 0, .int .i64 0, .int .i64 0, .int .i64 0, .int .i64 0, .slice none 0 0, .int .i64 0, .int .i64 0, .int .i64 0] 36)).drew := ((Below.refl W.heap.size W).alloc (Nat.le_refl _) _).drew
  have e0 : (W.alloc (.cells #[.int .i64 0, .int .i64 0, .int .i64 0, .int .i64 0, .int .i64 0, .int .i64 0, .int .i64 0, .int .i64 0, .int .i64 0, .int .i64 0, .int .i64 0, .int .i64 0, .int .i64 0, .int .i64 0, .int .i64 0, .int .i64 0, .int .i64 0, .slice none 0 0, .int .i64 0, .int .i64 0, .int .i64 0] 36)).drew.cell? ⟨g, 0, none⟩ = some (.int .i64 ep) := keepA (w := W) d0
  have e1 : (W.alloc (.cells #[.int .i64 0, .int .i64 0, .int .i64 0, .int .i64 0, .int .i64 0, .int .i64 0, .int .i64 0, .int .i64 0, .int .i64 0, .int .i64 0, .int .i64 0, .int .i64 0, .int .i64 0, .int .i64 0, .int .i64 0, .int .i64 0, .int .i64 0, .slice none 0 0, .int .i64 0, .int .i64 0, .int .i64 0] 36)).drew.cell? ⟨S, 0, none⟩ = some (.int .i64 a) := keepA (w := W) d1
  have e2 : (W.alloc (.cells #[.int .i64 0, .int .i64 0, .int .i64 0, .int .i64 0, .int .i64 0, .int .i64 0, .int .i64 0, .int .i64 0, .int .i64 0, .int .i64 0, .int .i64 0, .int .i64 0, .int .i64 0, .int .i64 0, .int .i64 0, .int .i64 0, .int .i64 0, .slice none 0 0, .int .i64 0, .int .i64 0, .int .i64 0] 36)).drew.cell? ⟨S, 1, none⟩ = some (.int .i64 b) := keepA (w := W) d2
  have e3 : (W.alloc (.cells #[.int .i64 0, .int .i64 0, .int .i64 0, .int .i64 0, .int .i64 0, .int .i64 0, .int .i64 0, .int .i64 0, .int .i64 0, .int .i64 0, .int .i64 0, .int .i64 0, .int .i64 0, .int .i64 0, .int .i64 0, .int .i64 0, .int .i64 0, .slice none 0 0, .int .i64 0, .int .i64 0, .int .i64 0] 36)).drew.cell? ⟨S, 2, none⟩ = some (.int .i64 c) := keepA (w := W) d3
  rw [← hTb]
  have HT8 := Lib.hid ht8
  have HB8 := Lib.hid hb8
  have HTB := Lib.hid hTb
  clear ht8 hb8 hTb
  generalize (W.alloc (.cells #[.int .i64 0, .int .i64 0, .int .i64 0, .int .i64 0, .int .i64 0, .int .i64 0, .int .i64 0, .int .i64 0, .int .i64 0, .int .i64 0, .int .i64 0, .int .i64 0, .int .i64 0, .int .i64 0, .int .i64 0, .int .i64 0, .int .i64 0, .slice none 0 0, .int .i64 0, .int .i64 0, .int .i64 0] 36)).drew = w8 at e0 e1 e2 e3 HT8 HB8 ⊢
  refine hK.out _ _ ?_ (fun hHeld => ?_)
  · try dsimp only
    (refine ⟨?_, ?_, ?_, ?_⟩ <;> (first | with_reducible assumption))
  clear hK K
  try simp only [Act.put, List.setIfInBounds_toArray, List.set_cons_zero, List.set_cons_succ]
  refine wpAnyH_ready (rs := [9]) (by kernel_rfl) (by simp) ?_
  refine AllReadyH.cons (by (simp only [List.getElem?_toArray, List.getElem?_cons_succ, List.getElem?_cons_zero]; rfl)) (fun K hK => ?_) AllReadyH.nil
  refine wp_store_row 36 (.tmp 10) (.tmp 18) rfl Tb _ rfl rfl 36 _ HT8.out (by kernel_rfl) rfl (by simp [Value.oneCell']) ?_
  have y0 : (w8.setRow Tb #[.int .i64 8, .int .i64 ep, .int .i64 0, .int .i64 0, .int .i64 0, .int .i64 0, .int .i64 0, .int .i64 0, .int .i64 0, .int .i64 0, .int .i64 0, .int .i64 0, .int .i64 0, .int .i64 0, .int .i64 0, .int .i64 cl, .int .i64 sq, .slice none 0 0, .int .i64 a, .int .i64 b, .int .i64 c]).cell? ⟨g, 0, none⟩ = some (.int .i64 ep) := (cell_setRow_other _ _ _ _ (by show g ≠ Tb; have := HWS.out; have := HTB.out; omega)).trans e0
  have y1 : (w8.setRow Tb #[.int .i64 8, .int .i64 ep, .int .i64 0, .int .i64 0, .int .i64 0, .int .i64 0, .int .i64 0, .int .i64 0, .int .i64 0, .int .i64 0, .int .i64 0, .int .i64 0, .int .i64 0, .int .i64 0, .int .i64 0, .int .i64 cl, .int .i64 sq, .slice none 0 0, .int .i64 a, .int .i64 b, .int .i64 c]).cell? ⟨S, 0, none⟩ = some (.int .i64 a) := (cell_setRow_other _ _ _ _ (by show S ≠ Tb; have := HWS.out; have := HTB.out; omega)).trans e1
  have y2 : (w8.setRow Tb #[.int .i64 8, .int .i64 ep, .int .i64 0, .int .i64 0, .int .i64 0, .int .i64 0, .int .i64 0, .int .i64 0, .int .i64 0, .int .i64 0, .int .i64 0, .int .i64 0, .int .i64 0, .int .i64 0, .int .i64 0, .int .i64 cl, .int .i64 sq, .slice none 0 0, .int .i64 a, .int .i64 b, .int .i64 c]).cell? ⟨S, 1, none⟩ = some (.int .i64 b) := (cell_setRow_other _ _ _ _ (by show S ≠ Tb; have := HWS.out; have := HTB.out; omega)).trans e2
  have y3 : (w8.setRow Tb #[.int .i64 8, .int .i64 ep, .int .i64 0, .int .i64 0, .int .i64 0, .int .i64 0, .int .i64 0, .int .i64 0, .int .i64 0, .int .i64 0, .int .i64 0, .int .i64 0, .int .i64 0, .int .i64 0, .int .i64 0, .int .i64 cl, .int .i64 sq, .slice none 0 0, .int .i64 a, .int .i64 b, .int .i64 c]).cell? ⟨S, 2, none⟩ = some (.int .i64 c) := (cell_setRow_other _ _ _ _ (by show S ≠ Tb; have := HWS.out; have := HTB.out; omega)).trans e3
  refine hK.out _ _ ?_ (fun hHeld => ?_)
  · try dsimp only
    (refine ⟨?_, ?_, ?_, ?_⟩ <;> (first | with_reducible assumption))
  clear hK K
  try simp only [Act.put]
  refine wpAnyH_done (by kernel_rfl) ?_ _
  refine NoPanic.normal ?_
  clear hHeld d0 d1 d2 d3 e0 e1 e2 e3 y0 y1 y2 y3
  have hbw : Below w.heap.size w (w8.setRow Tb #[.int .i64 8, .int .i64 ep, .int .i64 0, .int .i64 0, .int .i64 0, .int .i64 0, .int .i64 0, .int .i64 0, .int .i64 0, .int .i64 0, .int .i64 0, .int .i64 0, .int .i64 0, .int .i64 0, .int .i64 0, .int .i64 cl, .int .i64 sq, .slice none 0 0, .int .i64 a, .int .i64 b, .int .i64 c]) := below_setRow (HB.out.trans (HB8.out.mono HB.out.size)) (by have := HTB.out; have := HB.out.size; omega) _
  have ht : (w8.setRow Tb #[.int .i64 8, .int .i64 ep, .int .i64 0, .int .i64 0, .int .i64 0, .int .i64 0, .int .i64 0, .int .i64 0, .int .i64 0, .int .i64 0, .int .i64 0, .int .i64 0, .int .i64 0, .int .i64 0, .int .i64 0, .int .i64 cl, .int .i64 sq, .slice none 0 0, .int .i64 a, .int .i64 b, .int .i64 c]).heap[Tb]? = some (.cells #[.int .i64 8, .int .i64 ep, .int .i64 0, .int .i64 0, .int .i64 0, .int .i64 0, .int .i64 0, .int .i64 0, .int .i64 0, .int .i64 0, .int .i64 0, .int .i64 0, .int .i64 0, .int .i64 0, .int .i64 0, .int .i64 cl, .int .i64 sq, .slice none 0 0, .int .i64 a, .int .i64 b, .int .i64 c] 36 (0, 0)) := setRow_heap w8 Tb _ _ _ _ HT8.out
  have hq : (w8.setRow Tb #[.int .i64 8, .int .i64 ep, .int .i64 0, .int .i64 0, .int .i64 0, .int .i64 0, .int .i64 0, .int .i64 0, .int .i64 0, .int .i64 0, .int .i64 0, .int .i64 0, .int .i64 0, .int .i64 0, .int .i64 0, .int .i64 cl, .int .i64 sq, .slice none 0 0, .int .i64 a, .int .i64 b, .int .i64 c]).heap[S + 1]? = some (.cells #[.int .i64 0, .int .i64 0, .int .i64 0, .int .i64 0, .int .i64 0, .int .i64 0, .int .i64 0, .int .i64 0, .int .i64 0, .int .i64 0, .int .i64 0, .int .i64 0, .int .i64 0, .int .i64 0, .int .i64 0, .int .i64 0, .int .i64 0, .slice none 0 0, .int .i64 0, .int .i64 0, .int .i64 0] 36 (0, 0)) := (setRow_other w8 Tb (S + 1) _ (by have := HTB.out; have := HWS.out; omega)).trans ((HB8.out.block (S + 1) (ltb HQ.out)).trans HQ.out)
  have HBW := Lib.hid hbw
  have HT := Lib.hid ht
  have HQ9 := Lib.hid hq
  clear hbw ht hq HB HB8 HT8 HQ
  generalize (w8.setRow Tb #[.int .i64 8, .int .i64 ep, .int .i64 0, .int .i64 0, .int .i64 0, .int .i64 0, .int .i64 0, .int .i64 0, .int .i64 0, .int .i64 0, .int .i64 0, .int .i64 0, .int .i64 0, .int .i64 0, .int .i64 0, .int .i64 cl, .int .i64 sq, .slice none 0 0, .int .i64 a, .int .i64 b, .int .i64 c]) = w9 at HBW HT HQ9 ⊢
  go_wp2_with (refine wpList_load_row rfl 36 _ rfl Tb rfl 36 _ (0, 0) _ HT.out Try.underlying36 rfl (by kernel_rfl) ?_)
  refine (check_8 (repV ep cl sq a b c) none 0 0 w9 rfl).mono ?_
  rintro e w10 ⟨k, rfl, hk, hb⟩
  have HK := Lib.hid hk
  have HB10 := Lib.hid (HBW.out.trans (hb.mono HBW.out.size))
  have HT10 := Lib.hid ((hb.block Tb (ltb HT.out)).trans HT.out)
  have HQ10 := Lib.hid ((hb.block (S + 1) (ltb HQ9.out)).trans HQ9.out)
  clear hk hb HBW HT HQ9
  cases k
  · have HRET := Lib.hid (setRow_heap w10 (S + 1) _ #[.int .i64 0, .int .i64 0, .int .i64 0, .int .i64 0, .int .i64 0, .int .i64 0, .int .i64 0, .int .i64 0, .int .i64 0, .int .i64 0, .int .i64 0, .int .i64 0, .int .i64 0, .int .i64 0, .int .i64 0, .int .i64 0, .int .i64 0, .slice none 0 0, .int .i64 0, .int .i64 0, .int .i64 0] _ _ HQ10.out)
    have HBF := Lib.hid (below_setRow (g := S + 1) HB10.out (by have := HSW.out; omega) #[.int .i64 0, .int .i64 0, .int .i64 0, .int .i64 0, .int .i64 0, .int .i64 0, .int .i64 0, .int .i64 0, .int .i64 0, .int .i64 0, .int .i64 0, .int .i64 0, .int .i64 0, .int .i64 0, .int .i64 0, .int .i64 0, .int .i64 0, .slice none 0 0, .int .i64 0, .int .i64 0, .int .i64 0])
    go_wp2_with (refine wpList_store_row rfl 36 (.tmp 8) (.tmp 22) rfl (S + 1) _ rfl rfl 36 _ HQ10.out (by kernel_rfl) rfl (by simp [Value.oneCell']) ?_)
    refine bodyPost_ret (v := .tuple #[.agg #[.int .i64 0, .int .i64 0, .int .i64 0, .int .i64 0, .int .i64 0, .int .i64 0, .int .i64 0, .int .i64 0, .int .i64 0, .int .i64 0, .int .i64 0, .int .i64 0, .int .i64 0, .int .i64 0, .int .i64 0, .int .i64 0, .int .i64 0, .slice none 0 0, .int .i64 0, .int .i64 0, .int .i64 0], .bool false]) (results_89 Try.results25 _ _ (S + 1) _ rfl HRET.out rfl) rfl ?_
    exact ⟨false, HK.out, rfl, HBF.out⟩
  · have HRET := Lib.hid (setRow_heap w10 (S + 1) _ #[.int .i64 8, .int .i64 ep, .int .i64 0, .int .i64 0, .int .i64 0, .int .i64 0, .int .i64 0, .int .i64 0, .int .i64 0, .int .i64 0, .int .i64 0, .int .i64 0, .int .i64 0, .int .i64 0, .int .i64 0, .int .i64 cl, .int .i64 sq, .slice none 0 0, .int .i64 a, .int .i64 b, .int .i64 c] _ _ HQ10.out)
    have HBF := Lib.hid (below_setRow (g := S + 1) HB10.out (by have := HSW.out; omega) #[.int .i64 8, .int .i64 ep, .int .i64 0, .int .i64 0, .int .i64 0, .int .i64 0, .int .i64 0, .int .i64 0, .int .i64 0, .int .i64 0, .int .i64 0, .int .i64 0, .int .i64 0, .int .i64 0, .int .i64 0, .int .i64 cl, .int .i64 sq, .slice none 0 0, .int .i64 a, .int .i64 b, .int .i64 c])
    go_wp2_with (first | (refine wpList_load_row rfl 36 _ rfl Tb rfl 36 _ (0, 0) _ HT10.out Try.underlying36 rfl (by kernel_rfl) ?_) | (refine wpList_store_row rfl 36 (.tmp 8) (.tmp 23) rfl (S + 1) _ rfl rfl 36 _ HQ10.out (by kernel_rfl) rfl (by simp [Value.oneCell']) ?_))
    refine bodyPost_ret (v := .tuple #[.agg #[.int .i64 8, .int .i64 ep, .int .i64 0, .int .i64 0, .int .i64 0, .int .i64 0, .int .i64 0, .int .i64 0, .int .i64 0, .int .i64 0, .int .i64 0, .int .i64 0, .int .i64 0, .int .i64 0, .int .i64 0, .int .i64 cl, .int .i64 sq, .slice none 0 0, .int .i64 a, .int .i64 b, .int .i64 c], .bool true]) (results_89 Try.results25 _ _ (S + 1) _ rfl HRET.out rfl) rfl ?_
    exact ⟨true, ⟨fun _ => HK.out.1 trivial, fun _ => rfl⟩, rfl, HBF.out⟩
end Go.Proofs.Ytlcbpodjmafoeaa
