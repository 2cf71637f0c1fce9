/- Chapter 20: Boot. -/
import Derived.Test.YtoeamofemepgpaaPut
namespace Go.Proofs.Ytoeamofemepgpaa
open Go.RowKit

/-- Behind Boot. -/
def Ag.boots (s : Ag) (now : Int) : Ag := { s with up := true, tick := now, boot := now, since := 0, until_ := 0, epoch := 0, beat := false, at_ := 0, ps := [] }
abbrev Lay.boots (L : Lay) (M : Nat) : Lay := { L with M := some M, RA := none, n := 0, c := 0, bs := [] }
theorem chg_setRow {S : Nat → Prop} {w w' : World} (h : Chg S w w') {b : Nat} (hb : w.heap.size ≤ b ∨ S b) (cs : Array Value) : Chg S w (w'.setRow b cs) :=
  ⟨h.os, h.tape, h.output, by simpa using h.size, fun k hk hn => (setRow_other w' b k cs (fun e => hb.elim (fun hb => by omega) (fun hb => hn (e ▸ hb)))).trans (h.block k hk hn)⟩
theorem boot_end {w w2 w3 : World} {A M : Nat} {L : Lay} {s : Ag} (h : AgAt w A L s) (now : Int) (hM : M = w.heap.size) (h2 : w2 = (w.alloc (.map #[] 0))) (h3 : w3 = w2.setRow A ((s.boots now).cells (L.boots M))) :
    AgAt w3 A (L.boots M) (s.boots now) ∧ Chg (fun k => k = A) w w3 ∧ ∀ k, (L.boots M).own A k → L.own A k ∨ w.heap.size ≤ k := by
  have hc2 : Chg (fun k => k = A) w w2 := by rw [h2]; exact (Chg.refl _ w).alloc _
  have hc3 : Chg (fun k => k = A) w2 w3 := by rw [h3]; exact chg_setRow (Chg.refl (fun k => k = A) w2) (.inr rfl) _
  have hA2 : w2.heap[A]? = some (.cells (s.cells L) 60 (0, 0)) := by rw [h2]; exact alloc_blk h.blk
  have hM2 : w2.heap[M]? = some (.map #[] 0) := by rw [h2, hM]; exact heap_alloc_new w _
  have hMA : M ≠ A := ne_tag hM2 hA2 (by simp [otag])
  have hc := hc2.trans hc3
  refine ⟨⟨?_, ⟨#[], 0, (hc3.block M (ltb hM2) hMA).trans hM2, rfl, fun i j a hi => by simp [Ag.boots] at hi⟩, fun _ => by simp, h.wlen, hc.own h.wrow (fun k hk e => ?_), ⟨by simp, .inl ⟨rfl, rfl⟩⟩, rfl, rfl, fun i b p hb => by simp at hb, List.nodup_nil⟩, hc, fun k hk => ?_⟩
  · rw [h3]; exact setRow_heap w2 A _ _ _ _ hA2
  · obtain ⟨cur, f, e0⟩ := own_elem h.wrow hk
    exact ne_tag e0 h.blk (by simp [otag]) e
  · rcases hk with hk | hk | hk | hk | hk
    · exact .inl (.inl hk)
    · injection hk with hk; exact .inr (by omega)
    · exact .inl (.inr (.inr (.inl hk)))
    · simp [Value.ownBlock] at hk
    · simp at hk
/-- What Boot leaves behind. -/
def BootPost (w : World) (A : Nat) (L : Lay) (s : Ag) (now : Int) (e : Ending) (w' : World) : Prop :=
  e = .returned (.int .i64 0) ∧ ∃ M, AgAt w' A (L.boots M) (s.boots now) ∧ Chg (fun k => k = A) w w' ∧ ∀ k, (L.boots M).own A k → L.own A k ∨ w.heap.size ≤ k
set_option maxHeartbeats 2000000 in
theorem boot_ok (w : World) {A : Nat} {L : Lay} {s : Ag} (h : AgAt w A L s) (now : Int) (h0 : ¬ now < s.tick) (hn : ¬ (1099511627776 : Int) ≤ now) (hup : s.up = false) :
    Calls Try.prog 10 #[.pointer (some ⟨A, 0, none⟩), .int .i64 now] w fun e w' => BootPost w A L s now e w' := by
  have hmm := @run_makeMap Try.prog
  have hb := h.drew.blk
  have HE := Lib.hid (fun w2 w3 => boot_end (w := w.drew) (w2 := w2) (w3 := w3) (M := w.drew.heap.size) h.drew now rfl)
  have HWC : Hid (Chg (fun k => k = A) w w.drew) := Lib.hid (Chg.refl _ w).drew
  have f7 : w.cell? ⟨A, 7, none⟩ = some (.int .i64 s.tick) := cellb (i := 7) h.blk rfl
  have f6 : w.cell? ⟨A, 6, none⟩ = some (.bool false) := by rw [← hup]; exact cellb (i := 6) h.blk rfl
  have g0 : w.drew.cell? ⟨A, 0, none⟩ = some (.int .i64 s.node) := cellb (i := 0) hb rfl
  have g1 : w.drew.cell? ⟨A, 1, none⟩ = some (.int .i64 s.g0) := cellb (i := 1) hb rfl
  have g2 : w.drew.cell? ⟨A, 2, none⟩ = some (.int .i64 s.g1) := cellb (i := 2) hb rfl
  have g3 : w.drew.cell? ⟨A, 3, none⟩ = some (.int .i64 s.g2) := cellb (i := 3) hb rfl
  have g4 : w.drew.cell? ⟨A, 4, none⟩ = some (.int .i64 s.g3) := cellb (i := 4) hb rfl
  have g5 : w.drew.cell? ⟨A, 5, none⟩ = some (.slice L.WA L.nw L.cw) := cellb (i := 5) hb rfl
  have HBLK := Lib.hid hb
  clear h hup hb
  go_enter Try.func10, Try.ntmps10
  go_upto_region 5 with fail
  clear f7 f6
  refine wp_region_noPanic ?_
  refine wp_region_held_drew (S := fun w' => w'.cell? ⟨A, 0, none⟩ = some (.int .i64 s.node) ∧ w'.cell? ⟨A, 1, none⟩ = some (.int .i64 s.g0) ∧ w'.cell? ⟨A, 2, none⟩ = some (.int .i64 s.g1) ∧ w'.cell? ⟨A, 3, none⟩ = some (.int .i64 s.g2) ∧ w'.cell? ⟨A, 4, none⟩ = some (.int .i64 s.g3) ∧ w'.cell? ⟨A, 5, none⟩ = some (.slice L.WA L.nw L.cw)) (by kernel_rfl) ?_ (fun hHeld => ?_)
  · try dsimp only
    (refine ⟨?_, ?_, ?_, ?_, ?_, ?_⟩ <;> (first | with_reducible assumption))
  generalize w.drew = W at *
  refine tk 0 ?_
  try simp only [Act.put, p1, p2, p3]
  refine tk 1 ?_
  try simp only [Act.put, p1, p2, p3]
  refine tk 2 ?_
  try simp only [Act.put, p1, p2, p3]
  refine tk 3 ?_
  try simp only [Act.put, p1, p2, p3]
  refine tk 4 ?_
  try simp only [Act.put, p1, p2, p3]
  refine tk 5 ?_
  try simp only [Act.put, p1, p2, p3]
  refine tk 6 ?_
  try simp only [Act.put, p1, p2, p3]
  refine tk 7 ?_
  try simp only [Act.put, p1, p2, p3]
  refine tk 8 ?_
  try simp only [Act.put, p1, p2, p3]
  refine tk 9 ?_
  try simp only [Act.put, p1, p2, p3]
  refine tk 10 ?_
  try simp only [Act.put, p1, p2, p3]
  refine tk 11 ?_
  try simp only [Act.put, p1, p2, p3]
  refine tk 12 ?_
  try simp only [Act.put, p1, p2, p3]
  refine tk 13 ?_
  try simp only [Act.put, p1, p2, p3]
  refine tk 14 ?_
  try simp only [Act.put, p1, p2, p3]
  refine rd 15 fun K hK => ?_
  go_simp
  have i0 : (W.alloc (.map #[] 0)).cell? ⟨A, 0, none⟩ = some (.int .i64 s.node) := keepA g0
  have i1 : (W.alloc (.map #[] 0)).cell? ⟨A, 1, none⟩ = some (.int .i64 s.g0) := keepA g1
  have i2 : (W.alloc (.map #[] 0)).cell? ⟨A, 2, none⟩ = some (.int .i64 s.g1) := keepA g2
  have i3 : (W.alloc (.map #[] 0)).cell? ⟨A, 3, none⟩ = some (.int .i64 s.g2) := keepA g3
  have i4 : (W.alloc (.map #[] 0)).cell? ⟨A, 4, none⟩ = some (.int .i64 s.g3) := keepA g4
  have i5 : (W.alloc (.map #[] 0)).cell? ⟨A, 5, none⟩ = some (.slice L.WA L.nw L.cw) := keepA g5
  clear g0 g1 g2 g3 g4 g5
  refine hK.out _ _ ?_ (fun hHeld => ?_)
  · try dsimp only
    (refine ⟨?_, ?_, ?_, ?_, ?_, ?_⟩ <;> (first | with_reducible assumption))
  clear hK K
  try simp only [Act.put, p1, p2, p3]
  refine tk 16 ?_
  try simp only [Act.put, p1, p2, p3]
  refine tk 17 ?_
  try simp only [Act.put, p1, p2, p3]
  refine rd 18 fun K hK => ?_
  have HB2 : Hid ((W.alloc (.map #[] 0)).heap[A]? = some (.cells (s.cells L) 60 (0, 0))) := Lib.hid (alloc_blk HBLK.out)
  refine wp_store_row 60 (.tmp 40) (.tmp 39) rfl A #[.int .i64 s.node, .int .i64 s.g0, .int .i64 s.g1, .int .i64 s.g2, .int .i64 s.g3, .slice L.WA L.nw L.cw, .bool true, .int .i64 now, .int .i64 now, .int .i64 0, .int .i64 0, .int .i64 0, .bool false, .int .i64 0, .map (some W.heap.size), .slice none 0 0] rfl rfl 60 _ HB2.out (by kernel_rfl) rfl (by simp [Value.oneCell']) ?_
  have HN := Lib.hid (HE.out (W.alloc (.map #[] 0)) ((W.alloc (.map #[] 0)).setRow A #[.int .i64 s.node, .int .i64 s.g0, .int .i64 s.g1, .int .i64 s.g2, .int .i64 s.g3, .slice L.WA L.nw L.cw, .bool true, .int .i64 now, .int .i64 now, .int .i64 0, .int .i64 0, .int .i64 0, .bool false, .int .i64 0, .map (some W.heap.size), .slice none 0 0]) rfl rfl)
  have j0 : ((W.alloc (.map #[] 0)).setRow A #[.int .i64 s.node, .int .i64 s.g0, .int .i64 s.g1, .int .i64 s.g2, .int .i64 s.g3, .slice L.WA L.nw L.cw, .bool true, .int .i64 now, .int .i64 now, .int .i64 0, .int .i64 0, .int .i64 0, .bool false, .int .i64 0, .map (some W.heap.size), .slice none 0 0]).cell? ⟨A, 0, none⟩ = some (.int .i64 s.node) := cellb (i := 0) HN.out.1.blk rfl
  have j1 : ((W.alloc (.map #[] 0)).setRow A #[.int .i64 s.node, .int .i64 s.g0, .int .i64 s.g1, .int .i64 s.g2, .int .i64 s.g3, .slice L.WA L.nw L.cw, .bool true, .int .i64 now, .int .i64 now, .int .i64 0, .int .i64 0, .int .i64 0, .bool false, .int .i64 0, .map (some W.heap.size), .slice none 0 0]).cell? ⟨A, 1, none⟩ = some (.int .i64 s.g0) := cellb (i := 1) HN.out.1.blk rfl
  have j2 : ((W.alloc (.map #[] 0)).setRow A #[.int .i64 s.node, .int .i64 s.g0, .int .i64 s.g1, .int .i64 s.g2, .int .i64 s.g3, .slice L.WA L.nw L.cw, .bool true, .int .i64 now, .int .i64 now, .int .i64 0, .int .i64 0, .int .i64 0, .bool false, .int .i64 0, .map (some W.heap.size), .slice none 0 0]).cell? ⟨A, 2, none⟩ = some (.int .i64 s.g1) := cellb (i := 2) HN.out.1.blk rfl
  have j3 : ((W.alloc (.map #[] 0)).setRow A #[.int .i64 s.node, .int .i64 s.g0, .int .i64 s.g1, .int .i64 s.g2, .int .i64 s.g3, .slice L.WA L.nw L.cw, .bool true, .int .i64 now, .int .i64 now, .int .i64 0, .int .i64 0, .int .i64 0, .bool false, .int .i64 0, .map (some W.heap.size), .slice none 0 0]).cell? ⟨A, 3, none⟩ = some (.int .i64 s.g2) := cellb (i := 3) HN.out.1.blk rfl
  have j4 : ((W.alloc (.map #[] 0)).setRow A #[.int .i64 s.node, .int .i64 s.g0, .int .i64 s.g1, .int .i64 s.g2, .int .i64 s.g3, .slice L.WA L.nw L.cw, .bool true, .int .i64 now, .int .i64 now, .int .i64 0, .int .i64 0, .int .i64 0, .bool false, .int .i64 0, .map (some W.heap.size), .slice none 0 0]).cell? ⟨A, 4, none⟩ = some (.int .i64 s.g3) := cellb (i := 4) HN.out.1.blk rfl
  have j5 : ((W.alloc (.map #[] 0)).setRow A #[.int .i64 s.node, .int .i64 s.g0, .int .i64 s.g1, .int .i64 s.g2, .int .i64 s.g3, .slice L.WA L.nw L.cw, .bool true, .int .i64 now, .int .i64 now, .int .i64 0, .int .i64 0, .int .i64 0, .bool false, .int .i64 0, .map (some W.heap.size), .slice none 0 0]).cell? ⟨A, 5, none⟩ = some (.slice L.WA L.nw L.cw) := cellb (i := 5) HN.out.1.blk rfl
  refine hK.out _ _ ?_ (fun hHeld => ?_)
  · try dsimp only
    (refine ⟨?_, ?_, ?_, ?_, ?_, ?_⟩ <;> (first | with_reducible assumption))
  clear hK K
  try simp only [Act.put]
  refine wpAnyH_done (by kernel_rfl) ?_ _
  refine NoPanic.normal ?_
  clear hHeld
  go_wp2_with fail
  go_ret
  exact ⟨rfl, _, HN.out.1, HWC.out.trans HN.out.2.1, fun k hk => (HN.out.2.2 k hk).imp id (Nat.le_trans HWC.out.size)⟩
end Go.Proofs.Ytoeamofemepgpaa
