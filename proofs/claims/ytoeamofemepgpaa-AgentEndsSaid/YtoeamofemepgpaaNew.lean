/- Chapter 20: New. -/
import Derived.Test.YtoeamofemepgpaaBoot
import Derived.Test.YtoeamofemepgpaaRight
namespace Go.Proofs.Ytoeamofemepgpaa
open Go.RowKit

theorem Try.infoI : (Try.prog.info? 3).map (fun i => (i.zero, i.size, i.bytes)) = some (some (.int .i64 0), 1, 8) := by kernel_rfl
/-- What Clone answers. -/
def ClonePost (w : World) (n : Nat) (l : List Int) (e : Ending) (w' : World) : Prop :=
  ∃ A2 c2, e = .returned (.slice A2 n c2) ∧ w'.ownsRow w.heap.size 3 1 (.slice A2 n c2) n (ints l) ∧ Below w.heap.size w w'
theorem ints_one (l : List Int) : ∀ u ∈ ints l, u.oneCell' = true := by
  intro u hu
  simp at hu
  obtain ⟨x, _, rfl⟩ := hu
  rfl
theorem clone_nil (w : World) : Calls Try.prog 22 #[.slice none 0 0] w fun e w' => ClonePost w 0 [] e w' := by
  have hq := fun w => run_eql_nil_slice (P := Try.prog) w 27 3 none 0 0 0 0 Try.underlying27
  go_enter Try.func22, Try.ntmps22
  go_wp2_with fail
  go_ret
  exact ⟨none, 0, rfl, ⟨rfl, .inl ⟨rfl, rfl⟩⟩, Below.refl _ _⟩
set_option maxHeartbeats 1000000 in
theorem clone_some (w : World) (a : Addr) (n c : Nat) (l : List Int) (h : CellsIn w w.heap.size 1 (some a) n (ints l)) (hl : n ≤ 1000000) :
    Calls Try.prog 22 #[.slice (some a) n c] w fun e w' => ClonePost w n l e w' := by
  obtain ⟨iI, hi, hz0, hz1, hz2⟩ := info_parts Try.infoI
  have hal : Below w.heap.size w (w.alloc (.cells #[] 3)) := (Below.refl _ _).alloc (Nat.le_refl _) _
  have how := own_alloc w #[] 3 1 0 w.heap.size rfl (by unfold maxLen; omega) (Nat.le_refl _)
  have hr : CellsIn (w.alloc (.cells #[] 3)) w.heap.size 1 (some a) n (ints l) := by
    refine ⟨h.len, ?_⟩
    rcases h.rd with e | ⟨b, off, ha, hb, hr⟩
    · exact .inl e
    · exact .inr ⟨b, off, ha, hb, fun j u hu => (hal.cell (p := ⟨b, off + j, none⟩) hb).trans (hr j u hu)⟩
  have HR := Lib.hid hr
  have HO := Lib.hid how
  have HB := Lib.hid hal
  have hq := fun w => Lib.run_eql_slice_nil (P := Try.prog) w 27 3 (some a) n c 0 0 Try.underlying27
  clear h hal how hr
  go_enter Try.func22, Try.ntmps22
  go_wp2_with (at_builtin; refine wpList_append_row _ rfl (.tmp 5) (.tmp 6) _ rfl w.heap.size 3 iI _ 1 8 Try.underlying27 hi hz0 hz1 hz2 rfl (by omega) _ 0 0 _ rfl HO.out _ _ n _ _ rfl HR.out (ints_one l) (by unfold maxLen; omega) (by omega) (by simp) (fun A2 c2 w1 hown hg hor => ?_))
  have HO2 := Lib.hid (own_norm hown)
  have HB2 := Lib.hid (HB.out.grown hg (by simp) (fun k hk => (HO.out.lt k hk).1))
  clear hown hg hor
  go_ret
  exact ⟨A2, c2, rfl, HO2.out, HB2.out⟩
theorem clone_any (w : World) (A : Option Addr) (n c : Nat) (l : List Int) (h : CellsIn w w.heap.size 1 A n (ints l)) (hn : n = l.length) (hl : n ≤ 1000000) (h0 : A = none → n = 0 ∧ c = 0) :
    Calls Try.prog 22 #[.slice A n c] w fun e w' => ClonePost w n l e w' := by
  cases A with
  | none =>
    obtain ⟨rfl, rfl⟩ := h0 rfl
    have : l = [] := List.eq_nil_of_length_eq_zero hn.symm
    subst this
    exact clone_nil w
  | some a => exact clone_some w a n c l h hl
/-- A new agent. -/
def Ag.new (node : Int) (g : Nat → Int) (l : List Int) : Ag := { node := node, g0 := g 0, g1 := g 1, g2 := g 2, g3 := g 3, work := l, up := false, tick := 0, boot := 0, since := 0, until_ := 0, epoch := 0, beat := false, at_ := 0, ps := [] }
def rightB (g : Nat → Int) : Bool := okb (g 0) && okb (g 1) && okb (g 2) && okb (g 3)
theorem new_no (w : World) (node : Int) (g : Nat → Int) (A : Option Addr) (n c : Nat) (h : node < 0 ∨ 16 ≤ node ∨ rightB g = false) :
    Calls Try.prog 9 #[.int .i64 node, .agg #[.int .i64 (g 0), .int .i64 (g 1), .int .i64 (g 2), .int .i64 (g 3)], .slice A n c] w fun e w' => e = .returned (.pointer none) ∧ Below w.heap.size w w' := by
  have hal : Below w.heap.size w (w.alloc (.cells #[.int .i64 (g 0), .int .i64 (g 1), .int .i64 (g 2), .int .i64 (g 3)] 26)) := (Below.refl _ _).alloc (Nat.le_refl _) _
  by_cases h0 : node < 0
  · have HB := Lib.hid hal
    clear h hal
    go_enter Try.func9, Try.ntmps9
    go_wp2_with fail
    go_ret
    exact ⟨rfl, HB.out⟩
  · by_cases h1 : 16 ≤ node
    · have HB := Lib.hid hal
      clear h hal
      go_enter Try.func9, Try.ntmps9
      go_wp2_with fail
      go_ret
      exact ⟨rfl, HB.out⟩
    · have hr : rightB g = false := by exact h.elim (fun h => absurd h h0) (fun h => h.elim (fun h => absurd h h1) id)
      have HR := Lib.hid hr
      have HB := Lib.hid hal
      have R1 := Lib.hid (right_any g (w.alloc (.cells #[.int .i64 (g 0), .int .i64 (g 1), .int .i64 (g 2), .int .i64 (g 3)] 26)))
      clear h hal hr
      go_enter Try.func9, Try.ntmps9
      go_wp2_with fail
      refine R1.out.mono ?_
      rintro e w' ⟨rfl, hb⟩
      have HB2 := Lib.hid (HB.out.trans (hb.mono (by simp)))
      have hr2 : (okb (g 0) && okb (g 1) && okb (g 2) && okb (g 3)) = false := HR.out
      clear hb R1
      rw [hr2]
      clear hr2
      go_wp2_with fail
      go_ret
      exact ⟨rfl, HB2.out⟩
/-- An amount in a box. -/
def VAt0 (w : World) (b : Nat) (g : Nat → Int) : Prop := w.heap[b]? = some (.cells #[.int .i64 (g 0), .int .i64 (g 1), .int .i64 (g 2), .int .i64 (g 3)] 26 (0, 0))
/-- What New answers. -/
def NewPost (w : World) (s : Ag) (e : Ending) (w' : World) : Prop :=
  ∃ A L, e = .returned (.pointer (some ⟨A, 0, none⟩)) ∧ AgAt w' A L s ∧ Below w.heap.size w w' ∧ ∀ k, L.own A k → w.heap.size ≤ k
set_option maxHeartbeats 2000000 in
theorem new_ok (w : World) (node : Int) (g : Nat → Int) (A : Option Addr) (n c : Nat) (l : List Int) (h0 : 0 ≤ node) (h1 : node < 16) (hr : rightB g = true)
    (h : CellsIn w w.heap.size 1 A n (ints l)) (hn : n = l.length) (hl : n ≤ 1000000) (hnil : A = none → n = 0 ∧ c = 0) :
    Calls Try.prog 9 #[.int .i64 node, .agg #[.int .i64 (g 0), .int .i64 (g 1), .int .i64 (g 2), .int .i64 (g 3)], .slice A n c] w fun e w' => NewPost w (Ag.new node g l) e w' := by
  have hal : Below w.heap.size w (w.alloc (.cells #[.int .i64 (g 0), .int .i64 (g 1), .int .i64 (g 2), .int .i64 (g 3)] 26)) := (Below.refl _ _).alloc (Nat.le_refl _) _
  have hm : VAt0 (w.alloc (.cells #[.int .i64 (g 0), .int .i64 (g 1), .int .i64 (g 2), .int .i64 (g 3)] 26)) w.heap.size g := heap_alloc_new w _
  have HR := Lib.hid hr
  have HB := Lib.hid hal
  have HM := Lib.hid hm
  have HC := Lib.hid h
  have HN := Lib.hid hn
  have R1 := Lib.hid (right_any g (w.alloc (.cells #[.int .i64 (g 0), .int .i64 (g 1), .int .i64 (g 2), .int .i64 (g 3)] 26)))
  have q0 : ¬ node < 0 := by omega
  have q1 : ¬ 16 ≤ node := by omega
  clear hal hr hm h hn h0 h1
  go_enter Try.func9, Try.ntmps9
  go_wp2_with fail
  refine R1.out.mono ?_
  rintro e w2 ⟨rfl, hb⟩
  have HB2 := Lib.hid (HB.out.trans (hb.mono (by simp)))
  have HM2 : Hid (VAt0 w2 w.heap.size g) := Lib.hid ((hb.block _ (by simp)).trans HM.out)
  have hr2 : (okb (g 0) && okb (g 1) && okb (g 2) && okb (g 3)) = true := HR.out
  clear hb R1
  rw [hr2]
  clear hr2
  go_upto_region 3 with fail
  have m0 : w2.drew.cell? ⟨w.heap.size, 0, none⟩ = some (.int .i64 (g 0)) := cellb (i := 0) HM2.out rfl
  have m1 : w2.drew.cell? ⟨w.heap.size, 1, none⟩ = some (.int .i64 (g 1)) := cellb (i := 1) HM2.out rfl
  have m2 : w2.drew.cell? ⟨w.heap.size, 2, none⟩ = some (.int .i64 (g 2)) := cellb (i := 2) HM2.out rfl
  have m3 : w2.drew.cell? ⟨w.heap.size, 3, none⟩ = some (.int .i64 (g 3)) := cellb (i := 3) HM2.out rfl
  have HB3 : Hid (Below w.heap.size w w2.drew) := Lib.hid HB2.out.drew
  have HC3 : Hid (CellsIn w2.drew w2.drew.heap.size 1 A n (ints l)) := Lib.hid (by
    refine ⟨HC.out.len, ?_⟩
    rcases HC.out.rd with e | ⟨b, off, ha, hb, hr⟩
    · exact .inl e
    · exact .inr ⟨b, off, ha, Nat.lt_of_lt_of_le hb HB3.out.size, fun j u hu => (HB3.out.cell (p := ⟨b, off + j, none⟩) hb).trans (hr j u hu)⟩)
  have hlt : w.heap.size < w2.drew.heap.size := ltb (show w2.drew.heap[w.heap.size]? = _ from HM2.out)
  clear HM HM2 HC HB HB2 HR
  refine wp_region_noPanic ?_
  refine wp_region_held_drew (S := fun w' => w'.cell? ⟨w.heap.size, 0, none⟩ = some (.int .i64 (g 0)) ∧ w'.cell? ⟨w.heap.size, 1, none⟩ = some (.int .i64 (g 1)) ∧ w'.cell? ⟨w.heap.size, 2, none⟩ = some (.int .i64 (g 2)) ∧ w'.cell? ⟨w.heap.size, 3, none⟩ = some (.int .i64 (g 3))) (by kernel_rfl) ?_ (fun hHeld => ?_)
  · try dsimp only
    (refine ⟨?_, ?_, ?_, ?_⟩ <;> (first | with_reducible assumption))
  generalize w2.drew = W at *
  refine tk 0 ?_
  try simp only [Act.put, p1, p2, p3]
  refine tk 1 ?_
  try simp only [Act.put, p1, p2, p3]
  refine tk 2 ?_
  try simp only [Act.put, p1, p2, p3]
  refine rd 3 fun K hK => ?_
  go_simp
  refine (clone_any W A n c l HC3.out HN.out hl hnil).mono ?_
  rintro e w4 ⟨A2, c2, rfl, hown, hb⟩
  have i0 : w4.cell? ⟨w.heap.size, 0, none⟩ = some (.int .i64 (g 0)) := (hb.cell (p := ⟨w.heap.size, 0, none⟩) hlt).trans m0
  have i1 : w4.cell? ⟨w.heap.size, 1, none⟩ = some (.int .i64 (g 1)) := (hb.cell (p := ⟨w.heap.size, 1, none⟩) hlt).trans m1
  have i2 : w4.cell? ⟨w.heap.size, 2, none⟩ = some (.int .i64 (g 2)) := (hb.cell (p := ⟨w.heap.size, 2, none⟩) hlt).trans m2
  have i3 : w4.cell? ⟨w.heap.size, 3, none⟩ = some (.int .i64 (g 3)) := (hb.cell (p := ⟨w.heap.size, 3, none⟩) hlt).trans m3
  have HO := Lib.hid hown
  have HB4 := Lib.hid (HB3.out.trans (hb.mono HB3.out.size))
  have hle : w.heap.size ≤ W.heap.size := HB3.out.size
  have hlt4 : w.heap.size < w4.heap.size := Nat.lt_of_lt_of_le hlt hb.size
  clear hown hb m0 m1 m2 m3
  refine hK.out _ _ ?_ (fun hHeld => ?_)
  · try dsimp only
    (refine ⟨?_, ?_, ?_, ?_⟩ <;> (first | with_reducible assumption))
  clear hK K
  try simp only [Act.put, p1, p2, p3]
  refine tk 4 ?_
  try simp only [Act.put, p1, p2, p3]
  refine rd 5 fun K hK => ?_
  go_simp
  have j0 : (w4.alloc (.cells #[.int .i64 node, .int .i64 (g 0), .int .i64 (g 1), .int .i64 (g 2), .int .i64 (g 3), .slice A2 n c2, .bool false, .int .i64 0, .int .i64 0, .int .i64 0, .int .i64 0, .int .i64 0, .bool false, .int .i64 0, .map none, .slice none 0 0] 60)).cell? ⟨w.heap.size, 0, none⟩ = some (.int .i64 (g 0)) := keepA i0
  have j1 : (w4.alloc (.cells #[.int .i64 node, .int .i64 (g 0), .int .i64 (g 1), .int .i64 (g 2), .int .i64 (g 3), .slice A2 n c2, .bool false, .int .i64 0, .int .i64 0, .int .i64 0, .int .i64 0, .int .i64 0, .bool false, .int .i64 0, .map none, .slice none 0 0] 60)).cell? ⟨w.heap.size, 1, none⟩ = some (.int .i64 (g 1)) := keepA i1
  have j2 : (w4.alloc (.cells #[.int .i64 node, .int .i64 (g 0), .int .i64 (g 1), .int .i64 (g 2), .int .i64 (g 3), .slice A2 n c2, .bool false, .int .i64 0, .int .i64 0, .int .i64 0, .int .i64 0, .int .i64 0, .bool false, .int .i64 0, .map none, .slice none 0 0] 60)).cell? ⟨w.heap.size, 2, none⟩ = some (.int .i64 (g 2)) := keepA i2
  have j3 : (w4.alloc (.cells #[.int .i64 node, .int .i64 (g 0), .int .i64 (g 1), .int .i64 (g 2), .int .i64 (g 3), .slice A2 n c2, .bool false, .int .i64 0, .int .i64 0, .int .i64 0, .int .i64 0, .int .i64 0, .bool false, .int .i64 0, .map none, .slice none 0 0] 60)).cell? ⟨w.heap.size, 3, none⟩ = some (.int .i64 (g 3)) := keepA i3
  refine hK.out _ _ ?_ (fun hHeld => ?_)
  · try dsimp only
    (refine ⟨?_, ?_, ?_, ?_⟩ <;> (first | with_reducible assumption))
  clear hK K
  try simp only [Act.put, p1, p2, p3]
  refine tk 6 ?_
  try simp only [Act.put, p1, p2, p3]
  refine wpAnyH_done (by kernel_rfl) ?_ _
  refine NoPanic.normal ?_
  clear hHeld
  have HP : Hid (AgAt (w4.alloc (.cells #[.int .i64 node, .int .i64 (g 0), .int .i64 (g 1), .int .i64 (g 2), .int .i64 (g 3), .slice A2 n c2, .bool false, .int .i64 0, .int .i64 0, .int .i64 0, .int .i64 0, .int .i64 0, .bool false, .int .i64 0, .map none, .slice none 0 0] 60)) w4.heap.size ⟨none, A2, n, c2, none, 0, 0, []⟩ (Ag.new node g l)) := Lib.hid (by
    refine ⟨heap_alloc_new w4 _, rfl, fun h => (by cases h), HN.out, own_low (HO.out.alloc _) (Nat.zero_le _), ⟨rfl, .inl ⟨rfl, rfl⟩⟩, rfl, rfl, fun i b p hb => by simp at hb, List.nodup_nil⟩)
  go_wp2_with fail
  go_ret
  refine ⟨_, _, rfl, HP.out, HB4.out.alloc (Nat.le_of_lt hlt4) _, fun k hk => ?_⟩
  rcases hk with hk | hk | hk | hk | hk
  · omega
  · cases hk
  · exact Nat.le_trans hle (HO.out.lt k hk).1
  · simp [Value.ownBlock] at hk
  · simp at hk
end Go.Proofs.Ytoeamofemepgpaa
