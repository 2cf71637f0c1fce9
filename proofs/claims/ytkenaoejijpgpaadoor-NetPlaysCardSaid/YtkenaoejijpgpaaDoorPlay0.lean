/- Rows of the document's packets. -/
import Derived.Test.YtkenaoejijpgpaaDoorNetD
import Derived.Test.YtkenaoejijpgpaaDoorNetC
import Derived.Test.YtkenaoejijpgpaaDoorPack
namespace Go.Proofs.YtkenaoejijpgpaaDoor
open Go.RowKit

def rkc (p : Int × List UInt8) : List Value := [.int .i64 p.1, .string (str p.2)]
def rks (L : List (Int × List UInt8)) : List Value := L.flatMap rkc
theorem rks_append (a b : List (Int × List UInt8)) : rks (a ++ b) = rks a ++ rks b := by simp [rks]
theorem rks_length (l : List (Int × List UInt8)) : (rks l).length = l.length * 2 := by
  induction l with
  | nil => rfl
  | cons x l ih => show (rkc x ++ rks l).length = _; rw [List.length_append, ih]; simp [rkc]; omega
theorem rks_get (l : List (Int × List UInt8)) : ∀ {j : Nat} {p : Int × List UInt8}, l[j]? = some p → (rks l)[j * 2]? = some (.int .i64 p.1) ∧ (rks l)[j * 2 + 1]? = some (.string (str p.2)) := by
  induction l with
  | nil => intro j p h; simp at h
  | cons x l ih =>
    intro j p h
    have e : rks (x :: l) = rkc x ++ rks l := rfl
    rw [e]
    cases j with
    | zero =>
      simp only [List.getElem?_cons_zero, Option.some.injEq] at h
      subst h
      exact ⟨rfl, rfl⟩
    | succ j =>
      rw [List.getElem?_cons_succ] at h
      have := ih h
      rw [List.getElem?_append_right (by simp [rkc]; omega), List.getElem?_append_right (by simp [rkc]; omega)]
      have e1 : (j + 1) * 2 - (rkc x).length = j * 2 := by simp [rkc]; omega
      have e2 : (j + 1) * 2 + 1 - (rkc x).length = j * 2 + 1 := by simp [rkc]; omega
      rw [e1, e2]; exact this
theorem rks_one (l : List (Int × List UInt8)) : ∀ u ∈ rks l, u.oneCell' = true := by
  intro u hu
  obtain ⟨p, _, hp⟩ := List.mem_flatMap.1 hu
  simp only [rkc, List.mem_cons, List.not_mem_nil, or_false] at hp
  rcases hp with rfl | rfl <;> rfl
theorem Tryd.infoR : (Tryd.prog.info? 55).map (fun i => (i.zero, i.size, i.bytes)) = some (some (.agg #[.int .i64 0, .string ⟨#[]⟩]), 2, 24) := by kernel_rfl
/-- A row of the document's packets. -/
def RL (w : World) (S : Nat) (A : Option Addr) (n c : Nat) (L : List (Int × List UInt8)) : Prop := n = L.length ∧ w.ownsRow S 55 2 (.slice A n c) n (rks L)
theorem RL.below {w w' : World} {S n c : Nat} {A : Option Addr} {L : List (Int × List UInt8)} (h : RL w S A n c L) (hb : Below w.heap.size w w') : RL w' S A n c L :=
  ⟨h.1, h.2.kept (grown_of_below hb none) (by cases A <;> simp [Value.ownBlock])⟩
theorem RL.nch {w w' : World} {B S n c : Nat} {A : Option Addr} {L : List (Int × List UInt8)} (h : RL w S A n c L) (hb : NCh B w w') : RL w' S A n c L := ⟨h.1, hb.own h.2 (by decide) (by decide)⟩
theorem RL.cells {w : World} {S n c : Nat} {A : Option Addr} {L : List (Int × List UInt8)} (h : RL w S A n c L) : CellsIn w w.heap.size 2 A n (rks L) := cellsIn_of_own h.2
theorem RL.le {w : World} {S n c : Nat} {A : Option Addr} {L : List (Int × List UInt8)} (h : RL w S A n c L) : n ≤ c ∧ c ≤ maxLen := ⟨RowV.le (.inl h.2), RowV.cap (.inl h.2)⟩
theorem RL.pk {w : World} {S n c j : Nat} {A : Option Addr} {L : List (Int × List UInt8)} {p : Int × List UInt8} (h : RL w S A n c L) (hp : L[j]? = some p) : ∃ b, A = some ⟨b, 0, none⟩ ∧ S ≤ b ∧ b < w.heap.size ∧ w.cell? ⟨b, j * 2, none⟩ = some (.int .i64 p.1) ∧ w.cell? ⟨b, j * 2 + 1, none⟩ = some (.string (str p.2)) ∧ (∃ cur, w.heap[b]? = some (.cells cur 55 (0, 0))) := by
  have hj : j < L.length := (List.getElem?_eq_some_iff.1 hp).1
  obtain ⟨b, h1, h2, h3, h4, h5⟩ := RowV.at_ (.inl h.2) (j := 0) (by rw [rks_length]; omega)
  have hg := rks_get L hp
  exact ⟨b, h1, h2, h3, h5 _ _ hg.1, h5 _ _ hg.2, h4⟩
/-- What Put and Out answer. -/
def RLTo (S : Nat) (L : List (Int × List UInt8)) (w : World) (e : Ending) (w' : World) : Prop := ∃ A2 n2 c2, e = .returned (.slice A2 n2 c2) ∧ RL w' S A2 n2 c2 L ∧ Below w.heap.size w w'
set_option maxRecDepth 100000 in
theorem put_full (A : Option Addr) (n c S : Nat) (L : List (Int × List UInt8)) (t : Int) (bs : List UInt8) (w : World) (h : RL w S A n c L) (hn : 1000 ≤ n) :
    Calls Tryd.prog 53 #[.slice A n c, .agg #[.int .i64 t, .string (str bs)]] w (RLTo S L w) := by
  have hal : Below w.heap.size w (w.alloc (.cells #[.int .i64 t, .string (str bs)] 55)) := (Below.refl _ _).alloc (Nat.le_refl _) _
  have H := Lib.hid (h.below hal)
  have HB := Lib.hid hal
  have hq : (1000 : Int) ≤ (n : Int) := by omega
  clear h hal hn
  go_enter Tryd.func53, Tryd.ntmps53
  go_wp2_with fail
  go_ret
  exact ⟨A, n, c, rfl, H.out, HB.out⟩
set_option maxRecDepth 100000 in
set_option maxHeartbeats 2000000 in
theorem put_any (A : Option Addr) (n c S : Nat) (L : List (Int × List UInt8)) (t : Int) (bs : List UInt8) (w : World) (h : RL w S A n c L) (hS : S ≤ w.heap.size) (hn : n < 1000) :
    Calls Tryd.prog 53 #[.slice A n c, .agg #[.int .i64 t, .string (str bs)]] w (RLTo S (L ++ [(t, bs)]) w) := by
  obtain ⟨iR, hi, hz0, hz1, hz2⟩ := info_parts Tryd.infoR
  obtain ⟨X, hX⟩ : ∃ x, x = w.heap.size := ⟨_, rfl⟩
  obtain ⟨w0, hw0⟩ : ∃ y, y = w.alloc (.cells #[.int .i64 t, .string (str bs)] 55) := ⟨_, rfl⟩
  have hal : Below w.heap.size w w0 := by rw [hw0]; exact (Below.refl _ _).alloc (Nat.le_refl _) _
  have hx : w0.heap[X]? = some (.cells #[.int .i64 t, .string (str bs)] 55 (0, 0)) := by rw [hw0, hX]; exact heap_alloc_new w _
  have HB0 := Lib.hid hal
  have HX := Lib.hid hx
  have HL := Lib.hid (h.below hal)
  have hs0 : S ≤ w0.heap.size := Nat.le_trans hS hal.size
  have hw0s : w.heap.size ≤ w0.heap.size := hal.size
  have HW := Lib.hid hw0
  have HXW := Lib.hid hX
  have HR0 := Lib.hid (h.below hal).cells
  have hq : ¬ (1000 : Int) ≤ (n : Int) := by omega
  have HNL := Lib.hid h.1
  clear h hal hx hw0 hX
  go_enter Tryd.func53, Tryd.ntmps53
  go_upto_region 4 with fail
  rw [← HXW.out, ← HW.out]
  clear HW hq
  go_upto_region 5 with (at_builtin; refine wpList_append_row _ rfl (.tmp 10) (.tmp 11) _ rfl w0.heap.size 55 iR _ 2 24 Tryd.underlying49 hi hz0 hz1 hz2 rfl (by omega) none 0 0 [] rfl (World.ownsRow_nil _ _ _ _) _ _ n _ _ rfl HR0.out (rks_one L) (by unfold maxLen; omega) (by omega) (Nat.le_refl _) (fun A2 c2 w1 hown hg hor => ?_))
  have HO1 := Lib.hid (own_norm hown)
  have hbg : Below w0.heap.size w0 w1 := (Below.refl _ w0).grown hg (Nat.le_refl _) (fun k hk => by simp [Value.ownBlock] at hk)
  have HB1 := Lib.hid (HB0.out.trans (hbg.mono hw0s))
  have HX1 := Lib.hid ((hbg.block X (ltb HX.out)).trans HX.out)
  have hs1 : w0.heap.size ≤ w1.heap.size := hg.size
  clear hown hg hor hbg
  obtain ⟨w2, hw2⟩ : ∃ y, y = w1.alloc (.cells #[.int .i64 t, .string (str bs)] 55) := ⟨_, rfl⟩
  have hal : Below w1.heap.size w1 w2 := by rw [hw2]; exact (Below.refl _ _).alloc (Nat.le_refl _) _
  have HR2 : Hid (CellsIn w2 (w1.heap.size + 1) 2 (some ⟨w1.heap.size, 0, none⟩) 1 (rks [(t, bs)])) := Lib.hid (by rw [hw2]; exact cellsIn_alloc w1 #[.int .i64 t, .string (str bs)] _ _ 2 1 rfl)
  have HO2 := Lib.hid (HO1.out.kept (grown_of_below hal none) (by cases A2 <;> simp [Value.ownBlock]))
  have HB2 := Lib.hid (HB1.out.trans (hal.mono (Nat.le_trans hw0s hs1)))
  have hs2 : w0.heap.size ≤ w2.heap.size := Nat.le_trans hs1 hal.size
  have k0 : w1.cell? ⟨X, 0, none⟩ = some (.int .i64 t) := cellb (i := 0) HX1.out rfl
  have k1 : w1.cell? ⟨X, 1, none⟩ = some (.string (str bs)) := cellb (i := 1) HX1.out rfl
  clear hal HO1 HB1 HX1
  go_wp2_with (first | (at_builtin; rw [← hw2]; refine wpList_append_row _ rfl (.tmp 13) (.tmp 15) _ rfl w0.heap.size 55 iR _ 2 24 Tryd.underlying49 hi hz0 hz1 hz2 rfl (by omega) A2 n c2 _ rfl HO2.out _ _ 1 _ _ rfl HR2.out (rks_one _) (by unfold maxLen; omega) (by omega) hs2 (fun A3 c3 w3 hown hg hor => ?_)))
  have HO3 := Lib.hid (own_low hown hs0)
  have HB3 := Lib.hid (HB2.out.grown hg (Nat.le_trans hw0s hs2) (fun k hk => Nat.le_trans hw0s (HO2.out.lt k hk).1))
  clear hown hg hor hw2 k0 k1
  go_wp2_with fail
  go_ret
  exact ⟨A3, n + 1, c3, rfl, ⟨by rw [List.length_append, ← HNL.out]; rfl, by rw [rks_append]; exact HO3.out⟩, HB3.out⟩
set_option maxRecDepth 100000 in
set_option maxHeartbeats 2000000 in
theorem out_any (A : Option Addr) (n c S j : Nat) (L : List (Int × List UInt8)) (w : World) (h : RL w S A n c L) (hS : S ≤ w.heap.size) (hj : j < n) (hn : n ≤ 1000) :
    Calls Tryd.prog 54 #[.slice A n c, .int .i64 j] w (RLTo S (L.eraseIdx j) w) := by
  obtain ⟨iR, hi, hz0, hz1, hz2⟩ := info_parts Tryd.infoR
  have hnl := h.1
  have hle := h.le
  obtain ⟨p, hp⟩ : ∃ p, L[j]? = some p := ⟨L[j]'(by omega), List.getElem?_eq_getElem (by omega)⟩
  obtain ⟨b, hA, _, hb, _, _, _⟩ := h.pk hp
  subst hA
  have hc := h.cells
  have hsplit : rks L = rks (L.take j) ++ rks (L.drop j) := by rw [← rks_append, List.take_append_drop]
  have hsplit2 : rks L = rks (L.take (j + 1)) ++ rks (L.drop (j + 1)) := by rw [← rks_append, List.take_append_drop]
  have hl1 : (rks (L.take j)).length = j * 2 := by rw [rks_length, List.length_take]; omega
  have hl2 : (rks (L.take (j + 1))).length = (j + 1) * 2 := by rw [rks_length, List.length_take]; omega
  have hrd : ∀ q u, (rks L)[q]? = some u → w.cell? ⟨b, q, none⟩ = some u := by
    rcases hc.rd with e | ⟨b', off, e, _, hh⟩
    · intro q u hu; rw [e] at hu; simp at hu
    · injection e with e
      injection e with e1 e2
      subst e1 e2
      intro q u hu
      have := hh q u hu
      rwa [Nat.zero_add] at this
  have HC1 : Hid (CellsIn w w.heap.size 2 (some ⟨b, 0, none⟩) j (rks (L.take j))) := Lib.hid ⟨hl1, .inr ⟨b, 0, rfl, hb, fun q u hu => by
    rw [Nat.zero_add]
    refine hrd q u ?_
    have hq := (List.getElem?_eq_some_iff.1 hu).1
    rw [hsplit, List.getElem?_append_left hq]; exact hu⟩⟩
  have HC2 : Hid (∀ A', (A' = some ⟨b, (j + 1) * 2, none⟩ ∨ n = j + 1) → CellsIn w w.heap.size 2 A' (n - (j + 1)) (rks (L.drop (j + 1)))) := Lib.hid (fun A' hA' => by
    refine ⟨by rw [rks_length, List.length_drop, hnl], ?_⟩
    by_cases he : n = j + 1
    · left; rw [List.drop_eq_nil_of_le (by omega)]; rfl
    · right
      refine ⟨b, (j + 1) * 2, hA'.resolve_right he, hb, fun q u hu => hrd _ _ ?_⟩
      rw [hsplit2, List.getElem?_append_right (by omega), hl2]
      rw [show (j + 1) * 2 + q - (j + 1) * 2 = q by omega]
      exact hu)
  have q2 : (j : Int) ≤ (c : Int) := by omega
  have q4 : (j : Int) + 1 ≤ (n : Int) := by omega
  have q5 : j + 1 ≤ n := by omega
  have q6 : j ≤ c := by omega
  have q7 : (0 : Int) ≤ (j : Int) := by omega
  have hres0 : (L.eraseIdx j).length = j + (n - (j + 1)) := by rw [List.length_eraseIdx, if_pos (by omega)]; omega
  have hcm := hle.2
  have hnc := hle.1
  have HRL : Hid (∀ w', RL w' S none 0 0 L → True) := Lib.hid (fun _ _ => trivial)
  have HRES : Hid ((L.eraseIdx j).length = j + (n - (j + 1)) ∧ rks (L.eraseIdx j) = rks (L.take j) ++ rks (L.drop (j + 1))) := Lib.hid ⟨hres0, by rw [List.eraseIdx_eq_take_drop_succ, rks_append]⟩
  clear h hp hb hc hsplit hsplit2 hl1 hl2 hrd HRL hnl hle hres0
  go_enter Tryd.func54, Tryd.ntmps54
  go_upto_region 3 with (at_builtin; refine wpList_append_row _ rfl (.tmp 6) (.tmp 9) _ rfl w.heap.size 55 iR _ 2 24 Tryd.underlying49 hi hz0 hz1 hz2 rfl (by omega) none 0 0 [] rfl (World.ownsRow_nil _ _ _ _) _ _ j _ _ rfl HC1.out (rks_one _) (by unfold maxLen; omega) (by omega) (Nat.le_refl _) (fun A2 c2 w1 hown hg hor => ?_))
  have HO1 := Lib.hid (own_norm hown)
  have hbg : Below w.heap.size w w1 := (Below.refl _ w).grown hg (Nat.le_refl _) (fun k hk => by simp [Value.ownBlock] at hk)
  have HB1 := Lib.hid hbg
  have hs1 : w.heap.size ≤ w1.heap.size := hg.size
  have HC3 : Hid (∀ A', (A' = some ⟨b, (j + 1) * 2, none⟩ ∨ n = j + 1) → CellsIn w1 w1.heap.size 2 A' (n - (j + 1)) (rks (L.drop (j + 1)))) := Lib.hid (fun A' hA' => by
    have hx := HC2.out A' hA'
    exact ⟨hx.len, hx.rd.imp id (fun ⟨b', off, e, hb', hh⟩ => ⟨b', off, e, by omega, fun q u hu => (hbg.cell (p := ⟨b', off + q, none⟩) hb').trans (hh q u hu)⟩)⟩)
  clear hown hg hor hbg
  by_cases hck : c = j + 1
  · have HR3 : Hid (CellsIn w1 w1.heap.size 2 (some ⟨b, 0, none⟩) (n - (j + 1)) (rks (L.drop (j + 1)))) := Lib.hid (by have := HC3.out (some ⟨b, 0, none⟩) (.inr (by omega)); exact this)
    go_wp2_with (at_builtin; refine wpList_append_row _ rfl (.tmp 11) (.tmp 15) _ rfl w.heap.size 55 iR _ 2 24 Tryd.underlying49 hi hz0 hz1 hz2 rfl (by omega) A2 j c2 _ rfl HO1.out _ _ (n - (j + 1)) _ _ rfl HR3.out (rks_one _) (by unfold maxLen; omega) (by omega) hs1 (fun A3 c3 w3 hown hg hor => ?_))
    have HO3 := Lib.hid (own_low hown hS)
    have HB3 := Lib.hid (HB1.out.grown hg hs1 (fun k hk => (HO1.out.lt k hk).1))
    clear hown hg hor
    go_wp2_with fail
    go_ret
    exact ⟨A3, j + (n - (j + 1)), c3, rfl, ⟨HRES.out.1.symm, by rw [HRES.out.2]; exact HO3.out⟩, HB3.out⟩
  · have HR3 : Hid (CellsIn w1 w1.heap.size 2 (some ⟨b, (j + 1) * 2, none⟩) (n - (j + 1)) (rks (L.drop (j + 1)))) := Lib.hid (by have := HC3.out (some ⟨b, (j + 1) * 2, none⟩) (.inl rfl); exact this)
    go_wp2_with (at_builtin; refine wpList_append_row _ rfl (.tmp 11) (.tmp 15) _ rfl w.heap.size 55 iR _ 2 24 Tryd.underlying49 hi hz0 hz1 hz2 rfl (by omega) A2 j c2 _ rfl HO1.out _ _ (n - (j + 1)) _ _ rfl HR3.out (rks_one _) (by unfold maxLen; omega) (by omega) hs1 (fun A3 c3 w3 hown hg hor => ?_))
    have HO3 := Lib.hid (own_low hown hS)
    have HB3 := Lib.hid (HB1.out.grown hg hs1 (fun k hk => (HO1.out.lt k hk).1))
    clear hown hg hor
    go_wp2_with fail
    go_ret
    exact ⟨A3, j + (n - (j + 1)), c3, rfl, ⟨HRES.out.1.symm, by rw [HRES.out.2]; exact HO3.out⟩, HB3.out⟩
end Go.Proofs.YtkenaoejijpgpaaDoor
