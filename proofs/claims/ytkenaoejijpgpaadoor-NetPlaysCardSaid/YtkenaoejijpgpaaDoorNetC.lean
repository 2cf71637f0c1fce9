/- A network: Double, Deliver, Spoil. -/
import Derived.Test.YtkenaoejijpgpaaDoorNetB
namespace Go.Proofs.YtkenaoejijpgpaaDoor
open Go.RowKit

theorem double_none (w : World) (i : Int) (P : Value) (h : Calls Tryd.prog 52 #[P, .int .i64 i] w fun e w' => e = .returned (.bool false) ∧ w = w') :
    Calls Tryd.prog 22 #[P, .int .i64 i] w fun e w' => e = .returned (.bool false) ∧ w = w' := by
  have H := Lib.hid h
  clear h
  go_enter Tryd.func22, Tryd.ntmps22
  go_wp2_with fail
  refine H.out.mono ?_
  rintro e w' ⟨rfl, rfl⟩
  go_wp2_with fail
  go_ret
  exact ⟨rfl, rfl⟩
theorem deliver_none (w : World) (i : Int) (P : Value) (h : Calls Tryd.prog 52 #[P, .int .i64 i] w fun e w' => e = .returned (.bool false) ∧ w = w') :
    Calls Tryd.prog 25 #[P, .int .i64 i] w fun e w' => e = .returned (.tuple #[.int .i64 0, .slice none 0 0, .bool false]) ∧ w = w' := by
  have H := Lib.hid h
  clear h
  go_enter Tryd.func25, Tryd.ntmps25
  go_wp2_with fail
  refine H.out.mono ?_
  rintro e w' ⟨rfl, rfl⟩
  go_wp2_with fail
  refine bodyPost_ret (v := .tuple #[.int .i64 0, .slice none 0 0, .bool false]) (by simp [results, Tryd.results25, go_sem]) rfl ?_
  exact ⟨rfl, rfl⟩
set_option maxRecDepth 100000 in
set_option maxHeartbeats 4000000 in
theorem double_of (w : World) {B N Lc j : Nat} {LA : Option Addr} {l : List Pv} {p : Pv} (h : NAt w B N LA Lc l) (hp : l[j]? = some p) (Q : World → Prop)
    (hs : Calls Tryd.prog 19 #[.pointer (some ⟨N, 0, none⟩), .int .i64 p.to_, p.sl] w.drew fun e w' => e = .returned (.tuple #[]) ∧ Q w') :
    Calls Tryd.prog 22 #[.pointer (some ⟨N, 0, none⟩), .int .i64 j] w fun e w' => e = .returned (.bool true) ∧ Q w' := by
  unfold Pv.sl at hs
  obtain ⟨b, hLA, hBb, hbl, ⟨cur, hcur⟩, hto, hby⟩ := h.pk hp
  have hjl : j < l.length := (List.getElem?_eq_some_iff.1 hp).1
  have hmem : p ∈ l := List.mem_of_getElem? hp
  have c0 := h.c0
  have hBY := h.bytes hmem
  have hjn : (j : Int) < (l.length : Int) := by omega
  have hj0 : (0 : Int) ≤ (j : Int) := by omega
  have hhas : hasB (j : Int) l.length = true := by simp [hasB]; exact hjl
  rw [hLA] at c0
  obtain ⟨n, hn⟩ : ∃ n, n = l.length := ⟨_, rfl⟩
  obtain ⟨m, hm⟩ : ∃ m, m = p.l.length := ⟨_, rfl⟩
  obtain ⟨PA, hPA⟩ : ∃ x, x = p.A := ⟨_, rfl⟩
  obtain ⟨Pc, hPc⟩ : ∃ x, x = p.c := ⟨_, rfl⟩
  obtain ⟨pt, hpt⟩ : ∃ x, x = p.to_ := ⟨_, rfl⟩
  unfold Pv.sl at hby
  rw [← hn] at c0 hjn
  rw [← hm, ← hPA, ← hPc] at hby
  rw [← hpt] at hto
  rw [← hPA, ← hPc] at hBY
  rw [← hpt, ← hm, ← hPA, ← hPc] at hs
  have HAS := Lib.hid (has_any w h (j : Int))
  rw [hhas] at HAS
  have HC0 := Lib.hid c0
  have HTO := Lib.hid hto
  have HBY := Lib.hid hby
  have HS := Lib.hid hs
  clear h hLA hBb hcur hto hby hjl hmem c0 hBY hhas hn hm hPA hPc hpt hs hbl
  go_enter Tryd.func22, Tryd.ntmps22
  go_wp2_with fail
  refine HAS.out.mono ?_
  rintro e w' ⟨rfl, rfl⟩
  go_wp2_with fail
  have c0 : w.drew.cell? ⟨N, 0, none⟩ = some (.slice (some ⟨b, 0, none⟩) n Lc) := HC0.out
  have c1 : w.drew.cell? ⟨b, j * 2, none⟩ = some (.int .i64 pt) := HTO.out
  have c2 : w.drew.cell? ⟨b, j * 2 + 1, none⟩ = some (.slice PA m Pc) := HBY.out
  go_region_with (go_at_call 19; refine HS.out.mono ?_; rintro e w1 ⟨rfl, hq⟩; have HQ := Lib.hid hq; clear hq)
  all_goals
    go_wp2_with fail
    go_ret
    exact ⟨rfl, HQ.out⟩
/-- A packet is taken out. -/
theorem out_end {w w1 w2 : World} {B N Lc j c2 c1 b Ax : Nat} {LA A2 : Option Addr} {l : List Pv} (h : NAt w B N LA Lc l) (hb1 : Below w.heap.size w w1) (hj : j < l.length) (hAx : Ax = j + (l.length - (j + 1)))
    (hrow1 : RowV w1 B 89 2 (some ⟨b, 0, none⟩) j c1 (pks (l.take j))) (hg : w1.grownBy w2 (Value.slice (some ⟨b, 0, none⟩) j c1).ownBlock) (hrow : RowV w2 B 89 2 A2 Ax c2 (pks (l.take j) ++ pks (l.drop (j + 1)))) :
    NAt (w2.setCell ⟨N, 0, none⟩ (.slice A2 Ax c2)) B N A2 c2 (l.eraseIdx j) ∧ NCh B w (w2.setCell ⟨N, 0, none⟩ (.slice A2 Ax c2)) := by
  have hB : B ≤ w.heap.size := Nat.le_trans h.lN (Nat.le_of_lt h.lt)
  have h1 := h.below hb1
  obtain ⟨hc3, hlow⟩ := hrow1.ch hg
  have hblk3 := hc3.blk h1.blk (by show (86 + 1 : Nat) ≠ _; decide)
  have hc4 := Ch.ofCell (i := 0) hblk3 (.slice A2 Ax c2)
  have hlen : (l.eraseIdx j).length = Ax := by rw [List.length_eraseIdx, if_pos hj]; omega
  have hpks : pks (l.eraseIdx j) = pks (l.take j) ++ pks (l.drop (j + 1)) := by rw [List.eraseIdx_eq_take_drop_succ, pks_append]
  refine ⟨⟨?_, h.lN, ?_, fun p hp => ?_, h.dis.sublist (List.eraseIdx_sublist l j)⟩, ?_⟩
  · rw [set_blk hblk3, hlen]
    simp
  · rw [hlen, hpks]
    exact hrow.keep hc4.chg (fun k cur f hk e => by injection e with e; subst e; rw [hblk3] at hk; injection hk with hk; injection hk with _ hk _; exact absurd hk (by decide))
  · exact hc4.own (hc3.own (h1.own p (List.mem_of_mem_eraseIdx hp)) (by decide)) (by decide)
  · exact ((NCh.of_below hb1 hB).trans (NCh.of_ch hc3 (.inr rfl) (Nat.le_trans hB hb1.size) hlow)).trans (NCh.of_ch hc4 (.inl rfl) (Nat.le_trans hB (Nat.le_trans hb1.size hg.size)) (fun k hk => by injection hk with hk; rw [← hk]; exact h.lN))
/-- The packets ahead, and those behind. -/
theorem row_parts {w : World} {B N Lc j b : Nat} {LA : Option Addr} {l : List Pv} (h : NAt w B N LA Lc l) (hLA : LA = some ⟨b, 0, none⟩) (hj : j < l.length) :
    RowV w B 89 2 (some ⟨b, 0, none⟩) j j (pks (l.take j)) ∧ (∀ A', (A' = some ⟨b, (j + 1) * 2, none⟩ ∨ l.length = j + 1) → CellsIn w w.heap.size 2 A' (l.length - (j + 1)) (pks (l.drop (j + 1)))) ∧ j ≤ maxLen := by
  have hml : j ≤ maxLen := by have := h.row.cap; have := h.row.le; omega
  have hsplit : pks l = pks (l.take j) ++ pks (l.drop j) := by rw [← pks_append, List.take_append_drop]
  have hsplit2 : pks l = pks (l.take (j + 1)) ++ pks (l.drop (j + 1)) := by rw [← pks_append, List.take_append_drop]
  have hl1 : (pks (l.take j)).length = j * 2 := by rw [pks_length, List.length_take]; omega
  have hl2 : (pks (l.take (j + 1))).length = (j + 1) * 2 := by rw [pks_length, List.length_take]; omega
  refine ⟨.inr ⟨rfl, hml, ?_⟩, fun A' hA' => ?_, hml⟩
  · rcases h.row with ho | ⟨_, _, b', cur, hA, hB, hb, hsz, htk⟩
    · rcases ho.2 with ⟨hv, h0⟩ | ⟨g, cap, cur, hv, hB, hg, hnc, hcm, hsz, htk⟩
      · omega
      · injection hv with e1 e2 e3
        rw [hLA] at e1
        injection e1 with e1
        injection e1 with e1 _
        subst e1
        refine ⟨b, cur, rfl, hB, hg, by omega, ?_⟩
        have : (cur.toList.take (l.length * 2)).take (j * 2) = (pks l).take (j * 2) := by rw [htk]
        rw [List.take_take, Nat.min_eq_left (by omega)] at this
        rw [this, hsplit, List.take_left' hl1]
    · rw [hLA] at hA
      injection hA with e1
      injection e1 with e1 _
      subst e1
      refine ⟨b, cur, rfl, hB, hb, by omega, ?_⟩
      have : (cur.toList.take (l.length * 2)).take (j * 2) = (pks l).take (j * 2) := by rw [htk]
      rw [List.take_take, Nat.min_eq_left (by omega)] at this
      rw [this, hsplit, List.take_left' hl1]
  · refine ⟨by rw [pks_length, List.length_drop], ?_⟩
    by_cases he : l.length = j + 1
    · left; rw [List.drop_eq_nil_of_le (by omega)]; rfl
    · right
      obtain ⟨b', h1, _, h3, _, h5⟩ := h.row.at_ (j := 0) (by rw [pks_length]; omega)
      rw [hLA] at h1
      injection h1 with e1
      injection e1 with e1 _
      subst e1
      refine ⟨b, (j + 1) * 2, hA'.resolve_right he, h3, fun q u hu => h5 _ _ ?_⟩
      rw [hsplit2, List.getElem?_append_right (by omega), hl2]
      rw [show (j + 1) * 2 + q - (j + 1) * 2 = q by omega]
      exact hu
/-- What Deliver leaves behind. -/
def DelTo (w : World) (B N j : Nat) (l : List Pv) (p : Pv) (e : Ending) (w' : World) : Prop :=
  ∃ LA Lc, e = .returned (.tuple #[.int .i64 p.to_, p.sl, .bool true]) ∧ NAt w' B N LA Lc (l.eraseIdx j) ∧ NCh B w w'
set_option maxRecDepth 100000 in
set_option maxHeartbeats 4000000 in
theorem deliver_any (w : World) {B N Lc j : Nat} {LA : Option Addr} {l : List Pv} {p : Pv} (h : NAt w B N LA Lc l) (hp : l[j]? = some p) (hl8 : l.length ≤ 1000) :
    Calls Tryd.prog 25 #[.pointer (some ⟨N, 0, none⟩), .int .i64 j] w fun e w' => DelTo w B N j l p e w' := by
  obtain ⟨iP, hiP, hz0, hz1, hz2⟩ := info_parts Tryd.infoP
  have HH := Lib.hid h
  have hNl := h.lt
  have hcl := h.row.le
  have hcm := h.row.cap
  have hBs : B ≤ w.heap.size := Nat.le_trans h.lN (Nat.le_of_lt h.lt)
  obtain ⟨b, hLA, hBb, hbl, ⟨cur, hcur⟩, hto, hby⟩ := h.pk hp
  have hjl : j < l.length := (List.getElem?_eq_some_iff.1 hp).1
  have hmem : p ∈ l := List.mem_of_getElem? hp
  have c0 := h.c0
  have hBY := h.bytes hmem
  have hjn : (j : Int) < (l.length : Int) := by omega
  have hj0 : (0 : Int) ≤ (j : Int) := by omega
  have hhas : hasB (j : Int) l.length = true := by simp [hasB]; exact hjl
  rw [hLA] at c0
  obtain ⟨n, hn⟩ : ∃ n, n = l.length := ⟨_, rfl⟩
  obtain ⟨m, hm⟩ : ∃ m, m = p.l.length := ⟨_, rfl⟩
  obtain ⟨PA, hPA⟩ : ∃ x, x = p.A := ⟨_, rfl⟩
  obtain ⟨Pc, hPc⟩ : ∃ x, x = p.c := ⟨_, rfl⟩
  obtain ⟨pt, hpt⟩ : ∃ x, x = p.to_ := ⟨_, rfl⟩
  unfold Pv.sl at hby
  rw [← hn] at c0 hjn
  rw [← hm, ← hPA, ← hPc] at hby
  rw [← hpt] at hto
  rw [← hPA, ← hPc] at hBY
  rw [← hn] at hl8 hcl
  have HLA := Lib.hid hLA
  have HJL := Lib.hid hjl
  have HNN := Lib.hid hn
  have HP := Lib.hid (show p.to_ = pt ∧ p.sl = .slice PA m Pc from ⟨hpt.symm, by unfold Pv.sl; rw [← hPA, ← hm, ← hPc]⟩)
  have HAS := Lib.hid (has_any w h (j : Int))
  rw [hhas] at HAS
  have hal : Below w.heap.size w (w.alloc (.cells #[.int .i64 pt, .slice PA m Pc] 89)) := (Below.refl _ _).alloc (Nat.le_refl _) _
  have HK0 := Lib.hid c0
  have HTO := Lib.hid hto
  have HBY := Lib.hid hby
  have HAL := Lib.hid hal
  have hjn' : j < n := by omega
  clear h hLA hBb hcur hmem hBY hhas hn hm hPA hPc hpt hjl hal
  go_enter Tryd.func25, Tryd.ntmps25
  go_wp2_with fail
  refine HAS.out.mono ?_
  rintro e w' ⟨rfl, rfl⟩
  go_upto_region 4 with (fail)
  clear c0 hto hby
  obtain ⟨Q, hQ⟩ : ∃ x, x = w.heap.size := ⟨_, rfl⟩
  obtain ⟨w1, hw1⟩ : ∃ y, y = w.alloc (.cells #[.int .i64 pt, .slice PA m Pc] 89) := ⟨_, rfl⟩
  have hbx : w1.heap[Q]? = some (.cells #[.int .i64 pt, .slice PA m Pc] 89 (0, 0)) := by rw [hw1, hQ]; exact heap_alloc_new w _
  rw [← hw1] at HAL
  rw [← hw1, ← hQ]
  have hd : Below w.heap.size w w1.drew := HAL.out.drew
  have HB1 := Lib.hid hd
  have HX := Lib.hid (show w1.drew.heap[Q]? = some (.cells #[.int .i64 pt, .slice PA m Pc] 89 (0, 0)) from hbx)
  have hparts := row_parts (HH.out.below hd) HLA.out HJL.out
  have HP1 := Lib.hid hparts.1
  have HP2 := Lib.hid hparts.2.1
  have HN1 := Lib.hid (HH.out.below hd)
  have hjm := hparts.2.2
  clear hbx hw1 hd hparts HAL
  have hBw : B ≤ w1.drew.heap.size := Nat.le_trans hBs HB1.out.size
  obtain ⟨k, hk⟩ : ∃ k, k = j + 1 := ⟨_, rfl⟩
  have q1 : IntKind.i64.wrap ((j : Int) + 1) = (k : Int) := by rw [show (j : Int) + 1 = (k : Int) by omega]; exact IntWalk.i64_in _ (by unfold maxLen at hjm; omega)
  have q2 : (j : Int) ≤ (Lc : Int) := by omega
  have q3 : (0 : Int) ≤ (k : Int) := by omega
  have q4 : (k : Int) ≤ (n : Int) := by omega
  have q5 : k ≤ n := by omega
  have q6 : j ≤ Lc := by omega
  have q8 : j ≤ k := by omega
  have HKJ := Lib.hid hk
  clear hk
  have HLT : Hid (b < Q) := Lib.hid (by rw [hQ]; exact hbl)
  have HLN : Hid (N < Q) := Lib.hid (by rw [hQ]; exact hNl)
  clear hbl hQ
  by_cases hck : Lc = k
  · have HP3 : Hid (CellsIn w1.drew w1.drew.heap.size 2 (some ⟨b, 0, none⟩) (n - k) (pks (l.drop (j + 1)))) := Lib.hid (by rw [HKJ.out, HNN.out]; exact HP2.out _ (.inr (by have := HKJ.out; have := HNN.out; omega)))
    refine wp_region_noPanic ?_
    refine wp_region_held_drew (S := fun w' => True) (by kernel_rfl) ?_ (fun hHeld => ?_)
    · trivial
    refine wpAnyH_take (i := 0) (v := ?_) (by (simp only [List.getElem?_toArray, List.getElem?_cons_zero]; rfl)) (by kernel_rfl) (by kernel_rfl) (by kernel_rfl) (fun _ _ _ h => h) (Or.inl ⟨by rfl, ?_⟩) (by assumption) ?_
    rotate_left
    · (intro w hSw; (try dsimp only at hSw); go_simp; try with_reducible rfl)
    try simp only [Act.put, List.setIfInBounds_toArray, List.set_cons_zero, List.set_cons_succ]
    refine wpAnyH_take (i := 1) (v := ?_) (by (simp only [List.getElem?_toArray, List.getElem?_cons_succ, List.getElem?_cons_zero]; rfl)) (by kernel_rfl) (by kernel_rfl) (by kernel_rfl) (fun _ _ _ h => h) (Or.inl ⟨by rfl, ?_⟩) (by assumption) ?_
    rotate_left
    · (intro w hSw; (try dsimp only at hSw); go_simp; try with_reducible rfl)
    try simp only [Act.put, List.setIfInBounds_toArray, List.set_cons_zero, List.set_cons_succ]
    refine wpAnyH_take (i := 2) (v := ?_) (by (simp only [List.getElem?_toArray, List.getElem?_cons_succ, List.getElem?_cons_zero]; rfl)) (by kernel_rfl) (by kernel_rfl) (by kernel_rfl) (fun _ _ _ h => h) (Or.inl ⟨by rfl, ?_⟩) (by assumption) ?_
    rotate_left
    · (intro w hSw; (try dsimp only at hSw); go_simp; try with_reducible rfl)
    try simp only [Act.put, List.setIfInBounds_toArray, List.set_cons_zero, List.set_cons_succ]
    refine wpAnyH_take (i := 3) (v := ?_) (by (simp only [List.getElem?_toArray, List.getElem?_cons_succ, List.getElem?_cons_zero]; rfl)) (by kernel_rfl) (by kernel_rfl) (by kernel_rfl) (fun _ _ _ h => h) (Or.inl ⟨by rfl, ?_⟩) (by assumption) ?_
    rotate_left
    · (intro w hSw; (try dsimp only at hSw); go_simp; try with_reducible rfl)
    try simp only [Act.put, List.setIfInBounds_toArray, List.set_cons_zero, List.set_cons_succ]
    refine wpAnyH_take (i := 5) (v := ?_) (by (simp only [List.getElem?_toArray, List.getElem?_cons_succ, List.getElem?_cons_zero]; rfl)) (by kernel_rfl) (by kernel_rfl) (by kernel_rfl) (fun _ _ _ h => h) (Or.inl ⟨by rfl, ?_⟩) (by assumption) ?_
    rotate_left
    · (intro w hSw; (try dsimp only at hSw); go_simp; try with_reducible rfl)
    try simp only [Act.put, List.setIfInBounds_toArray, List.set_cons_zero, List.set_cons_succ]
    refine wpAnyH_take (i := 6) (v := ?_) (by (simp only [List.getElem?_toArray, List.getElem?_cons_succ, List.getElem?_cons_zero]; rfl)) (by kernel_rfl) (by kernel_rfl) (by kernel_rfl) (fun _ _ _ h => h) (Or.inl ⟨by rfl, ?_⟩) (by assumption) ?_
    rotate_left
    · (intro w hSw; (try dsimp only at hSw); go_simp; try with_reducible rfl)
    try simp only [Act.put, List.setIfInBounds_toArray, List.set_cons_zero, List.set_cons_succ]
    refine wpAnyH_take (i := 8) (v := ?_) (by (simp only [List.getElem?_toArray, List.getElem?_cons_succ, List.getElem?_cons_zero]; rfl)) (by kernel_rfl) (by kernel_rfl) (by kernel_rfl) (fun _ _ _ h => h) (Or.inl ⟨by rfl, ?_⟩) (by assumption) ?_
    rotate_left
    · (intro w hSw; (try dsimp only at hSw); go_simp; try with_reducible rfl)
    try simp only [Act.put, List.setIfInBounds_toArray, List.set_cons_zero, List.set_cons_succ]
    refine wpAnyH_take (i := 9) (v := ?_) (by (simp only [List.getElem?_toArray, List.getElem?_cons_succ, List.getElem?_cons_zero]; rfl)) (by kernel_rfl) (by kernel_rfl) (by kernel_rfl) (fun _ _ _ h => h) (Or.inl ⟨by rfl, ?_⟩) (by assumption) ?_
    rotate_left
    · (intro w hSw; (try dsimp only at hSw); go_simp; try with_reducible rfl)
    try simp only [Act.put, List.setIfInBounds_toArray, List.set_cons_zero, List.set_cons_succ]
    refine wpAnyH_take (i := 10) (v := ?_) (by (simp only [List.getElem?_toArray, List.getElem?_cons_succ, List.getElem?_cons_zero]; rfl)) (by kernel_rfl) (by kernel_rfl) (by kernel_rfl) (fun _ _ _ h => h) (Or.inl ⟨by rfl, ?_⟩) (by assumption) ?_
    rotate_left
    · (intro w hSw; (try dsimp only at hSw); go_simp; try with_reducible rfl)
    try simp only [Act.put, List.setIfInBounds_toArray, List.set_cons_zero, List.set_cons_succ]
    refine wpAnyH_take (i := 12) (v := ?_) (by (simp only [List.getElem?_toArray, List.getElem?_cons_succ, List.getElem?_cons_zero]; rfl)) (by kernel_rfl) (by kernel_rfl) (by kernel_rfl) (fun _ _ _ h => h) (Or.inl ⟨by rfl, ?_⟩) (by assumption) ?_
    rotate_left
    · (intro w hSw; (try dsimp only at hSw); go_simp; try with_reducible rfl)
    try simp only [Act.put, List.setIfInBounds_toArray, List.set_cons_zero, List.set_cons_succ]
    refine wpAnyH_take (i := 13) (v := ?_) (by (simp only [List.getElem?_toArray, List.getElem?_cons_succ, List.getElem?_cons_zero]; rfl)) (by kernel_rfl) (by kernel_rfl) (by kernel_rfl) (fun _ _ _ h => h) (Or.inl ⟨by rfl, ?_⟩) (by assumption) ?_
    rotate_left
    · (intro w hSw; (try dsimp only at hSw); go_simp; try with_reducible rfl)
    try simp only [Act.put, List.setIfInBounds_toArray, List.set_cons_zero, List.set_cons_succ]
    refine wpAnyH_ready (rs := [4, 11]) (by kernel_rfl) (by simp) ?_
    refine AllReadyH.cons (by (simp only [List.getElem?_toArray, List.getElem?_cons_succ, List.getElem?_cons_zero]; rfl)) (fun K hK => ?_) (AllReadyH.cons (by (simp only [List.getElem?_toArray, List.getElem?_cons_succ, List.getElem?_cons_zero]; rfl)) (fun K hK => ?_) AllReadyH.nil)
    · skip
      have c0 : w1.drew.cell? ⟨N, 0, none⟩ = some (.slice (some ⟨b, 0, none⟩) n Lc) := (HB1.out.cell (p := ⟨N, 0, none⟩) hNl).trans HK0.out
      go_simp
      clear c0
      refine hK.out _ _ ?_ (fun hHeld => ?_)
      · trivial
      clear hK K
      try simp only [Act.put, List.setIfInBounds_toArray, List.set_cons_zero, List.set_cons_succ]
      refine wpAnyH_take (i := 7) (v := ?_) (by (simp only [List.getElem?_toArray, List.getElem?_cons_succ, List.getElem?_cons_zero]; rfl)) (by kernel_rfl) (by kernel_rfl) (by kernel_rfl) (fun _ _ _ h => h) (Or.inl ⟨by rfl, ?_⟩) (by assumption) ?_
      rotate_left
      · (intro w hSw; (try dsimp only at hSw); go_simp; try with_reducible rfl)
      try simp only [Act.put, List.setIfInBounds_toArray, List.set_cons_zero, List.set_cons_succ]
      refine wpAnyH_ready (rs := [11]) (by kernel_rfl) (by simp) ?_
      refine AllReadyH.cons (by (simp only [List.getElem?_toArray, List.getElem?_cons_succ, List.getElem?_cons_zero]; rfl)) (fun K hK => ?_) AllReadyH.nil
      have c0 : w1.drew.cell? ⟨N, 0, none⟩ = some (.slice (some ⟨b, 0, none⟩) n Lc) := (HB1.out.cell (p := ⟨N, 0, none⟩) hNl).trans HK0.out
      go_simp
      clear c0
      refine hK.out _ _ ?_ (fun hHeld => ?_)
      · trivial
      clear hK K
      try simp only [Act.put, List.setIfInBounds_toArray, List.set_cons_zero, List.set_cons_succ]
      refine wpAnyH_take (i := 14) (v := ?_) (by (simp only [List.getElem?_toArray, List.getElem?_cons_succ, List.getElem?_cons_zero]; rfl)) (by kernel_rfl) (by kernel_rfl) (by kernel_rfl) (fun _ _ _ h => h) (Or.inl ⟨by rfl, ?_⟩) (by assumption) ?_
      rotate_left
      · (intro w hSw; (try dsimp only at hSw); go_simp; try with_reducible rfl)
      try simp only [Act.put, List.setIfInBounds_toArray, List.set_cons_zero, List.set_cons_succ]
      refine wpAnyH_ready (rs := [15]) (by kernel_rfl) (by simp) ?_
      refine AllReadyH.cons (by (simp only [List.getElem?_toArray, List.getElem?_cons_succ, List.getElem?_cons_zero]; rfl)) (fun K hK => ?_) AllReadyH.nil
      refine step_append_view w1.drew rfl (.tmp 26) (.tmp 33) _ rfl B 89 iP _ 2 32 Tryd.underlying84 hiP hz0 hz1 hz2 rfl (by omega) (some ⟨b, 0, none⟩) j j (pks (l.take j)) rfl HP1.out _ _ (n - k) _ _ rfl HP3.out (pks_one _) (by unfold maxLen; omega) (by omega) hBw ?_
      intro A2 c2 w3 hrow hg hor
      have hAx : j + (n - k) = j + (l.length - (j + 1)) := by rw [HKJ.out, HNN.out]
      have HE := Lib.hid (out_end HH.out HB1.out HJL.out hAx HP1.out hg hrow)
      obtain ⟨hc3, _⟩ := HP1.out.ch hg
      have HK3 := Lib.hid (hc3.blk HN1.out.blk (by show (86 + 1 : Nat) ≠ _; decide))
      have HX3 := Lib.hid (hc3.blkN HX.out (by intro e; have := HLT.out; simp [Value.ownBlock] at e; omega))
      clear hrow hg hor hc3 hAx
      refine hK.out _ _ ?_ (fun hHeld => ?_)
      · trivial
      clear hK K
      try simp only [Act.put, List.setIfInBounds_toArray, List.set_cons_zero, List.set_cons_succ]
      refine wpAnyH_take (i := 16) (v := ?_) (by (simp only [List.getElem?_toArray, List.getElem?_cons_succ, List.getElem?_cons_zero]; rfl)) (by kernel_rfl) (by kernel_rfl) (by kernel_rfl) (fun _ _ _ h => h) (Or.inl ⟨by rfl, ?_⟩) (by assumption) ?_
      rotate_left
      · (intro w hSw; (try dsimp only at hSw); go_simp; try with_reducible rfl)
      try simp only [Act.put, List.setIfInBounds_toArray, List.set_cons_zero, List.set_cons_succ]
      refine wpAnyH_take (i := 17) (v := ?_) (by (simp only [List.getElem?_toArray, List.getElem?_cons_succ, List.getElem?_cons_zero]; rfl)) (by kernel_rfl) (by kernel_rfl) (by kernel_rfl) (fun _ _ _ h => h) (Or.inl ⟨by rfl, ?_⟩) (by assumption) ?_
      rotate_left
      · (intro w hSw; (try dsimp only at hSw); go_simp; try with_reducible rfl)
      try simp only [Act.put, List.setIfInBounds_toArray, List.set_cons_zero, List.set_cons_succ]
      refine wpAnyH_ready (rs := [18]) (by kernel_rfl) (by simp) ?_
      refine AllReadyH.cons (by (simp only [List.getElem?_toArray, List.getElem?_cons_succ, List.getElem?_cons_zero]; rfl)) (fun K hK => ?_) AllReadyH.nil
      have c0 : w3.cell? ⟨N, 0, none⟩ = some (.slice LA l.length Lc) := cellb (i := 0) HK3.out rfl
      have f0 : w3.frozen? ⟨N, 0, none⟩ = false := fzb HK3.out 0
      go_simp
      clear c0 f0
      refine hK.out _ _ ?_ (fun hHeld => ?_)
      · trivial
      clear hK K
      try simp only [Act.put]
      refine wpAnyH_done (by kernel_rfl) ?_ _
      refine NoPanic.normal ?_
      have HX4 := Lib.hid ((Ch.ofCell (i := 0) HK3.out (.slice A2 (j + (n - k)) c2)).blkN HX3.out (by intro e; injection e with e; have := HLN.out; omega))
      clear hHeld HK3 HX3
      go_upto_region 5 with (fail)
      generalize w3.setCell ⟨N, 0, none⟩ (.slice A2 (j + (n - k)) c2) = w4 at HE HX4 ⊢
      have f0_0 : w4.drew.cell? ⟨Q, 0, none⟩ = some (.int .i64 pt) := cellb (i := 0) HX4.out rfl
      have f0_1 : w4.drew.cell? ⟨Q, 1, none⟩ = some (.slice PA m Pc) := cellb (i := 1) HX4.out rfl
      refine wp_region_noPanic ?_
      refine wp_region_held_drew (S := fun w' => w'.cell? ⟨Q, 0, none⟩ = some (.int .i64 pt) ∧ w'.cell? ⟨Q, 1, none⟩ = some (.slice PA m Pc)) (by kernel_rfl) ?_ (fun hHeld => ?_)
      · try dsimp only
        (refine ⟨?_, ?_⟩ <;> (first | with_reducible assumption))
      refine wpAnyH_take (i := 0) (v := ?_) (by (simp only [List.getElem?_toArray, List.getElem?_cons_zero]; rfl)) (by kernel_rfl) (by kernel_rfl) (by kernel_rfl) (fun _ _ _ h => h) (Or.inl ⟨by rfl, ?_⟩) (by assumption) ?_
      rotate_left
      · (intro w hSw; (try dsimp only at hSw); go_simp; try with_reducible rfl)
      try simp only [Act.put, List.setIfInBounds_toArray, List.set_cons_zero, List.set_cons_succ]
      refine wpAnyH_take (i := 1) (v := ?_) (by (simp only [List.getElem?_toArray, List.getElem?_cons_succ, List.getElem?_cons_zero]; rfl)) (by kernel_rfl) (by kernel_rfl) (by kernel_rfl) (fun _ _ _ h => h) (Or.inl ⟨by rfl, ?_⟩) (by assumption) ?_
      rotate_left
      · (intro w hSw; (try dsimp only at hSw); go_simp; try with_reducible rfl)
      try simp only [Act.put, List.setIfInBounds_toArray, List.set_cons_zero, List.set_cons_succ]
      refine wpAnyH_take (i := 2) (v := ?_) (by (simp only [List.getElem?_toArray, List.getElem?_cons_succ, List.getElem?_cons_zero]; rfl)) (by kernel_rfl) (by kernel_rfl) (by kernel_rfl) (fun _ _ _ h => h) (Or.inl ⟨by rfl, ?_⟩) (by assumption) ?_
      rotate_left
      · (intro w hSw; (try dsimp only at hSw); go_simp; try with_reducible rfl)
      try simp only [Act.put, List.setIfInBounds_toArray, List.set_cons_zero, List.set_cons_succ]
      refine wpAnyH_take (i := 3) (v := ?_) (by (simp only [List.getElem?_toArray, List.getElem?_cons_succ, List.getElem?_cons_zero]; rfl)) (by kernel_rfl) (by kernel_rfl) (by kernel_rfl) (fun _ _ _ h => h) (Or.inl ⟨by rfl, ?_⟩) (by assumption) ?_
      rotate_left
      · (intro w hSw; (try dsimp only at hSw); go_simp; try with_reducible rfl)
      try simp only [Act.put, List.setIfInBounds_toArray, List.set_cons_zero, List.set_cons_succ]
      refine wpAnyH_take (i := 4) (v := ?_) (by (simp only [List.getElem?_toArray, List.getElem?_cons_succ, List.getElem?_cons_zero]; rfl)) (by kernel_rfl) (by kernel_rfl) (by kernel_rfl) (fun _ _ _ h => h) (Or.inl ⟨by rfl, ?_⟩) (by assumption) ?_
      rotate_left
      · (intro w hSw; (try dsimp only at hSw); go_simp; try with_reducible rfl)
      try simp only [Act.put, List.setIfInBounds_toArray, List.set_cons_zero, List.set_cons_succ]
      refine wpAnyH_take (i := 5) (v := ?_) (by (simp only [List.getElem?_toArray, List.getElem?_cons_succ, List.getElem?_cons_zero]; rfl)) (by kernel_rfl) (by kernel_rfl) (by kernel_rfl) (fun _ _ _ h => h) (Or.inl ⟨by rfl, ?_⟩) (by assumption) ?_
      rotate_left
      · (intro w hSw; (try dsimp only at hSw); go_simp; try with_reducible rfl)
      try simp only [Act.put, List.setIfInBounds_toArray, List.set_cons_zero, List.set_cons_succ]
      refine wpAnyH_take (i := 6) (v := ?_) (by (simp only [List.getElem?_toArray, List.getElem?_cons_succ, List.getElem?_cons_zero]; rfl)) (by kernel_rfl) (by kernel_rfl) (by kernel_rfl) (fun _ _ _ h => h) (Or.inl ⟨by rfl, ?_⟩) (by assumption) ?_
      rotate_left
      · (intro w hSw; (try dsimp only at hSw); go_simp; try with_reducible rfl)
      try simp only [Act.put, List.setIfInBounds_toArray, List.set_cons_zero, List.set_cons_succ]
      refine wpAnyH_done (by kernel_rfl) ?_ _
      refine NoPanic.normal ?_
      clear hHeld f0_0 f0_1
      go_wp2_with fail
      refine bodyPost_ret (v := .tuple #[.int .i64 pt, .slice PA m Pc, .bool true]) (by simp [results, Tryd.results25, go_sem]) rfl ?_
      exact ⟨A2, c2, by rw [HP.out.1, HP.out.2], HE.out.1.below (Below.refl _ _).drew, HE.out.2.trans (NCh.of_below (Below.refl _ _).drew (Nat.le_trans hBs HE.out.2.size))⟩
    · skip
      have c0 : w1.drew.cell? ⟨N, 0, none⟩ = some (.slice (some ⟨b, 0, none⟩) n Lc) := (HB1.out.cell (p := ⟨N, 0, none⟩) hNl).trans HK0.out
      go_simp
      clear c0
      refine hK.out _ _ ?_ (fun hHeld => ?_)
      · trivial
      clear hK K
      try simp only [Act.put, List.setIfInBounds_toArray, List.set_cons_zero, List.set_cons_succ]
      refine wpAnyH_take (i := 14) (v := ?_) (by (simp only [List.getElem?_toArray, List.getElem?_cons_succ, List.getElem?_cons_zero]; rfl)) (by kernel_rfl) (by kernel_rfl) (by kernel_rfl) (fun _ _ _ h => h) (Or.inl ⟨by rfl, ?_⟩) (by assumption) ?_
      rotate_left
      · (intro w hSw; (try dsimp only at hSw); go_simp; try with_reducible rfl)
      try simp only [Act.put, List.setIfInBounds_toArray, List.set_cons_zero, List.set_cons_succ]
      refine wpAnyH_ready (rs := [4]) (by kernel_rfl) (by simp) ?_
      refine AllReadyH.cons (by (simp only [List.getElem?_toArray, List.getElem?_cons_succ, List.getElem?_cons_zero]; rfl)) (fun K hK => ?_) AllReadyH.nil
      have c0 : w1.drew.cell? ⟨N, 0, none⟩ = some (.slice (some ⟨b, 0, none⟩) n Lc) := (HB1.out.cell (p := ⟨N, 0, none⟩) hNl).trans HK0.out
      go_simp
      clear c0
      refine hK.out _ _ ?_ (fun hHeld => ?_)
      · trivial
      clear hK K
      try simp only [Act.put, List.setIfInBounds_toArray, List.set_cons_zero, List.set_cons_succ]
      refine wpAnyH_take (i := 7) (v := ?_) (by (simp only [List.getElem?_toArray, List.getElem?_cons_succ, List.getElem?_cons_zero]; rfl)) (by kernel_rfl) (by kernel_rfl) (by kernel_rfl) (fun _ _ _ h => h) (Or.inl ⟨by rfl, ?_⟩) (by assumption) ?_
      rotate_left
      · (intro w hSw; (try dsimp only at hSw); go_simp; try with_reducible rfl)
      try simp only [Act.put, List.setIfInBounds_toArray, List.set_cons_zero, List.set_cons_succ]
      refine wpAnyH_ready (rs := [15]) (by kernel_rfl) (by simp) ?_
      refine AllReadyH.cons (by (simp only [List.getElem?_toArray, List.getElem?_cons_succ, List.getElem?_cons_zero]; rfl)) (fun K hK => ?_) AllReadyH.nil
      refine step_append_view w1.drew rfl (.tmp 26) (.tmp 33) _ rfl B 89 iP _ 2 32 Tryd.underlying84 hiP hz0 hz1 hz2 rfl (by omega) (some ⟨b, 0, none⟩) j j (pks (l.take j)) rfl HP1.out _ _ (n - k) _ _ rfl HP3.out (pks_one _) (by unfold maxLen; omega) (by omega) hBw ?_
      intro A2 c2 w3 hrow hg hor
      have hAx : j + (n - k) = j + (l.length - (j + 1)) := by rw [HKJ.out, HNN.out]
      have HE := Lib.hid (out_end HH.out HB1.out HJL.out hAx HP1.out hg hrow)
      obtain ⟨hc3, _⟩ := HP1.out.ch hg
      have HK3 := Lib.hid (hc3.blk HN1.out.blk (by show (86 + 1 : Nat) ≠ _; decide))
      have HX3 := Lib.hid (hc3.blkN HX.out (by intro e; have := HLT.out; simp [Value.ownBlock] at e; omega))
      clear hrow hg hor hc3 hAx
      refine hK.out _ _ ?_ (fun hHeld => ?_)
      · trivial
      clear hK K
      try simp only [Act.put, List.setIfInBounds_toArray, List.set_cons_zero, List.set_cons_succ]
      refine wpAnyH_take (i := 16) (v := ?_) (by (simp only [List.getElem?_toArray, List.getElem?_cons_succ, List.getElem?_cons_zero]; rfl)) (by kernel_rfl) (by kernel_rfl) (by kernel_rfl) (fun _ _ _ h => h) (Or.inl ⟨by rfl, ?_⟩) (by assumption) ?_
      rotate_left
      · (intro w hSw; (try dsimp only at hSw); go_simp; try with_reducible rfl)
      try simp only [Act.put, List.setIfInBounds_toArray, List.set_cons_zero, List.set_cons_succ]
      refine wpAnyH_take (i := 17) (v := ?_) (by (simp only [List.getElem?_toArray, List.getElem?_cons_succ, List.getElem?_cons_zero]; rfl)) (by kernel_rfl) (by kernel_rfl) (by kernel_rfl) (fun _ _ _ h => h) (Or.inl ⟨by rfl, ?_⟩) (by assumption) ?_
      rotate_left
      · (intro w hSw; (try dsimp only at hSw); go_simp; try with_reducible rfl)
      try simp only [Act.put, List.setIfInBounds_toArray, List.set_cons_zero, List.set_cons_succ]
      refine wpAnyH_ready (rs := [18]) (by kernel_rfl) (by simp) ?_
      refine AllReadyH.cons (by (simp only [List.getElem?_toArray, List.getElem?_cons_succ, List.getElem?_cons_zero]; rfl)) (fun K hK => ?_) AllReadyH.nil
      have c0 : w3.cell? ⟨N, 0, none⟩ = some (.slice LA l.length Lc) := cellb (i := 0) HK3.out rfl
      have f0 : w3.frozen? ⟨N, 0, none⟩ = false := fzb HK3.out 0
      go_simp
      clear c0 f0
      refine hK.out _ _ ?_ (fun hHeld => ?_)
      · trivial
      clear hK K
      try simp only [Act.put]
      refine wpAnyH_done (by kernel_rfl) ?_ _
      refine NoPanic.normal ?_
      have HX4 := Lib.hid ((Ch.ofCell (i := 0) HK3.out (.slice A2 (j + (n - k)) c2)).blkN HX3.out (by intro e; injection e with e; have := HLN.out; omega))
      clear hHeld HK3 HX3
      go_upto_region 5 with (fail)
      generalize w3.setCell ⟨N, 0, none⟩ (.slice A2 (j + (n - k)) c2) = w4 at HE HX4 ⊢
      have f0_0 : w4.drew.cell? ⟨Q, 0, none⟩ = some (.int .i64 pt) := cellb (i := 0) HX4.out rfl
      have f0_1 : w4.drew.cell? ⟨Q, 1, none⟩ = some (.slice PA m Pc) := cellb (i := 1) HX4.out rfl
      refine wp_region_noPanic ?_
      refine wp_region_held_drew (S := fun w' => w'.cell? ⟨Q, 0, none⟩ = some (.int .i64 pt) ∧ w'.cell? ⟨Q, 1, none⟩ = some (.slice PA m Pc)) (by kernel_rfl) ?_ (fun hHeld => ?_)
      · try dsimp only
        (refine ⟨?_, ?_⟩ <;> (first | with_reducible assumption))
      refine wpAnyH_take (i := 0) (v := ?_) (by (simp only [List.getElem?_toArray, List.getElem?_cons_zero]; rfl)) (by kernel_rfl) (by kernel_rfl) (by kernel_rfl) (fun _ _ _ h => h) (Or.inl ⟨by rfl, ?_⟩) (by assumption) ?_
      rotate_left
      · (intro w hSw; (try dsimp only at hSw); go_simp; try with_reducible rfl)
      try simp only [Act.put, List.setIfInBounds_toArray, List.set_cons_zero, List.set_cons_succ]
      refine wpAnyH_take (i := 1) (v := ?_) (by (simp only [List.getElem?_toArray, List.getElem?_cons_succ, List.getElem?_cons_zero]; rfl)) (by kernel_rfl) (by kernel_rfl) (by kernel_rfl) (fun _ _ _ h => h) (Or.inl ⟨by rfl, ?_⟩) (by assumption) ?_
      rotate_left
      · (intro w hSw; (try dsimp only at hSw); go_simp; try with_reducible rfl)
      try simp only [Act.put, List.setIfInBounds_toArray, List.set_cons_zero, List.set_cons_succ]
      refine wpAnyH_take (i := 2) (v := ?_) (by (simp only [List.getElem?_toArray, List.getElem?_cons_succ, List.getElem?_cons_zero]; rfl)) (by kernel_rfl) (by kernel_rfl) (by kernel_rfl) (fun _ _ _ h => h) (Or.inl ⟨by rfl, ?_⟩) (by assumption) ?_
      rotate_left
      · (intro w hSw; (try dsimp only at hSw); go_simp; try with_reducible rfl)
      try simp only [Act.put, List.setIfInBounds_toArray, List.set_cons_zero, List.set_cons_succ]
      refine wpAnyH_take (i := 3) (v := ?_) (by (simp only [List.getElem?_toArray, List.getElem?_cons_succ, List.getElem?_cons_zero]; rfl)) (by kernel_rfl) (by kernel_rfl) (by kernel_rfl) (fun _ _ _ h => h) (Or.inl ⟨by rfl, ?_⟩) (by assumption) ?_
      rotate_left
      · (intro w hSw; (try dsimp only at hSw); go_simp; try with_reducible rfl)
      try simp only [Act.put, List.setIfInBounds_toArray, List.set_cons_zero, List.set_cons_succ]
      refine wpAnyH_take (i := 4) (v := ?_) (by (simp only [List.getElem?_toArray, List.getElem?_cons_succ, List.getElem?_cons_zero]; rfl)) (by kernel_rfl) (by kernel_rfl) (by kernel_rfl) (fun _ _ _ h => h) (Or.inl ⟨by rfl, ?_⟩) (by assumption) ?_
      rotate_left
      · (intro w hSw; (try dsimp only at hSw); go_simp; try with_reducible rfl)
      try simp only [Act.put, List.setIfInBounds_toArray, List.set_cons_zero, List.set_cons_succ]
      refine wpAnyH_take (i := 5) (v := ?_) (by (simp only [List.getElem?_toArray, List.getElem?_cons_succ, List.getElem?_cons_zero]; rfl)) (by kernel_rfl) (by kernel_rfl) (by kernel_rfl) (fun _ _ _ h => h) (Or.inl ⟨by rfl, ?_⟩) (by assumption) ?_
      rotate_left
      · (intro w hSw; (try dsimp only at hSw); go_simp; try with_reducible rfl)
      try simp only [Act.put, List.setIfInBounds_toArray, List.set_cons_zero, List.set_cons_succ]
      refine wpAnyH_take (i := 6) (v := ?_) (by (simp only [List.getElem?_toArray, List.getElem?_cons_succ, List.getElem?_cons_zero]; rfl)) (by kernel_rfl) (by kernel_rfl) (by kernel_rfl) (fun _ _ _ h => h) (Or.inl ⟨by rfl, ?_⟩) (by assumption) ?_
      rotate_left
      · (intro w hSw; (try dsimp only at hSw); go_simp; try with_reducible rfl)
      try simp only [Act.put, List.setIfInBounds_toArray, List.set_cons_zero, List.set_cons_succ]
      refine wpAnyH_done (by kernel_rfl) ?_ _
      refine NoPanic.normal ?_
      clear hHeld f0_0 f0_1
      go_wp2_with fail
      refine bodyPost_ret (v := .tuple #[.int .i64 pt, .slice PA m Pc, .bool true]) (by simp [results, Tryd.results25, go_sem]) rfl ?_
      exact ⟨A2, c2, by rw [HP.out.1, HP.out.2], HE.out.1.below (Below.refl _ _).drew, HE.out.2.trans (NCh.of_below (Below.refl _ _).drew (Nat.le_trans hBs HE.out.2.size))⟩
  · have HP3 : Hid (CellsIn w1.drew w1.drew.heap.size 2 (some ⟨b, k * 2, none⟩) (n - k) (pks (l.drop (j + 1)))) := Lib.hid (by have := HP2.out (some ⟨b, k * 2, none⟩) (.inl (by rw [HKJ.out])); rw [HKJ.out, HNN.out]; rw [HKJ.out] at this; exact this)
    refine wp_region_noPanic ?_
    refine wp_region_held_drew (S := fun w' => True) (by kernel_rfl) ?_ (fun hHeld => ?_)
    · trivial
    refine wpAnyH_take (i := 0) (v := ?_) (by (simp only [List.getElem?_toArray, List.getElem?_cons_zero]; rfl)) (by kernel_rfl) (by kernel_rfl) (by kernel_rfl) (fun _ _ _ h => h) (Or.inl ⟨by rfl, ?_⟩) (by assumption) ?_
    rotate_left
    · (intro w hSw; (try dsimp only at hSw); go_simp; try with_reducible rfl)
    try simp only [Act.put, List.setIfInBounds_toArray, List.set_cons_zero, List.set_cons_succ]
    refine wpAnyH_take (i := 1) (v := ?_) (by (simp only [List.getElem?_toArray, List.getElem?_cons_succ, List.getElem?_cons_zero]; rfl)) (by kernel_rfl) (by kernel_rfl) (by kernel_rfl) (fun _ _ _ h => h) (Or.inl ⟨by rfl, ?_⟩) (by assumption) ?_
    rotate_left
    · (intro w hSw; (try dsimp only at hSw); go_simp; try with_reducible rfl)
    try simp only [Act.put, List.setIfInBounds_toArray, List.set_cons_zero, List.set_cons_succ]
    refine wpAnyH_take (i := 2) (v := ?_) (by (simp only [List.getElem?_toArray, List.getElem?_cons_succ, List.getElem?_cons_zero]; rfl)) (by kernel_rfl) (by kernel_rfl) (by kernel_rfl) (fun _ _ _ h => h) (Or.inl ⟨by rfl, ?_⟩) (by assumption) ?_
    rotate_left
    · (intro w hSw; (try dsimp only at hSw); go_simp; try with_reducible rfl)
    try simp only [Act.put, List.setIfInBounds_toArray, List.set_cons_zero, List.set_cons_succ]
    refine wpAnyH_take (i := 3) (v := ?_) (by (simp only [List.getElem?_toArray, List.getElem?_cons_succ, List.getElem?_cons_zero]; rfl)) (by kernel_rfl) (by kernel_rfl) (by kernel_rfl) (fun _ _ _ h => h) (Or.inl ⟨by rfl, ?_⟩) (by assumption) ?_
    rotate_left
    · (intro w hSw; (try dsimp only at hSw); go_simp; try with_reducible rfl)
    try simp only [Act.put, List.setIfInBounds_toArray, List.set_cons_zero, List.set_cons_succ]
    refine wpAnyH_take (i := 5) (v := ?_) (by (simp only [List.getElem?_toArray, List.getElem?_cons_succ, List.getElem?_cons_zero]; rfl)) (by kernel_rfl) (by kernel_rfl) (by kernel_rfl) (fun _ _ _ h => h) (Or.inl ⟨by rfl, ?_⟩) (by assumption) ?_
    rotate_left
    · (intro w hSw; (try dsimp only at hSw); go_simp; try with_reducible rfl)
    try simp only [Act.put, List.setIfInBounds_toArray, List.set_cons_zero, List.set_cons_succ]
    refine wpAnyH_take (i := 6) (v := ?_) (by (simp only [List.getElem?_toArray, List.getElem?_cons_succ, List.getElem?_cons_zero]; rfl)) (by kernel_rfl) (by kernel_rfl) (by kernel_rfl) (fun _ _ _ h => h) (Or.inl ⟨by rfl, ?_⟩) (by assumption) ?_
    rotate_left
    · (intro w hSw; (try dsimp only at hSw); go_simp; try with_reducible rfl)
    try simp only [Act.put, List.setIfInBounds_toArray, List.set_cons_zero, List.set_cons_succ]
    refine wpAnyH_take (i := 8) (v := ?_) (by (simp only [List.getElem?_toArray, List.getElem?_cons_succ, List.getElem?_cons_zero]; rfl)) (by kernel_rfl) (by kernel_rfl) (by kernel_rfl) (fun _ _ _ h => h) (Or.inl ⟨by rfl, ?_⟩) (by assumption) ?_
    rotate_left
    · (intro w hSw; (try dsimp only at hSw); go_simp; try with_reducible rfl)
    try simp only [Act.put, List.setIfInBounds_toArray, List.set_cons_zero, List.set_cons_succ]
    refine wpAnyH_take (i := 9) (v := ?_) (by (simp only [List.getElem?_toArray, List.getElem?_cons_succ, List.getElem?_cons_zero]; rfl)) (by kernel_rfl) (by kernel_rfl) (by kernel_rfl) (fun _ _ _ h => h) (Or.inl ⟨by rfl, ?_⟩) (by assumption) ?_
    rotate_left
    · (intro w hSw; (try dsimp only at hSw); go_simp; try with_reducible rfl)
    try simp only [Act.put, List.setIfInBounds_toArray, List.set_cons_zero, List.set_cons_succ]
    refine wpAnyH_take (i := 10) (v := ?_) (by (simp only [List.getElem?_toArray, List.getElem?_cons_succ, List.getElem?_cons_zero]; rfl)) (by kernel_rfl) (by kernel_rfl) (by kernel_rfl) (fun _ _ _ h => h) (Or.inl ⟨by rfl, ?_⟩) (by assumption) ?_
    rotate_left
    · (intro w hSw; (try dsimp only at hSw); go_simp; try with_reducible rfl)
    try simp only [Act.put, List.setIfInBounds_toArray, List.set_cons_zero, List.set_cons_succ]
    refine wpAnyH_take (i := 12) (v := ?_) (by (simp only [List.getElem?_toArray, List.getElem?_cons_succ, List.getElem?_cons_zero]; rfl)) (by kernel_rfl) (by kernel_rfl) (by kernel_rfl) (fun _ _ _ h => h) (Or.inl ⟨by rfl, ?_⟩) (by assumption) ?_
    rotate_left
    · (intro w hSw; (try dsimp only at hSw); go_simp; try with_reducible rfl)
    try simp only [Act.put, List.setIfInBounds_toArray, List.set_cons_zero, List.set_cons_succ]
    refine wpAnyH_take (i := 13) (v := ?_) (by (simp only [List.getElem?_toArray, List.getElem?_cons_succ, List.getElem?_cons_zero]; rfl)) (by kernel_rfl) (by kernel_rfl) (by kernel_rfl) (fun _ _ _ h => h) (Or.inl ⟨by rfl, ?_⟩) (by assumption) ?_
    rotate_left
    · (intro w hSw; (try dsimp only at hSw); go_simp; try with_reducible rfl)
    try simp only [Act.put, List.setIfInBounds_toArray, List.set_cons_zero, List.set_cons_succ]
    refine wpAnyH_ready (rs := [4, 11]) (by kernel_rfl) (by simp) ?_
    refine AllReadyH.cons (by (simp only [List.getElem?_toArray, List.getElem?_cons_succ, List.getElem?_cons_zero]; rfl)) (fun K hK => ?_) (AllReadyH.cons (by (simp only [List.getElem?_toArray, List.getElem?_cons_succ, List.getElem?_cons_zero]; rfl)) (fun K hK => ?_) AllReadyH.nil)
    · skip
      have c0 : w1.drew.cell? ⟨N, 0, none⟩ = some (.slice (some ⟨b, 0, none⟩) n Lc) := (HB1.out.cell (p := ⟨N, 0, none⟩) hNl).trans HK0.out
      go_simp
      clear c0
      refine hK.out _ _ ?_ (fun hHeld => ?_)
      · trivial
      clear hK K
      try simp only [Act.put, List.setIfInBounds_toArray, List.set_cons_zero, List.set_cons_succ]
      refine wpAnyH_take (i := 7) (v := ?_) (by (simp only [List.getElem?_toArray, List.getElem?_cons_succ, List.getElem?_cons_zero]; rfl)) (by kernel_rfl) (by kernel_rfl) (by kernel_rfl) (fun _ _ _ h => h) (Or.inl ⟨by rfl, ?_⟩) (by assumption) ?_
      rotate_left
      · (intro w hSw; (try dsimp only at hSw); go_simp; try with_reducible rfl)
      try simp only [Act.put, List.setIfInBounds_toArray, List.set_cons_zero, List.set_cons_succ]
      refine wpAnyH_ready (rs := [11]) (by kernel_rfl) (by simp) ?_
      refine AllReadyH.cons (by (simp only [List.getElem?_toArray, List.getElem?_cons_succ, List.getElem?_cons_zero]; rfl)) (fun K hK => ?_) AllReadyH.nil
      have c0 : w1.drew.cell? ⟨N, 0, none⟩ = some (.slice (some ⟨b, 0, none⟩) n Lc) := (HB1.out.cell (p := ⟨N, 0, none⟩) hNl).trans HK0.out
      go_simp
      clear c0
      refine hK.out _ _ ?_ (fun hHeld => ?_)
      · trivial
      clear hK K
      try simp only [Act.put, List.setIfInBounds_toArray, List.set_cons_zero, List.set_cons_succ]
      refine wpAnyH_take (i := 14) (v := ?_) (by (simp only [List.getElem?_toArray, List.getElem?_cons_succ, List.getElem?_cons_zero]; rfl)) (by kernel_rfl) (by kernel_rfl) (by kernel_rfl) (fun _ _ _ h => h) (Or.inl ⟨by rfl, ?_⟩) (by assumption) ?_
      rotate_left
      · (intro w hSw; (try dsimp only at hSw); go_simp; try with_reducible rfl)
      try simp only [Act.put, List.setIfInBounds_toArray, List.set_cons_zero, List.set_cons_succ]
      refine wpAnyH_ready (rs := [15]) (by kernel_rfl) (by simp) ?_
      refine AllReadyH.cons (by (simp only [List.getElem?_toArray, List.getElem?_cons_succ, List.getElem?_cons_zero]; rfl)) (fun K hK => ?_) AllReadyH.nil
      refine step_append_view w1.drew rfl (.tmp 26) (.tmp 33) _ rfl B 89 iP _ 2 32 Tryd.underlying84 hiP hz0 hz1 hz2 rfl (by omega) (some ⟨b, 0, none⟩) j j (pks (l.take j)) rfl HP1.out _ _ (n - k) _ _ rfl HP3.out (pks_one _) (by unfold maxLen; omega) (by omega) hBw ?_
      intro A2 c2 w3 hrow hg hor
      have hAx : j + (n - k) = j + (l.length - (j + 1)) := by rw [HKJ.out, HNN.out]
      have HE := Lib.hid (out_end HH.out HB1.out HJL.out hAx HP1.out hg hrow)
      obtain ⟨hc3, _⟩ := HP1.out.ch hg
      have HK3 := Lib.hid (hc3.blk HN1.out.blk (by show (86 + 1 : Nat) ≠ _; decide))
      have HX3 := Lib.hid (hc3.blkN HX.out (by intro e; have := HLT.out; simp [Value.ownBlock] at e; omega))
      clear hrow hg hor hc3 hAx
      refine hK.out _ _ ?_ (fun hHeld => ?_)
      · trivial
      clear hK K
      try simp only [Act.put, List.setIfInBounds_toArray, List.set_cons_zero, List.set_cons_succ]
      refine wpAnyH_take (i := 16) (v := ?_) (by (simp only [List.getElem?_toArray, List.getElem?_cons_succ, List.getElem?_cons_zero]; rfl)) (by kernel_rfl) (by kernel_rfl) (by kernel_rfl) (fun _ _ _ h => h) (Or.inl ⟨by rfl, ?_⟩) (by assumption) ?_
      rotate_left
      · (intro w hSw; (try dsimp only at hSw); go_simp; try with_reducible rfl)
      try simp only [Act.put, List.setIfInBounds_toArray, List.set_cons_zero, List.set_cons_succ]
      refine wpAnyH_take (i := 17) (v := ?_) (by (simp only [List.getElem?_toArray, List.getElem?_cons_succ, List.getElem?_cons_zero]; rfl)) (by kernel_rfl) (by kernel_rfl) (by kernel_rfl) (fun _ _ _ h => h) (Or.inl ⟨by rfl, ?_⟩) (by assumption) ?_
      rotate_left
      · (intro w hSw; (try dsimp only at hSw); go_simp; try with_reducible rfl)
      try simp only [Act.put, List.setIfInBounds_toArray, List.set_cons_zero, List.set_cons_succ]
      refine wpAnyH_ready (rs := [18]) (by kernel_rfl) (by simp) ?_
      refine AllReadyH.cons (by (simp only [List.getElem?_toArray, List.getElem?_cons_succ, List.getElem?_cons_zero]; rfl)) (fun K hK => ?_) AllReadyH.nil
      have c0 : w3.cell? ⟨N, 0, none⟩ = some (.slice LA l.length Lc) := cellb (i := 0) HK3.out rfl
      have f0 : w3.frozen? ⟨N, 0, none⟩ = false := fzb HK3.out 0
      go_simp
      clear c0 f0
      refine hK.out _ _ ?_ (fun hHeld => ?_)
      · trivial
      clear hK K
      try simp only [Act.put]
      refine wpAnyH_done (by kernel_rfl) ?_ _
      refine NoPanic.normal ?_
      have HX4 := Lib.hid ((Ch.ofCell (i := 0) HK3.out (.slice A2 (j + (n - k)) c2)).blkN HX3.out (by intro e; injection e with e; have := HLN.out; omega))
      clear hHeld HK3 HX3
      go_upto_region 5 with (fail)
      generalize w3.setCell ⟨N, 0, none⟩ (.slice A2 (j + (n - k)) c2) = w4 at HE HX4 ⊢
      have f0_0 : w4.drew.cell? ⟨Q, 0, none⟩ = some (.int .i64 pt) := cellb (i := 0) HX4.out rfl
      have f0_1 : w4.drew.cell? ⟨Q, 1, none⟩ = some (.slice PA m Pc) := cellb (i := 1) HX4.out rfl
      refine wp_region_noPanic ?_
      refine wp_region_held_drew (S := fun w' => w'.cell? ⟨Q, 0, none⟩ = some (.int .i64 pt) ∧ w'.cell? ⟨Q, 1, none⟩ = some (.slice PA m Pc)) (by kernel_rfl) ?_ (fun hHeld => ?_)
      · try dsimp only
        (refine ⟨?_, ?_⟩ <;> (first | with_reducible assumption))
      refine wpAnyH_take (i := 0) (v := ?_) (by (simp only [List.getElem?_toArray, List.getElem?_cons_zero]; rfl)) (by kernel_rfl) (by kernel_rfl) (by kernel_rfl) (fun _ _ _ h => h) (Or.inl ⟨by rfl, ?_⟩) (by assumption) ?_
      rotate_left
      · (intro w hSw; (try dsimp only at hSw); go_simp; try with_reducible rfl)
      try simp only [Act.put, List.setIfInBounds_toArray, List.set_cons_zero, List.set_cons_succ]
      refine wpAnyH_take (i := 1) (v := ?_) (by (simp only [List.getElem?_toArray, List.getElem?_cons_succ, List.getElem?_cons_zero]; rfl)) (by kernel_rfl) (by kernel_rfl) (by kernel_rfl) (fun _ _ _ h => h) (Or.inl ⟨by rfl, ?_⟩) (by assumption) ?_
      rotate_left
      · (intro w hSw; (try dsimp only at hSw); go_simp; try with_reducible rfl)
      try simp only [Act.put, List.setIfInBounds_toArray, List.set_cons_zero, List.set_cons_succ]
      refine wpAnyH_take (i := 2) (v := ?_) (by (simp only [List.getElem?_toArray, List.getElem?_cons_succ, List.getElem?_cons_zero]; rfl)) (by kernel_rfl) (by kernel_rfl) (by kernel_rfl) (fun _ _ _ h => h) (Or.inl ⟨by rfl, ?_⟩) (by assumption) ?_
      rotate_left
      · (intro w hSw; (try dsimp only at hSw); go_simp; try with_reducible rfl)
      try simp only [Act.put, List.setIfInBounds_toArray, List.set_cons_zero, List.set_cons_succ]
      refine wpAnyH_take (i := 3) (v := ?_) (by (simp only [List.getElem?_toArray, List.getElem?_cons_succ, List.getElem?_cons_zero]; rfl)) (by kernel_rfl) (by kernel_rfl) (by kernel_rfl) (fun _ _ _ h => h) (Or.inl ⟨by rfl, ?_⟩) (by assumption) ?_
      rotate_left
      · (intro w hSw; (try dsimp only at hSw); go_simp; try with_reducible rfl)
      try simp only [Act.put, List.setIfInBounds_toArray, List.set_cons_zero, List.set_cons_succ]
      refine wpAnyH_take (i := 4) (v := ?_) (by (simp only [List.getElem?_toArray, List.getElem?_cons_succ, List.getElem?_cons_zero]; rfl)) (by kernel_rfl) (by kernel_rfl) (by kernel_rfl) (fun _ _ _ h => h) (Or.inl ⟨by rfl, ?_⟩) (by assumption) ?_
      rotate_left
      · (intro w hSw; (try dsimp only at hSw); go_simp; try with_reducible rfl)
      try simp only [Act.put, List.setIfInBounds_toArray, List.set_cons_zero, List.set_cons_succ]
      refine wpAnyH_take (i := 5) (v := ?_) (by (simp only [List.getElem?_toArray, List.getElem?_cons_succ, List.getElem?_cons_zero]; rfl)) (by kernel_rfl) (by kernel_rfl) (by kernel_rfl) (fun _ _ _ h => h) (Or.inl ⟨by rfl, ?_⟩) (by assumption) ?_
      rotate_left
      · (intro w hSw; (try dsimp only at hSw); go_simp; try with_reducible rfl)
      try simp only [Act.put, List.setIfInBounds_toArray, List.set_cons_zero, List.set_cons_succ]
      refine wpAnyH_take (i := 6) (v := ?_) (by (simp only [List.getElem?_toArray, List.getElem?_cons_succ, List.getElem?_cons_zero]; rfl)) (by kernel_rfl) (by kernel_rfl) (by kernel_rfl) (fun _ _ _ h => h) (Or.inl ⟨by rfl, ?_⟩) (by assumption) ?_
      rotate_left
      · (intro w hSw; (try dsimp only at hSw); go_simp; try with_reducible rfl)
      try simp only [Act.put, List.setIfInBounds_toArray, List.set_cons_zero, List.set_cons_succ]
      refine wpAnyH_done (by kernel_rfl) ?_ _
      refine NoPanic.normal ?_
      clear hHeld f0_0 f0_1
      go_wp2_with fail
      refine bodyPost_ret (v := .tuple #[.int .i64 pt, .slice PA m Pc, .bool true]) (by simp [results, Tryd.results25, go_sem]) rfl ?_
      exact ⟨A2, c2, by rw [HP.out.1, HP.out.2], HE.out.1.below (Below.refl _ _).drew, HE.out.2.trans (NCh.of_below (Below.refl _ _).drew (Nat.le_trans hBs HE.out.2.size))⟩
    · skip
      have c0 : w1.drew.cell? ⟨N, 0, none⟩ = some (.slice (some ⟨b, 0, none⟩) n Lc) := (HB1.out.cell (p := ⟨N, 0, none⟩) hNl).trans HK0.out
      go_simp
      clear c0
      refine hK.out _ _ ?_ (fun hHeld => ?_)
      · trivial
      clear hK K
      try simp only [Act.put, List.setIfInBounds_toArray, List.set_cons_zero, List.set_cons_succ]
      refine wpAnyH_take (i := 14) (v := ?_) (by (simp only [List.getElem?_toArray, List.getElem?_cons_succ, List.getElem?_cons_zero]; rfl)) (by kernel_rfl) (by kernel_rfl) (by kernel_rfl) (fun _ _ _ h => h) (Or.inl ⟨by rfl, ?_⟩) (by assumption) ?_
      rotate_left
      · (intro w hSw; (try dsimp only at hSw); go_simp; try with_reducible rfl)
      try simp only [Act.put, List.setIfInBounds_toArray, List.set_cons_zero, List.set_cons_succ]
      refine wpAnyH_ready (rs := [4]) (by kernel_rfl) (by simp) ?_
      refine AllReadyH.cons (by (simp only [List.getElem?_toArray, List.getElem?_cons_succ, List.getElem?_cons_zero]; rfl)) (fun K hK => ?_) AllReadyH.nil
      have c0 : w1.drew.cell? ⟨N, 0, none⟩ = some (.slice (some ⟨b, 0, none⟩) n Lc) := (HB1.out.cell (p := ⟨N, 0, none⟩) hNl).trans HK0.out
      go_simp
      clear c0
      refine hK.out _ _ ?_ (fun hHeld => ?_)
      · trivial
      clear hK K
      try simp only [Act.put, List.setIfInBounds_toArray, List.set_cons_zero, List.set_cons_succ]
      refine wpAnyH_take (i := 7) (v := ?_) (by (simp only [List.getElem?_toArray, List.getElem?_cons_succ, List.getElem?_cons_zero]; rfl)) (by kernel_rfl) (by kernel_rfl) (by kernel_rfl) (fun _ _ _ h => h) (Or.inl ⟨by rfl, ?_⟩) (by assumption) ?_
      rotate_left
      · (intro w hSw; (try dsimp only at hSw); go_simp; try with_reducible rfl)
      try simp only [Act.put, List.setIfInBounds_toArray, List.set_cons_zero, List.set_cons_succ]
      refine wpAnyH_ready (rs := [15]) (by kernel_rfl) (by simp) ?_
      refine AllReadyH.cons (by (simp only [List.getElem?_toArray, List.getElem?_cons_succ, List.getElem?_cons_zero]; rfl)) (fun K hK => ?_) AllReadyH.nil
      refine step_append_view w1.drew rfl (.tmp 26) (.tmp 33) _ rfl B 89 iP _ 2 32 Tryd.underlying84 hiP hz0 hz1 hz2 rfl (by omega) (some ⟨b, 0, none⟩) j j (pks (l.take j)) rfl HP1.out _ _ (n - k) _ _ rfl HP3.out (pks_one _) (by unfold maxLen; omega) (by omega) hBw ?_
      intro A2 c2 w3 hrow hg hor
      have hAx : j + (n - k) = j + (l.length - (j + 1)) := by rw [HKJ.out, HNN.out]
      have HE := Lib.hid (out_end HH.out HB1.out HJL.out hAx HP1.out hg hrow)
      obtain ⟨hc3, _⟩ := HP1.out.ch hg
      have HK3 := Lib.hid (hc3.blk HN1.out.blk (by show (86 + 1 : Nat) ≠ _; decide))
      have HX3 := Lib.hid (hc3.blkN HX.out (by intro e; have := HLT.out; simp [Value.ownBlock] at e; omega))
      clear hrow hg hor hc3 hAx
      refine hK.out _ _ ?_ (fun hHeld => ?_)
      · trivial
      clear hK K
      try simp only [Act.put, List.setIfInBounds_toArray, List.set_cons_zero, List.set_cons_succ]
      refine wpAnyH_take (i := 16) (v := ?_) (by (simp only [List.getElem?_toArray, List.getElem?_cons_succ, List.getElem?_cons_zero]; rfl)) (by kernel_rfl) (by kernel_rfl) (by kernel_rfl) (fun _ _ _ h => h) (Or.inl ⟨by rfl, ?_⟩) (by assumption) ?_
      rotate_left
      · (intro w hSw; (try dsimp only at hSw); go_simp; try with_reducible rfl)
      try simp only [Act.put, List.setIfInBounds_toArray, List.set_cons_zero, List.set_cons_succ]
      refine wpAnyH_take (i := 17) (v := ?_) (by (simp only [List.getElem?_toArray, List.getElem?_cons_succ, List.getElem?_cons_zero]; rfl)) (by kernel_rfl) (by kernel_rfl) (by kernel_rfl) (fun _ _ _ h => h) (Or.inl ⟨by rfl, ?_⟩) (by assumption) ?_
      rotate_left
      · (intro w hSw; (try dsimp only at hSw); go_simp; try with_reducible rfl)
      try simp only [Act.put, List.setIfInBounds_toArray, List.set_cons_zero, List.set_cons_succ]
      refine wpAnyH_ready (rs := [18]) (by kernel_rfl) (by simp) ?_
      refine AllReadyH.cons (by (simp only [List.getElem?_toArray, List.getElem?_cons_succ, List.getElem?_cons_zero]; rfl)) (fun K hK => ?_) AllReadyH.nil
      have c0 : w3.cell? ⟨N, 0, none⟩ = some (.slice LA l.length Lc) := cellb (i := 0) HK3.out rfl
      have f0 : w3.frozen? ⟨N, 0, none⟩ = false := fzb HK3.out 0
      go_simp
      clear c0 f0
      refine hK.out _ _ ?_ (fun hHeld => ?_)
      · trivial
      clear hK K
      try simp only [Act.put]
      refine wpAnyH_done (by kernel_rfl) ?_ _
      refine NoPanic.normal ?_
      have HX4 := Lib.hid ((Ch.ofCell (i := 0) HK3.out (.slice A2 (j + (n - k)) c2)).blkN HX3.out (by intro e; injection e with e; have := HLN.out; omega))
      clear hHeld HK3 HX3
      go_upto_region 5 with (fail)
      generalize w3.setCell ⟨N, 0, none⟩ (.slice A2 (j + (n - k)) c2) = w4 at HE HX4 ⊢
      have f0_0 : w4.drew.cell? ⟨Q, 0, none⟩ = some (.int .i64 pt) := cellb (i := 0) HX4.out rfl
      have f0_1 : w4.drew.cell? ⟨Q, 1, none⟩ = some (.slice PA m Pc) := cellb (i := 1) HX4.out rfl
      refine wp_region_noPanic ?_
      refine wp_region_held_drew (S := fun w' => w'.cell? ⟨Q, 0, none⟩ = some (.int .i64 pt) ∧ w'.cell? ⟨Q, 1, none⟩ = some (.slice PA m Pc)) (by kernel_rfl) ?_ (fun hHeld => ?_)
      · try dsimp only
        (refine ⟨?_, ?_⟩ <;> (first | with_reducible assumption))
      refine wpAnyH_take (i := 0) (v := ?_) (by (simp only [List.getElem?_toArray, List.getElem?_cons_zero]; rfl)) (by kernel_rfl) (by kernel_rfl) (by kernel_rfl) (fun _ _ _ h => h) (Or.inl ⟨by rfl, ?_⟩) (by assumption) ?_
      rotate_left
      · (intro w hSw; (try dsimp only at hSw); go_simp; try with_reducible rfl)
      try simp only [Act.put, List.setIfInBounds_toArray, List.set_cons_zero, List.set_cons_succ]
      refine wpAnyH_take (i := 1) (v := ?_) (by (simp only [List.getElem?_toArray, List.getElem?_cons_succ, List.getElem?_cons_zero]; rfl)) (by kernel_rfl) (by kernel_rfl) (by kernel_rfl) (fun _ _ _ h => h) (Or.inl ⟨by rfl, ?_⟩) (by assumption) ?_
      rotate_left
      · (intro w hSw; (try dsimp only at hSw); go_simp; try with_reducible rfl)
      try simp only [Act.put, List.setIfInBounds_toArray, List.set_cons_zero, List.set_cons_succ]
      refine wpAnyH_take (i := 2) (v := ?_) (by (simp only [List.getElem?_toArray, List.getElem?_cons_succ, List.getElem?_cons_zero]; rfl)) (by kernel_rfl) (by kernel_rfl) (by kernel_rfl) (fun _ _ _ h => h) (Or.inl ⟨by rfl, ?_⟩) (by assumption) ?_
      rotate_left
      · (intro w hSw; (try dsimp only at hSw); go_simp; try with_reducible rfl)
      try simp only [Act.put, List.setIfInBounds_toArray, List.set_cons_zero, List.set_cons_succ]
      refine wpAnyH_take (i := 3) (v := ?_) (by (simp only [List.getElem?_toArray, List.getElem?_cons_succ, List.getElem?_cons_zero]; rfl)) (by kernel_rfl) (by kernel_rfl) (by kernel_rfl) (fun _ _ _ h => h) (Or.inl ⟨by rfl, ?_⟩) (by assumption) ?_
      rotate_left
      · (intro w hSw; (try dsimp only at hSw); go_simp; try with_reducible rfl)
      try simp only [Act.put, List.setIfInBounds_toArray, List.set_cons_zero, List.set_cons_succ]
      refine wpAnyH_take (i := 4) (v := ?_) (by (simp only [List.getElem?_toArray, List.getElem?_cons_succ, List.getElem?_cons_zero]; rfl)) (by kernel_rfl) (by kernel_rfl) (by kernel_rfl) (fun _ _ _ h => h) (Or.inl ⟨by rfl, ?_⟩) (by assumption) ?_
      rotate_left
      · (intro w hSw; (try dsimp only at hSw); go_simp; try with_reducible rfl)
      try simp only [Act.put, List.setIfInBounds_toArray, List.set_cons_zero, List.set_cons_succ]
      refine wpAnyH_take (i := 5) (v := ?_) (by (simp only [List.getElem?_toArray, List.getElem?_cons_succ, List.getElem?_cons_zero]; rfl)) (by kernel_rfl) (by kernel_rfl) (by kernel_rfl) (fun _ _ _ h => h) (Or.inl ⟨by rfl, ?_⟩) (by assumption) ?_
      rotate_left
      · (intro w hSw; (try dsimp only at hSw); go_simp; try with_reducible rfl)
      try simp only [Act.put, List.setIfInBounds_toArray, List.set_cons_zero, List.set_cons_succ]
      refine wpAnyH_take (i := 6) (v := ?_) (by (simp only [List.getElem?_toArray, List.getElem?_cons_succ, List.getElem?_cons_zero]; rfl)) (by kernel_rfl) (by kernel_rfl) (by kernel_rfl) (fun _ _ _ h => h) (Or.inl ⟨by rfl, ?_⟩) (by assumption) ?_
      rotate_left
      · (intro w hSw; (try dsimp only at hSw); go_simp; try with_reducible rfl)
      try simp only [Act.put, List.setIfInBounds_toArray, List.set_cons_zero, List.set_cons_succ]
      refine wpAnyH_done (by kernel_rfl) ?_ _
      refine NoPanic.normal ?_
      clear hHeld f0_0 f0_1
      go_wp2_with fail
      refine bodyPost_ret (v := .tuple #[.int .i64 pt, .slice PA m Pc, .bool true]) (by simp [results, Tryd.results25, go_sem]) rfl ?_
      exact ⟨A2, c2, by rw [HP.out.1, HP.out.2], HE.out.1.below (Below.refl _ _).drew, HE.out.2.trans (NCh.of_below (Below.refl _ _).drew (Nat.le_trans hBs HE.out.2.size))⟩
end Go.Proofs.YtkenaoejijpgpaaDoor
