/- A network: Send, Double. -/
import Derived.Test.YtkenaoejijpgpaaDoorNetA
namespace Go.Proofs.YtkenaoejijpgpaaDoor
open Go.RowKit

theorem Tryd.infoP : (Tryd.prog.info? 89).map (fun i => (i.zero, i.size, i.bytes)) = some (some (.agg #[.int .i64 0, .slice none 0 0]), 2, 32) := by kernel_rfl
theorem send_nil (w : World) (to_ : Int) (A : Option Addr) (n c : Nat) : Calls Tryd.prog 19 #[.pointer none, .int .i64 to_, .slice A n c] w fun e w' => e = .returned (.tuple #[]) ∧ w = w' := by
  go_enter Tryd.func19, Tryd.ntmps19
  go_wp2_with fail
  go_end0
  exact ⟨rfl, rfl⟩
theorem send_full (w : World) {B N Lc : Nat} {LA : Option Addr} {l : List Pv} (h : NAt w B N LA Lc l) (hl : 1000 ≤ l.length) (to_ : Int) (A : Option Addr) (n c : Nat) : Calls Tryd.prog 19 #[.pointer (some ⟨N, 0, none⟩), .int .i64 to_, .slice A n c] w fun e w' => e = .returned (.tuple #[]) ∧ w = w' := by
  have c0 := h.c0
  clear h
  generalize l.length = m at c0 hl
  have hq : ¬ (m : Int) < 1000 := by omega
  clear hl
  go_enter Tryd.func19, Tryd.ntmps19
  go_wp2_with fail
  go_end0
  exact ⟨rfl, rfl⟩
/-- What Send leaves behind. -/
def SentTo (w : World) (B N : Nat) (l : List Pv) (to_ : Int) (bs : List UInt8) (e : Ending) (w' : World) : Prop :=
  ∃ LA Lc PA Pc, e = .returned (.tuple #[]) ∧ NAt w' B N LA Lc (l ++ [⟨to_, PA, Pc, bs⟩]) ∧ NCh B w w'
set_option maxRecDepth 100000 in
set_option maxHeartbeats 2000000 in
theorem send_any (w : World) {B N Lc : Nat} {LA : Option Addr} {l : List Pv} (h : NAt w B N LA Lc l) (hl : l.length < 1000) (to_ : Int) (A : Option Addr) (m c : Nat) (bs : List UInt8) (hb : BytesIn w w.heap.size A c bs) (hm : m = bs.length) (hm8 : m ≤ 100000000) :
    Calls Tryd.prog 19 #[.pointer (some ⟨N, 0, none⟩), .int .i64 to_, .slice A m c] w fun e w' => SentTo w B N l to_ bs e w' := by
  obtain ⟨iP, hiP, hz0, hz1, hz2⟩ := info_parts Tryd.infoP
  have c0 := h.c0
  have hNl := h.lt
  have hBs : B ≤ w.heap.size := Nat.le_trans h.lN (Nat.le_of_lt h.lt)
  have HH := Lib.hid h
  have HRW := Lib.hid h.row
  have HY := Lib.hid hb
  have HM := Lib.hid hm
  obtain ⟨n, hn⟩ : ∃ n, n = l.length := ⟨_, rfl⟩
  rw [← hn] at c0 hl HRW
  have HN := Lib.hid hn
  have hq : (n : Int) < 1000 := by omega
  clear h hb hm hn
  go_enter Tryd.func19, Tryd.ntmps19
  go_wp2_with fail
  have HC0 := Lib.hid c0
  clear c0 hq
  refine wp_region_noPanic ?_
  refine wp_region_held_drew (S := fun w' => True) (by kernel_rfl) ?_ (fun hHeld => ?_)
  · trivial
  refine wpAnyH_take (i := 0) (v := ?_) (by (simp only [List.getElem?_toArray, List.getElem?_cons_zero]; rfl)) (by kernel_rfl) (by kernel_rfl) (by kernel_rfl) (fun _ _ _ h => h) (Or.inl ⟨by rfl, ?_⟩) (by assumption) ?_
  rotate_left
  · (intro w hSw; (try dsimp only at hSw); go_simp; try with_reducible rfl)
  try simp only [Act.put, List.setIfInBounds_toArray, List.set_cons_zero, List.set_cons_succ]
  refine wpAnyH_take (i := 1) (v := ?_) (by (simp only [List.getElem?_toArray, List.getElem?_cons_succ, List.getElem?_cons_zero]; rfl)) (by kernel_rfl) (by kernel_rfl) (by kernel_rfl) (fun _ _ _ h => h) (Or.inl ⟨by rfl, ?_⟩) (by assumption) ?_
  rotate_left
  · (intro w hSw; (try dsimp only at hSw); go_simp; try with_reducible rfl)
  try simp only [Act.put, List.setIfInBounds_toArray, List.set_cons_zero, List.set_cons_succ]
  refine wpAnyH_take (i := 2) (v := ?_) (by (simp only [List.getElem?_toArray, List.getElem?_cons_succ, List.getElem?_cons_zero]; rfl)) (by kernel_rfl) (by kernel_rfl) (by kernel_rfl) (fun _ _ _ h => h) (Or.inl ⟨by rfl, ?_⟩) (by assumption) ?_
  rotate_left
  · (intro w hSw; (try dsimp only at hSw); go_simp; try with_reducible rfl)
  try simp only [Act.put, List.setIfInBounds_toArray, List.set_cons_zero, List.set_cons_succ]
  refine wpAnyH_take (i := 3) (v := ?_) (by (simp only [List.getElem?_toArray, List.getElem?_cons_succ, List.getElem?_cons_zero]; rfl)) (by kernel_rfl) (by kernel_rfl) (by kernel_rfl) (fun _ _ _ h => h) (Or.inl ⟨by rfl, ?_⟩) (by assumption) ?_
  rotate_left
  · (intro w hSw; (try dsimp only at hSw); go_simp; try with_reducible rfl)
  try simp only [Act.put, List.setIfInBounds_toArray, List.set_cons_zero, List.set_cons_succ]
  refine wpAnyH_take (i := 5) (v := ?_) (by (simp only [List.getElem?_toArray, List.getElem?_cons_succ, List.getElem?_cons_zero]; rfl)) (by kernel_rfl) (by kernel_rfl) (by kernel_rfl) (fun _ _ _ h => h) (Or.inl ⟨by rfl, ?_⟩) (by assumption) ?_
  rotate_left
  · (intro w hSw; (try dsimp only at hSw); go_simp; try with_reducible rfl)
  try simp only [Act.put, List.setIfInBounds_toArray, List.set_cons_zero, List.set_cons_succ]
  refine wpAnyH_take (i := 6) (v := ?_) (by (simp only [List.getElem?_toArray, List.getElem?_cons_succ, List.getElem?_cons_zero]; rfl)) (by kernel_rfl) (by kernel_rfl) (by kernel_rfl) (fun _ _ _ h => h) (Or.inl ⟨by rfl, ?_⟩) (by assumption) ?_
  rotate_left
  · (intro w hSw; (try dsimp only at hSw); go_simp; try with_reducible rfl)
  try simp only [Act.put, List.setIfInBounds_toArray, List.set_cons_zero, List.set_cons_succ]
  refine wpAnyH_ready (rs := [4, 7]) (by kernel_rfl) (by simp) ?_
  refine AllReadyH.cons (by (simp only [List.getElem?_toArray, List.getElem?_cons_succ, List.getElem?_cons_zero]; rfl)) (fun K hK => ?_) (AllReadyH.cons (by (simp only [List.getElem?_toArray, List.getElem?_cons_succ, List.getElem?_cons_zero]; rfl)) (fun K hK => ?_) AllReadyH.nil)
  · skip
    have c0 : w.drew.cell? ⟨N, 0, none⟩ = some (.slice LA n Lc) := HC0.out
    go_simp
    clear c0
    refine hK.out _ _ ?_ (fun hHeld => ?_)
    · trivial
    clear hK K
    try simp only [Act.put, List.setIfInBounds_toArray, List.set_cons_zero, List.set_cons_succ]
    refine wpAnyH_ready (rs := [7]) (by kernel_rfl) (by simp) ?_
    refine AllReadyH.cons (by (simp only [List.getElem?_toArray, List.getElem?_cons_succ, List.getElem?_cons_zero]; rfl)) (fun K hK => ?_) AllReadyH.nil
    go_simp
    refine (own_any18 A m c bs w.drew HY.out.drew HM.out hm8).mono ?_
    rintro e w1 ⟨PA, Pc, rfl, hown, hb⟩
    have HB1 : Hid (Below w.heap.size w w1) := Lib.hid ((Below.refl _ w).drew.trans hb)
    have HO1 : Hid (w1.ownsRow w.heap.size 5 1 (.slice PA m Pc) m (cells8 bs)) := Lib.hid hown
    clear hown hb
    refine hK.out _ _ ?_ (fun hHeld => ?_)
    · trivial
    clear hK K
    try simp only [Act.put, List.setIfInBounds_toArray, List.set_cons_zero, List.set_cons_succ]
    refine wpAnyH_take (i := 8) (v := ?_) (by (simp only [List.getElem?_toArray, List.getElem?_cons_succ, List.getElem?_cons_zero]; rfl)) (by kernel_rfl) (by kernel_rfl) (by kernel_rfl) (fun _ _ _ h => h) (Or.inl ⟨by rfl, ?_⟩) (by assumption) ?_
    rotate_left
    · (intro w hSw; (try dsimp only at hSw); go_simp; try with_reducible rfl)
    try simp only [Act.put, List.setIfInBounds_toArray, List.set_cons_zero, List.set_cons_succ]
    refine wpAnyH_ready (rs := [9]) (by kernel_rfl) (by simp) ?_
    refine AllReadyH.cons (by (simp only [List.getElem?_toArray, List.getElem?_cons_succ, List.getElem?_cons_zero]; rfl)) (fun K hK => ?_) AllReadyH.nil
    go_simp
    obtain ⟨w2, hw2⟩ : ∃ y, y = w1.alloc (.cells #[.int .i64 to_, .slice PA m Pc] 89) := ⟨_, rfl⟩
    have hb2 : Below w1.heap.size w1 w2 := by rw [hw2]; exact (Below.refl _ _).alloc (Nat.le_refl _) _
    have HB2 := Lib.hid hb2
    have HR2 : Hid (CellsIn w2 (w1.heap.size + 1) 2 (some ⟨w1.heap.size, 0, none⟩) 1 [.int .i64 to_, .slice PA m Pc]) := Lib.hid (by rw [hw2]; exact cellsIn_alloc w1 #[.int .i64 to_, .slice PA m Pc] _ _ 2 1 rfl)
    have HV2 := Lib.hid ((HRW.out.below HB1.out).below hb2)
    have hbs2 : B ≤ w2.heap.size := by have := HB1.out.size; have := hb2.size; omega
    rw [← hw2]
    clear hb2 hw2
    refine hK.out _ _ ?_ (fun hHeld => ?_)
    · trivial
    clear hK K
    try simp only [Act.put, List.setIfInBounds_toArray, List.set_cons_zero, List.set_cons_succ]
    refine wpAnyH_ready (rs := [10]) (by kernel_rfl) (by simp) ?_
    refine AllReadyH.cons (by (simp only [List.getElem?_toArray, List.getElem?_cons_succ, List.getElem?_cons_zero]; rfl)) (fun K hK => ?_) AllReadyH.nil
    refine step_append_view w2 rfl (.tmp 20) (.tmp 25) _ rfl B 89 iP _ 2 32 Tryd.underlying84 hiP hz0 hz1 hz2 rfl (by omega) LA n Lc (pks l) rfl HV2.out _ _ 1 _ _ rfl HR2.out (by simp [Value.oneCell']) (by unfold maxLen; omega) (by omega) hbs2 ?_
    intro A2 c2 w3 hrow hg hor
    have HE := Lib.hid (send_end HH.out HN.out HB1.out HO1.out HM.out HB2.out HV2.out hg hrow)
    obtain ⟨hc3, _⟩ := HV2.out.ch hg
    have HK3 := Lib.hid (hc3.blk ((HB2.out.block N (by have := HB1.out.size; omega)).trans ((HB1.out.block N hNl).trans HH.out.blk)) (by show (86 + 1 : Nat) ≠ _; decide))
    clear hrow hg hor hc3
    refine hK.out _ _ ?_ (fun hHeld => ?_)
    · trivial
    clear hK K
    try simp only [Act.put, List.setIfInBounds_toArray, List.set_cons_zero, List.set_cons_succ]
    refine wpAnyH_take (i := 11) (v := ?_) (by (simp only [List.getElem?_toArray, List.getElem?_cons_succ, List.getElem?_cons_zero]; rfl)) (by kernel_rfl) (by kernel_rfl) (by kernel_rfl) (fun _ _ _ h => h) (Or.inl ⟨by rfl, ?_⟩) (by assumption) ?_
    rotate_left
    · (intro w hSw; (try dsimp only at hSw); go_simp; try with_reducible rfl)
    try simp only [Act.put, List.setIfInBounds_toArray, List.set_cons_zero, List.set_cons_succ]
    refine wpAnyH_take (i := 12) (v := ?_) (by (simp only [List.getElem?_toArray, List.getElem?_cons_succ, List.getElem?_cons_zero]; rfl)) (by kernel_rfl) (by kernel_rfl) (by kernel_rfl) (fun _ _ _ h => h) (Or.inl ⟨by rfl, ?_⟩) (by assumption) ?_
    rotate_left
    · (intro w hSw; (try dsimp only at hSw); go_simp; try with_reducible rfl)
    try simp only [Act.put, List.setIfInBounds_toArray, List.set_cons_zero, List.set_cons_succ]
    refine wpAnyH_ready (rs := [13]) (by kernel_rfl) (by simp) ?_
    refine AllReadyH.cons (by (simp only [List.getElem?_toArray, List.getElem?_cons_succ, List.getElem?_cons_zero]; rfl)) (fun K hK => ?_) AllReadyH.nil
    have c0 : w3.cell? ⟨N, 0, none⟩ = some (.slice LA l.length Lc) := cellb (i := 0) HK3.out rfl
    have f0 : w3.frozen? ⟨N, 0, none⟩ = false := fzb HK3.out 0
    go_simp
    clear c0 f0
    refine hK.out _ _ ?_ (fun hHeld => ?_)
    · trivial
    clear hK K
    try simp only [Act.put]
    refine wpAnyH_done (by kernel_rfl) ?_ _
    refine NoPanic.normal ?_
    clear hHeld
    go_wp2_with fail
    go_end0
    exact ⟨A2, c2, PA, Pc, rfl, HE.out.1, HE.out.2⟩
  · skip
    go_simp
    refine (own_any18 A m c bs w.drew HY.out.drew HM.out hm8).mono ?_
    rintro e w1 ⟨PA, Pc, rfl, hown, hb⟩
    have HB1 : Hid (Below w.heap.size w w1) := Lib.hid ((Below.refl _ w).drew.trans hb)
    have HO1 : Hid (w1.ownsRow w.heap.size 5 1 (.slice PA m Pc) m (cells8 bs)) := Lib.hid hown
    clear hown hb
    refine hK.out _ _ ?_ (fun hHeld => ?_)
    · trivial
    clear hK K
    try simp only [Act.put, List.setIfInBounds_toArray, List.set_cons_zero, List.set_cons_succ]
    refine wpAnyH_take (i := 8) (v := ?_) (by (simp only [List.getElem?_toArray, List.getElem?_cons_succ, List.getElem?_cons_zero]; rfl)) (by kernel_rfl) (by kernel_rfl) (by kernel_rfl) (fun _ _ _ h => h) (Or.inl ⟨by rfl, ?_⟩) (by assumption) ?_
    rotate_left
    · (intro w hSw; (try dsimp only at hSw); go_simp; try with_reducible rfl)
    try simp only [Act.put, List.setIfInBounds_toArray, List.set_cons_zero, List.set_cons_succ]
    refine wpAnyH_ready (rs := [4, 9]) (by kernel_rfl) (by simp) ?_
    refine AllReadyH.cons (by (simp only [List.getElem?_toArray, List.getElem?_cons_succ, List.getElem?_cons_zero]; rfl)) (fun K hK => ?_) (AllReadyH.cons (by (simp only [List.getElem?_toArray, List.getElem?_cons_succ, List.getElem?_cons_zero]; rfl)) (fun K hK => ?_) AllReadyH.nil)
    · skip
      have c0 : w1.cell? ⟨N, 0, none⟩ = some (.slice LA n Lc) := (HB1.out.cell (p := ⟨N, 0, none⟩) hNl).trans HC0.out
      go_simp
      clear c0
      refine hK.out _ _ ?_ (fun hHeld => ?_)
      · trivial
      clear hK K
      try simp only [Act.put, List.setIfInBounds_toArray, List.set_cons_zero, List.set_cons_succ]
      refine wpAnyH_ready (rs := [9]) (by kernel_rfl) (by simp) ?_
      refine AllReadyH.cons (by (simp only [List.getElem?_toArray, List.getElem?_cons_succ, List.getElem?_cons_zero]; rfl)) (fun K hK => ?_) AllReadyH.nil
      go_simp
      obtain ⟨w2, hw2⟩ : ∃ y, y = w1.alloc (.cells #[.int .i64 to_, .slice PA m Pc] 89) := ⟨_, rfl⟩
      have hb2 : Below w1.heap.size w1 w2 := by rw [hw2]; exact (Below.refl _ _).alloc (Nat.le_refl _) _
      have HB2 := Lib.hid hb2
      have HR2 : Hid (CellsIn w2 (w1.heap.size + 1) 2 (some ⟨w1.heap.size, 0, none⟩) 1 [.int .i64 to_, .slice PA m Pc]) := Lib.hid (by rw [hw2]; exact cellsIn_alloc w1 #[.int .i64 to_, .slice PA m Pc] _ _ 2 1 rfl)
      have HV2 := Lib.hid ((HRW.out.below HB1.out).below hb2)
      have hbs2 : B ≤ w2.heap.size := by have := HB1.out.size; have := hb2.size; omega
      rw [← hw2]
      clear hb2 hw2
      refine hK.out _ _ ?_ (fun hHeld => ?_)
      · trivial
      clear hK K
      try simp only [Act.put, List.setIfInBounds_toArray, List.set_cons_zero, List.set_cons_succ]
      refine wpAnyH_ready (rs := [10]) (by kernel_rfl) (by simp) ?_
      refine AllReadyH.cons (by (simp only [List.getElem?_toArray, List.getElem?_cons_succ, List.getElem?_cons_zero]; rfl)) (fun K hK => ?_) AllReadyH.nil
      refine step_append_view w2 rfl (.tmp 20) (.tmp 25) _ rfl B 89 iP _ 2 32 Tryd.underlying84 hiP hz0 hz1 hz2 rfl (by omega) LA n Lc (pks l) rfl HV2.out _ _ 1 _ _ rfl HR2.out (by simp [Value.oneCell']) (by unfold maxLen; omega) (by omega) hbs2 ?_
      intro A2 c2 w3 hrow hg hor
      have HE := Lib.hid (send_end HH.out HN.out HB1.out HO1.out HM.out HB2.out HV2.out hg hrow)
      obtain ⟨hc3, _⟩ := HV2.out.ch hg
      have HK3 := Lib.hid (hc3.blk ((HB2.out.block N (by have := HB1.out.size; omega)).trans ((HB1.out.block N hNl).trans HH.out.blk)) (by show (86 + 1 : Nat) ≠ _; decide))
      clear hrow hg hor hc3
      refine hK.out _ _ ?_ (fun hHeld => ?_)
      · trivial
      clear hK K
      try simp only [Act.put, List.setIfInBounds_toArray, List.set_cons_zero, List.set_cons_succ]
      refine wpAnyH_take (i := 11) (v := ?_) (by (simp only [List.getElem?_toArray, List.getElem?_cons_succ, List.getElem?_cons_zero]; rfl)) (by kernel_rfl) (by kernel_rfl) (by kernel_rfl) (fun _ _ _ h => h) (Or.inl ⟨by rfl, ?_⟩) (by assumption) ?_
      rotate_left
      · (intro w hSw; (try dsimp only at hSw); go_simp; try with_reducible rfl)
      try simp only [Act.put, List.setIfInBounds_toArray, List.set_cons_zero, List.set_cons_succ]
      refine wpAnyH_take (i := 12) (v := ?_) (by (simp only [List.getElem?_toArray, List.getElem?_cons_succ, List.getElem?_cons_zero]; rfl)) (by kernel_rfl) (by kernel_rfl) (by kernel_rfl) (fun _ _ _ h => h) (Or.inl ⟨by rfl, ?_⟩) (by assumption) ?_
      rotate_left
      · (intro w hSw; (try dsimp only at hSw); go_simp; try with_reducible rfl)
      try simp only [Act.put, List.setIfInBounds_toArray, List.set_cons_zero, List.set_cons_succ]
      refine wpAnyH_ready (rs := [13]) (by kernel_rfl) (by simp) ?_
      refine AllReadyH.cons (by (simp only [List.getElem?_toArray, List.getElem?_cons_succ, List.getElem?_cons_zero]; rfl)) (fun K hK => ?_) AllReadyH.nil
      have c0 : w3.cell? ⟨N, 0, none⟩ = some (.slice LA l.length Lc) := cellb (i := 0) HK3.out rfl
      have f0 : w3.frozen? ⟨N, 0, none⟩ = false := fzb HK3.out 0
      go_simp
      clear c0 f0
      refine hK.out _ _ ?_ (fun hHeld => ?_)
      · trivial
      clear hK K
      try simp only [Act.put]
      refine wpAnyH_done (by kernel_rfl) ?_ _
      refine NoPanic.normal ?_
      clear hHeld
      go_wp2_with fail
      go_end0
      exact ⟨A2, c2, PA, Pc, rfl, HE.out.1, HE.out.2⟩
    · skip
      go_simp
      obtain ⟨w2, hw2⟩ : ∃ y, y = w1.alloc (.cells #[.int .i64 to_, .slice PA m Pc] 89) := ⟨_, rfl⟩
      have hb2 : Below w1.heap.size w1 w2 := by rw [hw2]; exact (Below.refl _ _).alloc (Nat.le_refl _) _
      have HB2 := Lib.hid hb2
      have HR2 : Hid (CellsIn w2 (w1.heap.size + 1) 2 (some ⟨w1.heap.size, 0, none⟩) 1 [.int .i64 to_, .slice PA m Pc]) := Lib.hid (by rw [hw2]; exact cellsIn_alloc w1 #[.int .i64 to_, .slice PA m Pc] _ _ 2 1 rfl)
      have HV2 := Lib.hid ((HRW.out.below HB1.out).below hb2)
      have hbs2 : B ≤ w2.heap.size := by have := HB1.out.size; have := hb2.size; omega
      rw [← hw2]
      clear hb2 hw2
      refine hK.out _ _ ?_ (fun hHeld => ?_)
      · trivial
      clear hK K
      try simp only [Act.put, List.setIfInBounds_toArray, List.set_cons_zero, List.set_cons_succ]
      refine wpAnyH_ready (rs := [4]) (by kernel_rfl) (by simp) ?_
      refine AllReadyH.cons (by (simp only [List.getElem?_toArray, List.getElem?_cons_succ, List.getElem?_cons_zero]; rfl)) (fun K hK => ?_) AllReadyH.nil
      have c0 : w2.cell? ⟨N, 0, none⟩ = some (.slice LA n Lc) := (HB2.out.cell (p := ⟨N, 0, none⟩) (by have := HB1.out.size; show N < _; omega)).trans ((HB1.out.cell (p := ⟨N, 0, none⟩) hNl).trans HC0.out)
      go_simp
      clear c0
      refine hK.out _ _ ?_ (fun hHeld => ?_)
      · trivial
      clear hK K
      try simp only [Act.put, List.setIfInBounds_toArray, List.set_cons_zero, List.set_cons_succ]
      refine wpAnyH_ready (rs := [10]) (by kernel_rfl) (by simp) ?_
      refine AllReadyH.cons (by (simp only [List.getElem?_toArray, List.getElem?_cons_succ, List.getElem?_cons_zero]; rfl)) (fun K hK => ?_) AllReadyH.nil
      refine step_append_view w2 rfl (.tmp 20) (.tmp 25) _ rfl B 89 iP _ 2 32 Tryd.underlying84 hiP hz0 hz1 hz2 rfl (by omega) LA n Lc (pks l) rfl HV2.out _ _ 1 _ _ rfl HR2.out (by simp [Value.oneCell']) (by unfold maxLen; omega) (by omega) hbs2 ?_
      intro A2 c2 w3 hrow hg hor
      have HE := Lib.hid (send_end HH.out HN.out HB1.out HO1.out HM.out HB2.out HV2.out hg hrow)
      obtain ⟨hc3, _⟩ := HV2.out.ch hg
      have HK3 := Lib.hid (hc3.blk ((HB2.out.block N (by have := HB1.out.size; omega)).trans ((HB1.out.block N hNl).trans HH.out.blk)) (by show (86 + 1 : Nat) ≠ _; decide))
      clear hrow hg hor hc3
      refine hK.out _ _ ?_ (fun hHeld => ?_)
      · trivial
      clear hK K
      try simp only [Act.put, List.setIfInBounds_toArray, List.set_cons_zero, List.set_cons_succ]
      refine wpAnyH_take (i := 11) (v := ?_) (by (simp only [List.getElem?_toArray, List.getElem?_cons_succ, List.getElem?_cons_zero]; rfl)) (by kernel_rfl) (by kernel_rfl) (by kernel_rfl) (fun _ _ _ h => h) (Or.inl ⟨by rfl, ?_⟩) (by assumption) ?_
      rotate_left
      · (intro w hSw; (try dsimp only at hSw); go_simp; try with_reducible rfl)
      try simp only [Act.put, List.setIfInBounds_toArray, List.set_cons_zero, List.set_cons_succ]
      refine wpAnyH_take (i := 12) (v := ?_) (by (simp only [List.getElem?_toArray, List.getElem?_cons_succ, List.getElem?_cons_zero]; rfl)) (by kernel_rfl) (by kernel_rfl) (by kernel_rfl) (fun _ _ _ h => h) (Or.inl ⟨by rfl, ?_⟩) (by assumption) ?_
      rotate_left
      · (intro w hSw; (try dsimp only at hSw); go_simp; try with_reducible rfl)
      try simp only [Act.put, List.setIfInBounds_toArray, List.set_cons_zero, List.set_cons_succ]
      refine wpAnyH_ready (rs := [13]) (by kernel_rfl) (by simp) ?_
      refine AllReadyH.cons (by (simp only [List.getElem?_toArray, List.getElem?_cons_succ, List.getElem?_cons_zero]; rfl)) (fun K hK => ?_) AllReadyH.nil
      have c0 : w3.cell? ⟨N, 0, none⟩ = some (.slice LA l.length Lc) := cellb (i := 0) HK3.out rfl
      have f0 : w3.frozen? ⟨N, 0, none⟩ = false := fzb HK3.out 0
      go_simp
      clear c0 f0
      refine hK.out _ _ ?_ (fun hHeld => ?_)
      · trivial
      clear hK K
      try simp only [Act.put]
      refine wpAnyH_done (by kernel_rfl) ?_ _
      refine NoPanic.normal ?_
      clear hHeld
      go_wp2_with fail
      go_end0
      exact ⟨A2, c2, PA, Pc, rfl, HE.out.1, HE.out.2⟩
end Go.Proofs.YtkenaoejijpgpaaDoor
