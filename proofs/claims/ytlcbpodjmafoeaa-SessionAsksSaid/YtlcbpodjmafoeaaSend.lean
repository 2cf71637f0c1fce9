/- A client: sending. -/
import Derived.Test.YtlcbpodjmafoeaaCli
import Derived.Deep.RegionHeld3
import Derived.Laws.ResultCell
import Derived.Laws.Tables
import Derived.Deep.WholeRow
import Derived.Test.YtlcbpodjmafoeaaHeldW
namespace Go.Proofs.Ytlcbpodjmafoeaa
open Go.RowKit

theorem results_msg (tmps : Array Value) (w : World) (g : Nat) (cs : Array Value) (hp : tmps.getD 4 undef = .pointer (some ⟨g, 0, none⟩)) (hg : w.heap[g]? = some (.cells cs 36 (0, 0))) (hc : cs.size = 21) :
    (results Try.f19 tmps).run Try.prog w = .ok (.tuple #[.agg cs, tmps.getD 5 undef]) w := by
  rw [results_cell_tmp Try.results19]
  rw [hp]
  have h := run_loadVar_row (P := Try.prog) w g 36 36 cs (0, 0) _ hg Try.underlying36 rfl (by rw [hc]; kernel_rfl)
  simp [asAddr, h]
theorem Chg.setRow {S : Nat → Prop} {w w' : World} (h : Chg S w w') {R : Nat} (hR : w.heap.size ≤ R ∨ S R) (cs : Array Value) : Chg S w (w'.setRow R cs) :=
  ⟨h.os, h.tape, h.output, by simpa using h.size, fun k hk hs => (setRow_other w' R k cs (fun e => hR.elim (fun hR => by omega) (fun hR => hs (e ▸ hR)))).trans (h.block k hk hs)⟩
theorem own_off {w w' : World} {base b n c : Nat} {A : Option Addr} {xs : List Value} {cs : Array Value} {t : TypeId} {f : Nat × Nat} (ho : w.ownsRow base 5 1 (.slice A n c) n xs) (hb : w.heap[b]? = some (.cells cs t f)) (ht : t ≠ 5) (hc : Chg (fun k => k = b) w w') : w'.ownsRow base 5 1 (.slice A n c) n xs :=
  hc.own ho (fun k hk e => by
    obtain ⟨cur, f', h'⟩ := own_elem ho hk
    rw [e, hb] at h'
    injection h' with h'
    injection h' with _ h2 _
    exact absurd h2 ht)
theorem CAt.off {w w' : World} {g b c : Nat} {s : Ct} {A : Option Addr} {cs : Array Value} {t : TypeId} {f : Nat × Nat} (h : CAt w g s A c) (hb : w.heap[b]? = some (.cells cs t f)) (ht : t ≠ 5) (hg : b ≠ g) (hc : Chg (fun k => k = b) w w') : CAt w' g s A c :=
  ⟨(hc.block g h.glt (fun e => hg e.symm)).trans h.blk, own_off h.own hb ht hc⟩
/-- Nothing is to be sent. -/
def SendNo (s : Ct) (now : Int) : Prop := s.asks = false ∨ now < 0 ∨ 1099511627776 ≤ now ∨ (s.sent = true ∧ s.at_ ≤ now ∧ now - 4 < s.at_)
instance (s : Ct) (now : Int) : Decidable (SendNo s now) := by unfold SendNo; exact inferInstance
set_option maxRecDepth 100000 in
set_option maxHeartbeats 4000000 in
theorem send_no (g : Nat) (s : Ct) (A : Option Addr) (c : Nat) (now : Int) (w : World) (h : CAt w g s A c) (hno : SendNo s now) (ha : s.at_ < 1099511627776) :
    Calls Try.prog 19 #[.pointer (some ⟨g, 0, none⟩), .int .i64 now] w fun e w' => e = .returned (.tuple #[.agg #[.int .i64 0, .int .i64 0, .int .i64 0, .int .i64 0, .int .i64 0, .int .i64 0, .int .i64 0, .int .i64 0, .int .i64 0, .int .i64 0, .int .i64 0, .int .i64 0, .int .i64 0, .int .i64 0, .int .i64 0, .int .i64 0, .int .i64 0, .slice none 0 0, .int .i64 0, .int .i64 0, .int .i64 0], .bool false]) ∧ Below w.heap.size w w' := by
  have hgl := h.glt
  obtain ⟨id, seq, epoch, asks, sent, at_, body⟩ := s
  have c3 := cellb (i := 3) h.blk rfl
  have c4 := cellb (i := 4) h.blk rfl
  have c5 := cellb (i := 5) h.blk rfl
  unfold SendNo at hno
  simp only at c3 c4 c5 hno ha
  have HB := Lib.hid ((Below.refl w.heap.size w).alloc (Nat.le_refl _) (.cells #[.int .i64 0, .int .i64 0, .int .i64 0, .int .i64 0, .int .i64 0, .int .i64 0, .int .i64 0, .int .i64 0, .int .i64 0, .int .i64 0, .int .i64 0, .int .i64 0, .int .i64 0, .int .i64 0, .int .i64 0, .int .i64 0, .int .i64 0, .slice none 0 0, .int .i64 0, .int .i64 0, .int .i64 0] 36))
  clear h
  cases asks
  · clear hno
    go_enter Try.func19, Try.ntmps19
    go_wp2_with (refine wpList_store_row rfl 36 (.tmp 4) (.tmp 46) rfl w.heap.size _ rfl rfl 36 _ (heap_alloc_new w _) (by kernel_rfl) rfl (by simp [Value.oneCell']) ?_; rw [World.setRow_alloc_new])
    refine bodyPost_ret (v := .tuple #[.agg #[.int .i64 0, .int .i64 0, .int .i64 0, .int .i64 0, .int .i64 0, .int .i64 0, .int .i64 0, .int .i64 0, .int .i64 0, .int .i64 0, .int .i64 0, .int .i64 0, .int .i64 0, .int .i64 0, .int .i64 0, .int .i64 0, .int .i64 0, .slice none 0 0, .int .i64 0, .int .i64 0, .int .i64 0], .bool false]) (results_msg _ _ w.heap.size _ rfl (heap_alloc_new w _) rfl) rfl ?_
    exact ⟨rfl, HB.out⟩
  rcases Classical.em (now < 0) with h1 | h1
  · clear hno
    go_enter Try.func19, Try.ntmps19
    go_wp2_with (refine wpList_store_row rfl 36 (.tmp 4) (.tmp 46) rfl w.heap.size _ rfl rfl 36 _ (heap_alloc_new w _) (by kernel_rfl) rfl (by simp [Value.oneCell']) ?_; rw [World.setRow_alloc_new])
    refine bodyPost_ret (v := .tuple #[.agg #[.int .i64 0, .int .i64 0, .int .i64 0, .int .i64 0, .int .i64 0, .int .i64 0, .int .i64 0, .int .i64 0, .int .i64 0, .int .i64 0, .int .i64 0, .int .i64 0, .int .i64 0, .int .i64 0, .int .i64 0, .int .i64 0, .int .i64 0, .slice none 0 0, .int .i64 0, .int .i64 0, .int .i64 0], .bool false]) (results_msg _ _ w.heap.size _ rfl (heap_alloc_new w _) rfl) rfl ?_
    exact ⟨rfl, HB.out⟩
  rcases Classical.em (1099511627776 ≤ now) with h2 | h2
  · clear hno
    go_enter Try.func19, Try.ntmps19
    go_wp2_with (refine wpList_store_row rfl 36 (.tmp 4) (.tmp 46) rfl w.heap.size _ rfl rfl 36 _ (heap_alloc_new w _) (by kernel_rfl) rfl (by simp [Value.oneCell']) ?_; rw [World.setRow_alloc_new])
    refine bodyPost_ret (v := .tuple #[.agg #[.int .i64 0, .int .i64 0, .int .i64 0, .int .i64 0, .int .i64 0, .int .i64 0, .int .i64 0, .int .i64 0, .int .i64 0, .int .i64 0, .int .i64 0, .int .i64 0, .int .i64 0, .int .i64 0, .int .i64 0, .int .i64 0, .int .i64 0, .slice none 0 0, .int .i64 0, .int .i64 0, .int .i64 0], .bool false]) (results_msg _ _ w.heap.size _ rfl (heap_alloc_new w _) rfl) rfl ?_
    exact ⟨rfl, HB.out⟩
  · have h3 : sent = true ∧ at_ ≤ now ∧ now - 4 < at_ := by
      rcases hno with e | e | e | e
      · cases e
      · omega
      · omega
      · exact e
    obtain ⟨rfl, h4, h5⟩ := h3
    clear hno
    go_enter Try.func19, Try.ntmps19
    go_wp2_with (refine wpList_store_row rfl 36 (.tmp 4) (.tmp 46) rfl w.heap.size _ rfl rfl 36 _ (heap_alloc_new w _) (by kernel_rfl) rfl (by simp [Value.oneCell']) ?_; rw [World.setRow_alloc_new])
    refine bodyPost_ret (v := .tuple #[.agg #[.int .i64 0, .int .i64 0, .int .i64 0, .int .i64 0, .int .i64 0, .int .i64 0, .int .i64 0, .int .i64 0, .int .i64 0, .int .i64 0, .int .i64 0, .int .i64 0, .int .i64 0, .int .i64 0, .int .i64 0, .int .i64 0, .int .i64 0, .slice none 0 0, .int .i64 0, .int .i64 0, .int .i64 0], .bool false]) (results_msg _ _ w.heap.size _ rfl (heap_alloc_new w _) rfl) rfl ?_
    exact ⟨rfl, HB.out⟩

set_option maxRecDepth 100000 in
set_option maxHeartbeats 4000000 in
theorem send_ok (g : Nat) (s : Ct) (A : Option Addr) (c : Nat) (now : Int) (w : World) (h : CAt w g s A c) (hno : ¬ SendNo s now) (hbl : s.body.length ≤ 5000) (ha : s.at_ < 1099511627776) :
    Calls Try.prog 19 #[.pointer (some ⟨g, 0, none⟩), .int .i64 now] w fun e w' => ∃ A' c', e = .returned (.tuple #[.agg #[.int .i64 (7), .int .i64 (s.epoch), .int .i64 0, .int .i64 0, .int .i64 0, .int .i64 0, .int .i64 0, .int .i64 0, .int .i64 0, .int .i64 0, .int .i64 0, .int .i64 0, .int .i64 0, .int .i64 0, .int .i64 0, .int .i64 (s.id), .int .i64 (s.seq), .slice A' s.body.length c', .int .i64 0, .int .i64 0, .int .i64 0], .bool true]) ∧ CAt w' g { s with sent := true, at_ := now } A c ∧ w'.ownsRow w.heap.size 5 1 (.slice A' s.body.length c') s.body.length (cells8 s.body) ∧ Chg (fun k => k = g) w w' := by
  have hgl := h.glt
  obtain ⟨id, seq, epoch, asks, sent, at_, body⟩ := s
  simp only at hbl ha ⊢
  obtain ⟨n, hn⟩ : ∃ n, n = body.length := ⟨_, rfl⟩
  have hblk := h.blk
  simp only at hblk
  rw [← hn] at hblk
  have c0 := cellb (i := 0) hblk rfl
  have c1 := cellb (i := 1) hblk rfl
  have c2 := cellb (i := 2) hblk rfl
  have c3 := cellb (i := 3) hblk rfl
  have c4 := cellb (i := 4) hblk rfl
  have c5 := cellb (i := 5) hblk rfl
  have c6 := cellb (i := 6) hblk rfl
  have f4 := fzb hblk 4
  have f5 := fzb hblk 5
  unfold SendNo at hno
  simp only at hno
  have hno1 : asks = true := by cases asks <;> simp_all
  subst hno1
  have hno2 : ¬ now < 0 := by omega
  have hno3 : ¬ 1099511627776 ≤ now := by omega
  have hno4 : ¬ (sent = true ∧ at_ ≤ now ∧ now - 4 < at_) := fun e => hno (.inr (.inr (.inr e)))
  clear hno
  obtain ⟨R, hR⟩ : ∃ R, R = w.heap.size := ⟨_, rfl⟩
  obtain ⟨W, hW⟩ : ∃ W, W = ((w.setCell ⟨g, 4, none⟩ (.bool true)).setCell ⟨g, 5, none⟩ (.int .i64 now)).alloc (.cells #[.int .i64 0, .int .i64 0, .int .i64 0, .int .i64 0, .int .i64 0, .int .i64 0, .int .i64 0, .int .i64 0, .int .i64 0, .int .i64 0, .int .i64 0, .int .i64 0, .int .i64 0, .int .i64 0, .int .i64 0, .int .i64 0, .int .i64 0, .slice none 0 0, .int .i64 0, .int .i64 0, .int .i64 0] 36) := ⟨_, rfl⟩
  have hch : Chg (fun k => k = g) w W := by rw [hW]; exact ((chg_g g 4 w _).trans (chg_g g 5 _ _)).alloc _
  have hRb : W.heap[R]? = some (.cells #[.int .i64 0, .int .i64 0, .int .i64 0, .int .i64 0, .int .i64 0, .int .i64 0, .int .i64 0, .int .i64 0, .int .i64 0, .int .i64 0, .int .i64 0, .int .i64 0, .int .i64 0, .int .i64 0, .int .i64 0, .int .i64 0, .int .i64 0, .slice none 0 0, .int .i64 0, .int .i64 0, .int .i64 0] 36 (0, 0)) := by
    rw [hW, hR]
    have := heap_alloc_new ((w.setCell ⟨g, 4, none⟩ (.bool true)).setCell ⟨g, 5, none⟩ (.int .i64 now)) (.cells #[.int .i64 0, .int .i64 0, .int .i64 0, .int .i64 0, .int .i64 0, .int .i64 0, .int .i64 0, .int .i64 0, .int .i64 0, .int .i64 0, .int .i64 0, .int .i64 0, .int .i64 0, .int .i64 0, .int .i64 0, .int .i64 0, .int .i64 0, .slice none 0 0, .int .i64 0, .int .i64 0, .int .i64 0] 36)
    simpa [World.setCell] using this
  have hgb : W.heap[g]? = some (.cells #[.int .i64 id, .int .i64 seq, .int .i64 epoch, .bool true, .bool true, .int .i64 now, .slice A n c] 90 (0, 0)) := by
    have e : (((w.setCell ⟨g, 4, none⟩ (.bool true)).setCell ⟨g, 5, none⟩ (.int .i64 now)).alloc (.cells #[.int .i64 0, .int .i64 0, .int .i64 0, .int .i64 0, .int .i64 0, .int .i64 0, .int .i64 0, .int .i64 0, .int .i64 0, .int .i64 0, .int .i64 0, .int .i64 0, .int .i64 0, .int .i64 0, .int .i64 0, .int .i64 0, .int .i64 0, .slice none 0 0, .int .i64 0, .int .i64 0, .int .i64 0] 36)).heap[g]? = ((w.setCell ⟨g, 4, none⟩ (.bool true)).setCell ⟨g, 5, none⟩ (.int .i64 now)).heap[g]? := Below.heap_alloc _ _ g (by simpa [World.setCell] using hgl)
    rw [hW, e]; simp [World.setCell, Array.getElem?_modify, hblk]
  have hCA : CAt W g ⟨id, seq, epoch, true, true, now, body⟩ A c := h.re hch (by rw [hgb]; simp only [hn]) rfl
  have HC := Lib.hid hCA
  have HCH := Lib.hid hch
  have HR := Lib.hid hRb
  have HG := Lib.hid hgb
  have HN := Lib.hid hn
  have HRW : Hid (w.heap.size = R) := Lib.hid hR.symm
  have hgR : g < R := by omega
  have hn5 : n ≤ 5000 := by omega
  clear hch hRb hgb hCA h hblk hn hbl
  have key : sent = false ∨ (sent = true ∧ ¬ at_ ≤ now) ∨ (sent = true ∧ at_ ≤ now ∧ ¬ now - 4 < at_) := by
    cases sent
    · exact .inl rfl
    · by_cases h1 : at_ ≤ now
      · exact .inr (.inr ⟨rfl, h1, fun h2 => hno4 ⟨rfl, h1, h2⟩⟩)
      · exact .inr (.inl ⟨rfl, h1⟩)
  clear hno4
  rcases key with rfl | ⟨rfl, h4⟩ | ⟨rfl, h4, h5⟩
  all_goals
    go_enter Try.func19, Try.ntmps19
    go_wp2_with fail
    rw [← hW, ← hR]
    clear hW hR c0 c1 c2 c3 c4 c5 c6 f4 f5
    have d0 : W.drew.cell? ⟨g, 0, none⟩ = some (.int .i64 id) := cellb (i := 0) HG.out rfl
    have d1 : W.drew.cell? ⟨g, 1, none⟩ = some (.int .i64 seq) := cellb (i := 1) HG.out rfl
    have d2 : W.drew.cell? ⟨g, 2, none⟩ = some (.int .i64 epoch) := cellb (i := 2) HG.out rfl
    have d6 : W.drew.cell? ⟨g, 6, none⟩ = some (.slice A n c) := cellb (i := 6) HG.out rfl

    refine wp_region_noPanic ?_
    refine wp_region_held_drew (S := fun w' => w'.cell? ⟨g, 0, none⟩ = some (.int .i64 id) ∧ w'.cell? ⟨g, 1, none⟩ = some (.int .i64 seq) ∧ w'.cell? ⟨g, 2, none⟩ = some (.int .i64 epoch) ∧ w'.cell? ⟨g, 6, none⟩ = some (.slice A n c)) (by kernel_rfl) ?_ (fun hHeld => ?_)
    · try dsimp only
      (refine ⟨?_, ?_, ?_, ?_⟩ <;> (first | with_reducible assumption))
    refine wpAnyH_take (i := 0) (v := ?_) (by (simp only [List.getElem?_toArray, List.getElem?_cons_zero]; rfl)) (by kernel_rfl) (by kernel_rfl) (by kernel_rfl) (fun _ _ _ h => h) (Or.inl ⟨by rfl, ?_⟩) (by assumption) ?_
    rotate_left
    · (intro w hSw; (try dsimp only at hSw); go_simp; try with_reducible rfl)
    try simp only [Act.put, List.setIfInBounds_toArray, List.set_cons_zero, List.set_cons_succ]
    refine wpAnyH_take (i := 1) (v := ?_) (by (simp only [List.getElem?_toArray, List.getElem?_cons_succ, List.getElem?_cons_zero]; rfl)) (by kernel_rfl) (by kernel_rfl) (by kernel_rfl) (fun _ _ _ h => h) (Or.inl ⟨by rfl, ?_⟩) (by assumption) ?_
    rotate_left
    · (intro w hSw; (try dsimp only at hSw); go_simp; try with_reducible rfl)
    try simp only [Act.put, List.setIfInBounds_toArray, List.set_cons_zero, List.set_cons_succ]
    refine wpAnyH_take (i := 2) (v := ?_) (by (simp only [List.getElem?_toArray, List.getElem?_cons_succ, List.getElem?_cons_zero]; rfl)) (by kernel_rfl) (by kernel_rfl) (by kernel_rfl) (fun _ _ _ h => h) (Or.inl ⟨by rfl, ?_⟩) (by assumption) ?_
    rotate_left
    · (intro w hSw; (try dsimp only at hSw); go_simp; try with_reducible rfl)
    try simp only [Act.put, List.setIfInBounds_toArray, List.set_cons_zero, List.set_cons_succ]
    refine wpAnyH_take (i := 3) (v := ?_) (by (simp only [List.getElem?_toArray, List.getElem?_cons_succ, List.getElem?_cons_zero]; rfl)) (by kernel_rfl) (by kernel_rfl) (by kernel_rfl) (fun _ _ _ h => h) (Or.inl ⟨by rfl, ?_⟩) (by assumption) ?_
    rotate_left
    · (intro w hSw; (try dsimp only at hSw); go_simp; try with_reducible rfl)
    try simp only [Act.put, List.setIfInBounds_toArray, List.set_cons_zero, List.set_cons_succ]
    refine wpAnyH_take (i := 4) (v := ?_) (by (simp only [List.getElem?_toArray, List.getElem?_cons_succ, List.getElem?_cons_zero]; rfl)) (by kernel_rfl) (by kernel_rfl) (by kernel_rfl) (fun _ _ _ h => h) (Or.inl ⟨by rfl, ?_⟩) (by assumption) ?_
    rotate_left
    · (intro w hSw; (try dsimp only at hSw); go_simp; try with_reducible rfl)
    try simp only [Act.put, List.setIfInBounds_toArray, List.set_cons_zero, List.set_cons_succ]
    refine wpAnyH_take (i := 5) (v := ?_) (by (simp only [List.getElem?_toArray, List.getElem?_cons_succ, List.getElem?_cons_zero]; rfl)) (by kernel_rfl) (by kernel_rfl) (by kernel_rfl) (fun _ _ _ h => h) (Or.inl ⟨by rfl, ?_⟩) (by assumption) ?_
    rotate_left
    · (intro w hSw; (try dsimp only at hSw); go_simp; try with_reducible rfl)
    try simp only [Act.put, List.setIfInBounds_toArray, List.set_cons_zero, List.set_cons_succ]
    refine wpAnyH_take (i := 6) (v := ?_) (by (simp only [List.getElem?_toArray, List.getElem?_cons_succ, List.getElem?_cons_zero]; rfl)) (by kernel_rfl) (by kernel_rfl) (by kernel_rfl) (fun _ _ _ h => h) (Or.inl ⟨by rfl, ?_⟩) (by assumption) ?_
    rotate_left
    · (intro w hSw; (try dsimp only at hSw); go_simp; try with_reducible rfl)
    try simp only [Act.put, List.setIfInBounds_toArray, List.set_cons_zero, List.set_cons_succ]
    refine wpAnyH_take (i := 7) (v := ?_) (by (simp only [List.getElem?_toArray, List.getElem?_cons_succ, List.getElem?_cons_zero]; rfl)) (by kernel_rfl) (by kernel_rfl) (by kernel_rfl) (fun _ _ _ h => h) (Or.inl ⟨by rfl, ?_⟩) (by assumption) ?_
    rotate_left
    · (intro w hSw; (try dsimp only at hSw); go_simp; try with_reducible rfl)
    try simp only [Act.put, List.setIfInBounds_toArray, List.set_cons_zero, List.set_cons_succ]
    refine wpAnyH_take (i := 8) (v := ?_) (by (simp only [List.getElem?_toArray, List.getElem?_cons_succ, List.getElem?_cons_zero]; rfl)) (by kernel_rfl) (by kernel_rfl) (by kernel_rfl) (fun _ _ _ h => h) (Or.inl ⟨by rfl, ?_⟩) (by assumption) ?_
    rotate_left
    · (intro w hSw; (try dsimp only at hSw); go_simp; try with_reducible rfl)
    try simp only [Act.put, List.setIfInBounds_toArray, List.set_cons_zero, List.set_cons_succ]
    refine wpAnyH_take (i := 9) (v := ?_) (by (simp only [List.getElem?_toArray, List.getElem?_cons_succ, List.getElem?_cons_zero]; rfl)) (by kernel_rfl) (by kernel_rfl) (by kernel_rfl) (fun _ _ _ h => h) (Or.inl ⟨by rfl, ?_⟩) (by assumption) ?_
    rotate_left
    · (intro w hSw; (try dsimp only at hSw); go_simp; try with_reducible rfl)
    try simp only [Act.put, List.setIfInBounds_toArray, List.set_cons_zero, List.set_cons_succ]
    refine wpAnyH_take (i := 10) (v := ?_) (by (simp only [List.getElem?_toArray, List.getElem?_cons_succ, List.getElem?_cons_zero]; rfl)) (by kernel_rfl) (by kernel_rfl) (by kernel_rfl) (fun _ _ _ h => h) (Or.inl ⟨by rfl, ?_⟩) (by assumption) ?_
    rotate_left
    · (intro w hSw; (try dsimp only at hSw); go_simp; try with_reducible rfl)
    try simp only [Act.put, List.setIfInBounds_toArray, List.set_cons_zero, List.set_cons_succ]
    refine wpAnyH_take (i := 11) (v := ?_) (by (simp only [List.getElem?_toArray, List.getElem?_cons_succ, List.getElem?_cons_zero]; rfl)) (by kernel_rfl) (by kernel_rfl) (by kernel_rfl) (fun _ _ _ h => h) (Or.inl ⟨by rfl, ?_⟩) (by assumption) ?_
    rotate_left
    · (intro w hSw; (try dsimp only at hSw); go_simp; try with_reducible rfl)
    try simp only [Act.put, List.setIfInBounds_toArray, List.set_cons_zero, List.set_cons_succ]
    refine wpAnyH_take (i := 12) (v := ?_) (by (simp only [List.getElem?_toArray, List.getElem?_cons_succ, List.getElem?_cons_zero]; rfl)) (by kernel_rfl) (by kernel_rfl) (by kernel_rfl) (fun _ _ _ h => h) (Or.inl ⟨by rfl, ?_⟩) (by assumption) ?_
    rotate_left
    · (intro w hSw; (try dsimp only at hSw); go_simp; try with_reducible rfl)
    try simp only [Act.put, List.setIfInBounds_toArray, List.set_cons_zero, List.set_cons_succ]
    refine wpAnyH_take (i := 13) (v := ?_) (by (simp only [List.getElem?_toArray, List.getElem?_cons_succ, List.getElem?_cons_zero]; rfl)) (by kernel_rfl) (by kernel_rfl) (by kernel_rfl) (fun _ _ _ h => h) (Or.inl ⟨by rfl, ?_⟩) (by assumption) ?_
    rotate_left
    · (intro w hSw; (try dsimp only at hSw); go_simp; try with_reducible rfl)
    try simp only [Act.put, List.setIfInBounds_toArray, List.set_cons_zero, List.set_cons_succ]
    refine wpAnyH_take (i := 14) (v := ?_) (by (simp only [List.getElem?_toArray, List.getElem?_cons_succ, List.getElem?_cons_zero]; rfl)) (by kernel_rfl) (by kernel_rfl) (by kernel_rfl) (fun _ _ _ h => h) (Or.inl ⟨by rfl, ?_⟩) (by assumption) ?_
    rotate_left
    · (intro w hSw; (try dsimp only at hSw); go_simp; try with_reducible rfl)
    try simp only [Act.put, List.setIfInBounds_toArray, List.set_cons_zero, List.set_cons_succ]
    refine wpAnyH_take (i := 15) (v := ?_) (by (simp only [List.getElem?_toArray, List.getElem?_cons_succ, List.getElem?_cons_zero]; rfl)) (by kernel_rfl) (by kernel_rfl) (by kernel_rfl) (fun _ _ _ h => h) (Or.inl ⟨by rfl, ?_⟩) (by assumption) ?_
    rotate_left
    · (intro w hSw; (try dsimp only at hSw); go_simp; try with_reducible rfl)
    try simp only [Act.put, List.setIfInBounds_toArray, List.set_cons_zero, List.set_cons_succ]
    refine wpAnyH_ready (rs := [16]) (by kernel_rfl) (by simp) ?_
    refine AllReadyH.cons (by (simp only [List.getElem?_toArray, List.getElem?_cons_succ, List.getElem?_cons_zero]; rfl)) (fun K hK => ?_) AllReadyH.nil
    go_simp
    refine (clone_any A c n body W.drew ((bytesIn_of_own HC.out.own).2.drew) HN.out hn5).mono ?_
    rintro e w5 ⟨A5, c5', rfl, ho, hb⟩
    have HO5 := Lib.hid ho
    have HR5 := Lib.hid ((hb.block R (ltb HR.out)).trans HR.out)
    have HB5 : Hid (Below W.heap.size W w5) := Lib.hid ((Below.refl W.heap.size W).drew.trans hb)
    have e0 : w5.cell? ⟨g, 0, none⟩ = some (.int .i64 id) := (hb.cell (p := ⟨g, 0, none⟩) (ltb HG.out)).trans d0
    have e1 : w5.cell? ⟨g, 1, none⟩ = some (.int .i64 seq) := (hb.cell (p := ⟨g, 1, none⟩) (ltb HG.out)).trans d1
    have e2 : w5.cell? ⟨g, 2, none⟩ = some (.int .i64 epoch) := (hb.cell (p := ⟨g, 2, none⟩) (ltb HG.out)).trans d2
    have e6 : w5.cell? ⟨g, 6, none⟩ = some (.slice A n c) := (hb.cell (p := ⟨g, 6, none⟩) (ltb HG.out)).trans d6
    clear ho hb
    refine hK.out _ _ ?_ (fun hHeld => ?_)
    · try dsimp only
      (refine ⟨?_, ?_, ?_, ?_⟩ <;> (first | with_reducible assumption))
    clear hK K
    try simp only [Act.put, List.setIfInBounds_toArray, List.set_cons_zero, List.set_cons_succ]
    refine wpAnyH_take (i := 17) (v := ?_) (by (simp only [List.getElem?_toArray, List.getElem?_cons_succ, List.getElem?_cons_zero]; rfl)) (by kernel_rfl) (by kernel_rfl) (by kernel_rfl) (fun _ _ _ h => h) (Or.inl ⟨by rfl, ?_⟩) (by assumption) ?_
    rotate_left
    · (intro w hSw; (try dsimp only at hSw); go_simp; try with_reducible rfl)
    try simp only [Act.put, List.setIfInBounds_toArray, List.set_cons_zero, List.set_cons_succ]
    refine wpAnyH_ready (rs := [18]) (by kernel_rfl) (by simp) ?_
    refine AllReadyH.cons (by (simp only [List.getElem?_toArray, List.getElem?_cons_succ, List.getElem?_cons_zero]; rfl)) (fun K hK => ?_) AllReadyH.nil
    refine wp_store_row 36 (.tmp 4) (.tmp 71) rfl R _ rfl rfl 36 _ HR5.out (by kernel_rfl) rfl (by simp [Value.oneCell']) ?_
    have y0 : (w5.setRow R #[.int .i64 (7), .int .i64 (epoch), .int .i64 0, .int .i64 0, .int .i64 0, .int .i64 0, .int .i64 0, .int .i64 0, .int .i64 0, .int .i64 0, .int .i64 0, .int .i64 0, .int .i64 0, .int .i64 0, .int .i64 0, .int .i64 (id), .int .i64 (seq), .slice A5 n c5', .int .i64 0, .int .i64 0, .int .i64 0]).cell? ⟨g, 0, none⟩ = some (.int .i64 id) := (cell_setRow_other w5 R _ _ (by show g ≠ R; omega)).trans e0
    have y1 : (w5.setRow R #[.int .i64 (7), .int .i64 (epoch), .int .i64 0, .int .i64 0, .int .i64 0, .int .i64 0, .int .i64 0, .int .i64 0, .int .i64 0, .int .i64 0, .int .i64 0, .int .i64 0, .int .i64 0, .int .i64 0, .int .i64 0, .int .i64 (id), .int .i64 (seq), .slice A5 n c5', .int .i64 0, .int .i64 0, .int .i64 0]).cell? ⟨g, 1, none⟩ = some (.int .i64 seq) := (cell_setRow_other w5 R _ _ (by show g ≠ R; omega)).trans e1
    have y2 : (w5.setRow R #[.int .i64 (7), .int .i64 (epoch), .int .i64 0, .int .i64 0, .int .i64 0, .int .i64 0, .int .i64 0, .int .i64 0, .int .i64 0, .int .i64 0, .int .i64 0, .int .i64 0, .int .i64 0, .int .i64 0, .int .i64 0, .int .i64 (id), .int .i64 (seq), .slice A5 n c5', .int .i64 0, .int .i64 0, .int .i64 0]).cell? ⟨g, 2, none⟩ = some (.int .i64 epoch) := (cell_setRow_other w5 R _ _ (by show g ≠ R; omega)).trans e2
    have y6 : (w5.setRow R #[.int .i64 (7), .int .i64 (epoch), .int .i64 0, .int .i64 0, .int .i64 0, .int .i64 0, .int .i64 0, .int .i64 0, .int .i64 0, .int .i64 0, .int .i64 0, .int .i64 0, .int .i64 0, .int .i64 0, .int .i64 0, .int .i64 (id), .int .i64 (seq), .slice A5 n c5', .int .i64 0, .int .i64 0, .int .i64 0]).cell? ⟨g, 6, none⟩ = some (.slice A n c) := (cell_setRow_other w5 R _ _ (by show g ≠ R; omega)).trans e6
    refine hK.out _ _ ?_ (fun hHeld => ?_)
    · try dsimp only
      (refine ⟨?_, ?_, ?_, ?_⟩ <;> (first | with_reducible assumption))
    clear hK K
    try simp only [Act.put]
    refine wpAnyH_take (i := 19) (v := ?_) (by (simp only [List.getElem?_toArray, List.getElem?_cons_succ, List.getElem?_cons_zero]; rfl)) (by kernel_rfl) (by kernel_rfl) (by kernel_rfl) (fun _ _ _ h => h) (Or.inl ⟨by rfl, ?_⟩) (by assumption) ?_
    rotate_left
    · (intro w hSw; (try dsimp only at hSw); go_simp; try with_reducible rfl)
    try simp only [Act.put, List.setIfInBounds_toArray, List.set_cons_zero, List.set_cons_succ]
    refine wpAnyH_done (by kernel_rfl) ?_ _
    refine NoPanic.normal ?_
    clear hHeld d0 d1 d2 d6 e0 e1 e2 e6 y0 y1 y2 y6
    have hret : (w5.setRow R #[.int .i64 (7), .int .i64 (epoch), .int .i64 0, .int .i64 0, .int .i64 0, .int .i64 0, .int .i64 0, .int .i64 0, .int .i64 0, .int .i64 0, .int .i64 0, .int .i64 0, .int .i64 0, .int .i64 0, .int .i64 0, .int .i64 (id), .int .i64 (seq), .slice A5 n c5', .int .i64 0, .int .i64 0, .int .i64 0]).heap[R]? = some (.cells #[.int .i64 (7), .int .i64 (epoch), .int .i64 0, .int .i64 0, .int .i64 0, .int .i64 0, .int .i64 0, .int .i64 0, .int .i64 0, .int .i64 0, .int .i64 0, .int .i64 0, .int .i64 0, .int .i64 0, .int .i64 0, .int .i64 (id), .int .i64 (seq), .slice A5 n c5', .int .i64 0, .int .i64 0, .int .i64 0] 36 (0, 0)) := setRow_heap w5 R _ _ _ _ HR5.out
    have HRET := Lib.hid hret
    have hc6 : Chg (fun k => k = R) w5 (w5.setRow R #[.int .i64 (7), .int .i64 (epoch), .int .i64 0, .int .i64 0, .int .i64 0, .int .i64 0, .int .i64 0, .int .i64 0, .int .i64 0, .int .i64 0, .int .i64 0, .int .i64 0, .int .i64 0, .int .i64 0, .int .i64 0, .int .i64 (id), .int .i64 (seq), .slice A5 n c5', .int .i64 0, .int .i64 0, .int .i64 0]) := (Chg.refl (fun k => k = R) w5).setRow (.inr rfl) _
    have HCA := Lib.hid ((HC.out.below HB5.out).off HR5.out (by decide) (by omega) hc6)
    have HOW := Lib.hid (own_off (own_low (base' := w.heap.size) HO5.out (by show w.heap.size ≤ W.heap.size; exact HCH.out.size)) HR5.out (by decide) hc6)
    have HCF := Lib.hid ((HCH.out.trans (Chg.of_below (S := fun k => k = g) HB5.out)).setRow (.inl (by rw [HRW.out]; exact Nat.le_refl _)) #[.int .i64 (7), .int .i64 (epoch), .int .i64 0, .int .i64 0, .int .i64 0, .int .i64 0, .int .i64 0, .int .i64 0, .int .i64 0, .int .i64 0, .int .i64 0, .int .i64 0, .int .i64 0, .int .i64 0, .int .i64 0, .int .i64 (id), .int .i64 (seq), .slice A5 n c5', .int .i64 0, .int .i64 0, .int .i64 0])
    clear hret hc6 HC HO5 HR5 HB5 HR HG HCH
    go_wp2_with fail
    refine bodyPost_ret (v := .tuple #[.agg #[.int .i64 (7), .int .i64 (epoch), .int .i64 0, .int .i64 0, .int .i64 0, .int .i64 0, .int .i64 0, .int .i64 0, .int .i64 0, .int .i64 0, .int .i64 0, .int .i64 0, .int .i64 0, .int .i64 0, .int .i64 0, .int .i64 (id), .int .i64 (seq), .slice A5 n c5', .int .i64 0, .int .i64 0, .int .i64 0], .bool true]) (results_msg _ _ R _ rfl HRET.out rfl) rfl ?_
    exact ⟨A5, c5', by rw [← HN.out], HCA.out, by rw [← HN.out]; exact HOW.out, HCF.out⟩
end Go.Proofs.Ytlcbpodjmafoeaa
