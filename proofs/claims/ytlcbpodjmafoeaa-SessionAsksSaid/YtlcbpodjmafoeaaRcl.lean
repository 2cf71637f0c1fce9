/- The document's client, by values. -/
import Derived.Test.YtlcbpodjmafoeaaChT
import Derived.Test.YtlcbpodjmafoeaaHear
import Derived.Test.YtlcbpodjmafoeaaMayOk
import Derived.Test.YtlcbpodjmafoeaaAwk19
import Derived.Test.YtlcbpodjmafoeaaSame19
import Derived.Test.YtlcbpodjmafoeaaActs19
import Derived.Deep.CutRange
import Derived.BigQuiet
namespace Go.Proofs.Ytlcbpodjmafoeaa
open Go.RowKit

abbrev clv (s : Ct) : Array Value := #[.int .i64 s.id, .int .i64 s.seq, .int .i64 s.epoch, .bool s.asks, .string (str s.body), .bool s.sent, .int .i64 s.at_]
theorem clv_eq (s : Ct) : clv s = #[.int .i64 s.id, .int .i64 s.seq, .int .i64 s.epoch, .bool s.asks, .string (str s.body), .bool s.sent, .int .i64 s.at_] := rfl
theorem results_ct {fn : Func} {p u : Tmp} {T : TypeId} {fs : _} (hf : fn.results = #[.cell p T, .tmp u]) (hu : Try.prog.underlying T = some (.struct fs)) (tmps : Array Value) (w : World) (g : Nat) (cs : Array Value) (hp : tmps.getD p undef = .pointer (some ⟨g, 0, none⟩)) (hg : w.heap[g]? = some (.cells cs T (0, 0))) (hi : (Try.prog.info? T).map (·.size) = some cs.size) :
    (results fn tmps).run Try.prog w = .ok (.tuple #[.agg cs, tmps.getD u undef]) w := by
  have h := run_loadVar_row (P := Try.prog) w g T T cs (0, 0) _ hg hu rfl hi
  have hp' : tmps[p]?.getD undef = .pointer (some ⟨g, 0, none⟩) := by simpa using hp
  simp [results, hf, hp', asAddr, h]
theorem results_cc {fn : Func} {p q u : Tmp} {T T2 : TypeId} {fs fs2 : _} (hf : fn.results = #[.cell p T, .cell q T2, .tmp u]) (hu : Try.prog.underlying T = some (.struct fs)) (hu2 : Try.prog.underlying T2 = some (.struct fs2)) (tmps : Array Value) (w : World) (g g2 : Nat) (cs cs2 : Array Value) (hp : tmps.getD p undef = .pointer (some ⟨g, 0, none⟩)) (hp2 : tmps.getD q undef = .pointer (some ⟨g2, 0, none⟩)) (hg : w.heap[g]? = some (.cells cs T (0, 0))) (hg2 : w.heap[g2]? = some (.cells cs2 T2 (0, 0))) (hi : (Try.prog.info? T).map (·.size) = some cs.size) (hi2 : (Try.prog.info? T2).map (·.size) = some cs2.size) :
    (results fn tmps).run Try.prog w = .ok (.tuple #[.agg cs, .agg cs2, tmps.getD u undef]) w := by
  have h := run_loadVar_row (P := Try.prog) w g T T cs (0, 0) _ hg hu rfl hi
  have h2 := run_loadVar_row (P := Try.prog) w g2 T2 T2 cs2 (0, 0) _ hg2 hu2 rfl hi2
  have hp' : tmps[p]?.getD undef = .pointer (some ⟨g, 0, none⟩) := by simpa using hp
  have hp2' : tmps[q]?.getD undef = .pointer (some ⟨g2, 0, none⟩) := by simpa using hp2
  simp [results, hf, hp', hp2', asAddr, h, h2]
set_option maxRecDepth 100000 in
set_option maxHeartbeats 8000000 in
theorem rask_any (s : Ct) (A : Option Addr) (n c : Nat) (b : List UInt8) (w : World) (hb : BytesIn w w.heap.size A c b) (hn : n = b.length) (hs0 : 0 ≤ s.seq) :
    Calls Try.prog 18 #[.agg #[.int .i64 s.id, .int .i64 s.seq, .int .i64 s.epoch, .bool s.asks, .string (str s.body), .bool s.sent, .int .i64 s.at_], .slice A n c] w fun e w' => e = .returned (.tuple #[.agg #[.int .i64 ((askD s b).id), .int .i64 ((askD s b).seq), .int .i64 ((askD s b).epoch), .bool ((askD s b).asks), .string (str (askD s b).body), .bool ((askD s b).sent), .int .i64 ((askD s b).at_)], .int .i64 (askE s b.length)]) ∧ Below w.heap.size w w' := by
  obtain ⟨w0, rfl⟩ : ∃ y, y = w := ⟨_, rfl⟩
  have HBY := Lib.hid hb
  have HN := Lib.hid hn
  clear hb
  have HB_0 : Hid (Below w0.heap.size w0 w0) := Lib.hid (Below.refl _ _)
  obtain ⟨id, seq, epoch, asks, sent, at_, body⟩ := s
  simp only at hs0 ⊢
  clear hn
  go_enter Try.func18, Try.ntmps18
  obtain ⟨P2, hP2⟩ : ∃ x, x = w0.heap.size := ⟨_, rfl⟩
  have loP2 : w0.heap.size ≤ P2 := (by have := HB_0.out.size; omega)
  obtain ⟨w1, hw1⟩ : ∃ y, y = w0.alloc (.cells #[.int .i64 id, .int .i64 seq, .int .i64 epoch, .bool asks, .string (str body), .bool sent, .int .i64 at_] 61) := ⟨_, rfl⟩
  have hal : Below w0.heap.size w0 w1 := by rw [hw1]; exact (Below.refl _ _).alloc (Nat.le_refl _) _
  have hnew : w1.heap[P2]? = some (.cells #[.int .i64 id, .int .i64 seq, .int .i64 epoch, .bool asks, .string (str body), .bool sent, .int .i64 at_] 61 (0, 0)) := by rw [hw1, hP2]; exact heap_alloc_new _ _
  have HB_1 : Hid (Below w0.heap.size w0 w1) := Lib.hid (HB_0.out.trans (hal.mono HB_0.out.size))
  clear hal HB_0
  have HP2_1 := Lib.hid hnew
  clear hnew
  obtain ⟨w2, hw2⟩ : ∃ y, y = w1.alloc (.cells #[.int .i64 0, .int .i64 0, .int .i64 0, .bool false, .string { data := #[] }, .bool false, .int .i64 0] 61) := ⟨_, rfl⟩
  have hal : Below w1.heap.size w1 w2 := by rw [hw2]; exact (Below.refl _ _).alloc (Nat.le_refl _) _
  have hnew : w2.heap[(P2 + 1)]? = some (.cells #[.int .i64 0, .int .i64 0, .int .i64 0, .bool false, .string { data := #[] }, .bool false, .int .i64 0] 61 (0, 0)) := by rw [hw2]; exact alloc_at _ _ _ (by simp [hw1, hP2])
  have HB_2 : Hid (Below w0.heap.size w0 w2) := Lib.hid (HB_1.out.trans (hal.mono HB_1.out.size))
  have HP2_2 : Hid (w2.heap[P2]? = some (.cells #[.int .i64 id, .int .i64 seq, .int .i64 epoch, .bool asks, .string (str body), .bool sent, .int .i64 at_] 61 (0, 0))) := Lib.hid ((hal.block P2 (ltb HP2_1.out)).trans HP2_1.out)
  clear hal HB_1 HP2_1
  have HP4_2 := Lib.hid hnew
  clear hnew
  go_upto_region 1 with fail
  rw [← hw1]
  clear hw1
  rw [← hw2]
  clear hw2
  rw [← hP2]
  clear hP2
  cases asks
  · skip
    have cc3 : w2.cell? ⟨P2, 3, none⟩ = some (.bool false) := cellb (i := 3) HP2_2.out rfl
    go_upto_region 3 with fail
    clear cc3
    have h3 : (4096 : Int) < (n : Int) ∨ (¬ (4096 : Int) < (n : Int) ∧ 1099511627776 ≤ seq) ∨ (¬ (4096 : Int) < (n : Int) ∧ ¬ 1099511627776 ≤ seq) := by omega
    rcases h3 with h1 | ⟨h1, h2⟩ | ⟨h1, h2⟩
    · skip
      have HQ : Hid (4096 < n ∨ 1099511627776 ≤ seq) := Lib.hid (.inl (by omega))
      have HST := HP4_2
      have cc4 : w2.cell? ⟨P2, 1, none⟩ = some (.int .i64 seq) := cellb (i := 1) HP2_2.out rfl
      have K5 := HP2_2
      obtain ⟨w3, hw6⟩ : ∃ y, y = w2.setRow (P2 + 1) #[.int .i64 id, .int .i64 seq, .int .i64 epoch, .bool false, .string (str body), .bool sent, .int .i64 at_] := ⟨_, rfl⟩
      have hch := Ch.ofRow HP4_2.out #[.int .i64 id, .int .i64 seq, .int .i64 epoch, .bool false, .string (str body), .bool sent, .int .i64 at_]
      rw [← hw6] at hch
      have hnew : w3.heap[(P2 + 1)]? = some (.cells #[.int .i64 id, .int .i64 seq, .int .i64 epoch, .bool false, .string (str body), .bool sent, .int .i64 at_] 61 (0, 0)) := by rw [hw6]; exact setRow_heap _ _ _ _ _ _ HP4_2.out
      have HB_3 : Hid (Below w0.heap.size w0 w3) := Lib.hid (hch.below HB_2.out HB_2.out.size (fun k hk => by injection hk with hk; omega))
      have HP2_3 : Hid (w3.heap[P2]? = some (.cells #[.int .i64 id, .int .i64 seq, .int .i64 epoch, .bool false, .string (str body), .bool sent, .int .i64 at_] 61 (0, 0))) := Lib.hid (hch.blkN HP2_2.out (by intro e; injection e with e; omega))
      clear hch HB_2 HP2_2
      have HP4_3 := Lib.hid hnew
      clear hnew HP4_2
      go_wp2_with (first | (refine wpList_load_row rfl 61 (.tmp 2) rfl P2 rfl 61 _ (0, 0) _ K5.out Try.underlying61 rfl (by kernel_rfl) ?_) | (refine wpList_store_row rfl 61 (.tmp 4) (.tmp 17) rfl (P2 + 1) _ rfl rfl 61 _ HST.out (by kernel_rfl) rfl (by simp [Value.oneCell']) ?_))
      clear cc4 K5 HST
      rw [← hw6]
      clear hw6
      go_wp2_with fail
      have e1 : askE (⟨id, seq, epoch, false, sent, at_, body⟩ : Ct) b.length = 2 := by unfold askE; simp [HQ.out, ← HN.out]
      have e2 : askD (⟨id, seq, epoch, false, sent, at_, body⟩ : Ct) b = (⟨id, seq, epoch, false, sent, at_, body⟩ : Ct) := by unfold askD; rw [e1]; simp
      rw [e1, e2]
      refine bodyPost_ret (v := .tuple #[.agg #[.int .i64 id, .int .i64 seq, .int .i64 epoch, .bool false, .string (str body), .bool sent, .int .i64 at_], .int .i64 2]) (results_ct Try.results18 Try.underlying61 _ _ (P2 + 1) _ rfl HP4_3.out (by kernel_rfl)) rfl ?_
      exact ⟨rfl, HB_3.out⟩
    · skip
      have HQ : Hid (4096 < n ∨ 1099511627776 ≤ seq) := Lib.hid (.inr h2)
      have HST := HP4_2
      have cc7 : w2.cell? ⟨P2, 1, none⟩ = some (.int .i64 seq) := cellb (i := 1) HP2_2.out rfl
      have K8 := HP2_2
      obtain ⟨w3, hw9⟩ : ∃ y, y = w2.setRow (P2 + 1) #[.int .i64 id, .int .i64 seq, .int .i64 epoch, .bool false, .string (str body), .bool sent, .int .i64 at_] := ⟨_, rfl⟩
      have hch := Ch.ofRow HP4_2.out #[.int .i64 id, .int .i64 seq, .int .i64 epoch, .bool false, .string (str body), .bool sent, .int .i64 at_]
      rw [← hw9] at hch
      have hnew : w3.heap[(P2 + 1)]? = some (.cells #[.int .i64 id, .int .i64 seq, .int .i64 epoch, .bool false, .string (str body), .bool sent, .int .i64 at_] 61 (0, 0)) := by rw [hw9]; exact setRow_heap _ _ _ _ _ _ HP4_2.out
      have HB_3 : Hid (Below w0.heap.size w0 w3) := Lib.hid (hch.below HB_2.out HB_2.out.size (fun k hk => by injection hk with hk; omega))
      have HP2_3 : Hid (w3.heap[P2]? = some (.cells #[.int .i64 id, .int .i64 seq, .int .i64 epoch, .bool false, .string (str body), .bool sent, .int .i64 at_] 61 (0, 0))) := Lib.hid (hch.blkN HP2_2.out (by intro e; injection e with e; omega))
      clear hch HB_2 HP2_2
      have HP4_3 := Lib.hid hnew
      clear hnew HP4_2
      go_wp2_with (first | (refine wpList_load_row rfl 61 (.tmp 2) rfl P2 rfl 61 _ (0, 0) _ K8.out Try.underlying61 rfl (by kernel_rfl) ?_) | (refine wpList_store_row rfl 61 (.tmp 4) (.tmp 17) rfl (P2 + 1) _ rfl rfl 61 _ HST.out (by kernel_rfl) rfl (by simp [Value.oneCell']) ?_))
      clear cc7 K8 HST
      rw [← hw9]
      clear hw9
      go_wp2_with fail
      have e1 : askE (⟨id, seq, epoch, false, sent, at_, body⟩ : Ct) b.length = 2 := by unfold askE; simp [HQ.out, ← HN.out]
      have e2 : askD (⟨id, seq, epoch, false, sent, at_, body⟩ : Ct) b = (⟨id, seq, epoch, false, sent, at_, body⟩ : Ct) := by unfold askD; rw [e1]; simp
      rw [e1, e2]
      refine bodyPost_ret (v := .tuple #[.agg #[.int .i64 id, .int .i64 seq, .int .i64 epoch, .bool false, .string (str body), .bool sent, .int .i64 at_], .int .i64 2]) (results_ct Try.results18 Try.underlying61 _ _ (P2 + 1) _ rfl HP4_3.out (by kernel_rfl)) rfl ?_
      exact ⟨rfl, HB_3.out⟩
    · skip
      have HQ : Hid (¬ (4096 < n ∨ 1099511627776 ≤ seq)) := Lib.hid (by omega)
      have qs : IntKind.i64.wrap (seq + 1) = seq + 1 := IntWalk.i64_in _ (by omega)
      have cc10 : w2.cell? ⟨P2, 1, none⟩ = some (.int .i64 seq) := cellb (i := 1) HP2_2.out rfl
      have cc11 : w2.cell? ⟨P2, 3, none⟩ = some (.bool false) := cellb (i := 3) HP2_2.out rfl
      have fz12 : w2.frozen? ⟨P2, 3, none⟩ = false := fzb HP2_2.out 3
      obtain ⟨w3, hw13⟩ : ∃ y, y = w2.setCell ⟨P2, 3, none⟩ (.bool true) := ⟨_, rfl⟩
      have hch := Ch.ofCell (i := 3) HP2_2.out (.bool true)
      rw [← hw13] at hch
      have hnew : w3.heap[P2]? = some (.cells #[.int .i64 id, .int .i64 seq, .int .i64 epoch, .bool true, .string (str body), .bool sent, .int .i64 at_] 61 (0, 0)) := by rw [hw13]; exact set_blk HP2_2.out _
      have HB_3 : Hid (Below w0.heap.size w0 w3) := Lib.hid (hch.below HB_2.out HB_2.out.size (fun k hk => by injection hk with hk; omega))
      have HP4_3 : Hid (w3.heap[(P2 + 1)]? = some (.cells #[.int .i64 0, .int .i64 0, .int .i64 0, .bool false, .string { data := #[] }, .bool false, .int .i64 0] 61 (0, 0))) := Lib.hid (hch.blkN HP4_2.out (by intro e; injection e with e; omega))
      clear hch HB_2 HP4_2
      have HP2_3 := Lib.hid hnew
      clear hnew HP2_2
      go_upto_region 6 with fail
      clear cc10 cc11 fz12
      rw [← hw13]
      clear hw13
      have cc14 : w3.cell? ⟨P2, 1, none⟩ = some (.int .i64 seq) := cellb (i := 1) HP2_3.out rfl
      have cc15 : w3.cell? ⟨P2, 1, none⟩ = some (.int .i64 seq) := cellb (i := 1) HP2_3.out rfl
      have fz16 : w3.frozen? ⟨P2, 1, none⟩ = false := fzb HP2_3.out 1
      obtain ⟨w4, hw17⟩ : ∃ y, y = w3.setCell ⟨P2, 1, none⟩ (.int .i64 ((seq + 1))) := ⟨_, rfl⟩
      have hch := Ch.ofCell (i := 1) HP2_3.out (.int .i64 ((seq + 1)))
      rw [← hw17] at hch
      have hnew : w4.heap[P2]? = some (.cells #[.int .i64 id, .int .i64 ((seq + 1)), .int .i64 epoch, .bool true, .string (str body), .bool sent, .int .i64 at_] 61 (0, 0)) := by rw [hw17]; exact set_blk HP2_3.out _
      have HB_4 : Hid (Below w0.heap.size w0 w4) := Lib.hid (hch.below HB_3.out HB_3.out.size (fun k hk => by injection hk with hk; omega))
      have HP4_4 : Hid (w4.heap[(P2 + 1)]? = some (.cells #[.int .i64 0, .int .i64 0, .int .i64 0, .bool false, .string { data := #[] }, .bool false, .int .i64 0] 61 (0, 0))) := Lib.hid (hch.blkN HP4_3.out (by intro e; injection e with e; omega))
      clear hch HB_3 HP4_3
      have HP2_4 := Lib.hid hnew
      clear hnew HP2_3
      go_upto_region 7 with fail
      clear cc14 cc15 fz16
      rw [← hw17]
      clear hw17
      have kz := zc (HBY.out.below' HB_4.out (Nat.le_refl _)) HN.out
      have cc18 : w4.cell? ⟨P2, 4, none⟩ = some (.string (str body)) := cellb (i := 4) HP2_4.out rfl
      have fz19 : w4.frozen? ⟨P2, 4, none⟩ = false := fzb HP2_4.out 4
      obtain ⟨w5, hw20⟩ : ∃ y, y = w4.setCell ⟨P2, 4, none⟩ (.string (str b)) := ⟨_, rfl⟩
      have hch := Ch.ofCell (i := 4) HP2_4.out (.string (str b))
      rw [← hw20] at hch
      have hnew : w5.heap[P2]? = some (.cells #[.int .i64 id, .int .i64 ((seq + 1)), .int .i64 epoch, .bool true, .string (str b), .bool sent, .int .i64 at_] 61 (0, 0)) := by rw [hw20]; exact set_blk HP2_4.out _
      have HB_5 : Hid (Below w0.heap.size w0 w5) := Lib.hid (hch.below HB_4.out HB_4.out.size (fun k hk => by injection hk with hk; omega))
      have HP4_5 : Hid (w5.heap[(P2 + 1)]? = some (.cells #[.int .i64 0, .int .i64 0, .int .i64 0, .bool false, .string { data := #[] }, .bool false, .int .i64 0] 61 (0, 0))) := Lib.hid (hch.blkN HP4_4.out (by intro e; injection e with e; omega))
      clear hch HB_4 HP4_4
      have HP2_5 := Lib.hid hnew
      clear hnew HP2_4
      go_upto_region 8 with fail
      clear cc18 fz19
      rw [← hw20]
      clear hw20
      have cc21 : w5.cell? ⟨P2, 5, none⟩ = some (.bool sent) := cellb (i := 5) HP2_5.out rfl
      have fz22 : w5.frozen? ⟨P2, 5, none⟩ = false := fzb HP2_5.out 5
      obtain ⟨w6, hw23⟩ : ∃ y, y = w5.setCell ⟨P2, 5, none⟩ (.bool false) := ⟨_, rfl⟩
      have hch := Ch.ofCell (i := 5) HP2_5.out (.bool false)
      rw [← hw23] at hch
      have hnew : w6.heap[P2]? = some (.cells #[.int .i64 id, .int .i64 ((seq + 1)), .int .i64 epoch, .bool true, .string (str b), .bool false, .int .i64 at_] 61 (0, 0)) := by rw [hw23]; exact set_blk HP2_5.out _
      have HB_6 : Hid (Below w0.heap.size w0 w6) := Lib.hid (hch.below HB_5.out HB_5.out.size (fun k hk => by injection hk with hk; omega))
      have HP4_6 : Hid (w6.heap[(P2 + 1)]? = some (.cells #[.int .i64 0, .int .i64 0, .int .i64 0, .bool false, .string { data := #[] }, .bool false, .int .i64 0] 61 (0, 0))) := Lib.hid (hch.blkN HP4_5.out (by intro e; injection e with e; omega))
      clear hch HB_5 HP4_5
      have HP2_6 := Lib.hid hnew
      clear hnew HP2_5
      go_upto_region 9 with fail
      clear cc21 fz22
      rw [← hw23]
      clear hw23
      have HST := HP4_6
      have K24 := HP2_6
      obtain ⟨w7, hw25⟩ : ∃ y, y = w6.setRow (P2 + 1) #[.int .i64 id, .int .i64 ((seq + 1)), .int .i64 epoch, .bool true, .string (str b), .bool false, .int .i64 at_] := ⟨_, rfl⟩
      have hch := Ch.ofRow HP4_6.out #[.int .i64 id, .int .i64 ((seq + 1)), .int .i64 epoch, .bool true, .string (str b), .bool false, .int .i64 at_]
      rw [← hw25] at hch
      have hnew : w7.heap[(P2 + 1)]? = some (.cells #[.int .i64 id, .int .i64 ((seq + 1)), .int .i64 epoch, .bool true, .string (str b), .bool false, .int .i64 at_] 61 (0, 0)) := by rw [hw25]; exact setRow_heap _ _ _ _ _ _ HP4_6.out
      have HB_7 : Hid (Below w0.heap.size w0 w7) := Lib.hid (hch.below HB_6.out HB_6.out.size (fun k hk => by injection hk with hk; omega))
      have HP2_7 : Hid (w7.heap[P2]? = some (.cells #[.int .i64 id, .int .i64 ((seq + 1)), .int .i64 epoch, .bool true, .string (str b), .bool false, .int .i64 at_] 61 (0, 0))) := Lib.hid (hch.blkN HP2_6.out (by intro e; injection e with e; omega))
      clear hch HB_6 HP2_6
      have HP4_7 := Lib.hid hnew
      clear hnew HP4_6
      go_wp2_with (first | (refine wpList_load_row rfl 61 (.tmp 2) rfl P2 rfl 61 _ (0, 0) _ K24.out Try.underlying61 rfl (by kernel_rfl) ?_) | (refine wpList_store_row rfl 61 (.tmp 4) (.tmp 27) rfl (P2 + 1) _ rfl rfl 61 _ HST.out (by kernel_rfl) rfl (by simp [Value.oneCell']) ?_))
      clear K24 HST
      rw [← hw25]
      clear hw25
      go_wp2_with fail
      have e1 : askE (⟨id, seq, epoch, false, sent, at_, body⟩ : Ct) b.length = 0 := by unfold askE; simp only [Bool.false_eq_true, if_false]; rw [← HN.out, if_neg HQ.out]
      have e2 : askD (⟨id, seq, epoch, false, sent, at_, body⟩ : Ct) b = ⟨id, seq + 1, epoch, true, false, at_, b⟩ := by unfold askD; rw [e1]; rfl
      rw [e1, e2]
      refine bodyPost_ret (v := .tuple #[.agg #[.int .i64 id, .int .i64 ((seq + 1)), .int .i64 epoch, .bool true, .string (str b), .bool false, .int .i64 at_], .int .i64 0]) (results_ct Try.results18 Try.underlying61 _ _ (P2 + 1) _ rfl HP4_7.out (by kernel_rfl)) rfl ?_
      exact ⟨rfl, HB_7.out⟩
  · skip
    have HST := HP4_2
    have cc26 : w2.cell? ⟨P2, 3, none⟩ = some (.bool true) := cellb (i := 3) HP2_2.out rfl
    have K27 := HP2_2
    obtain ⟨w3, hw28⟩ : ∃ y, y = w2.setRow (P2 + 1) #[.int .i64 id, .int .i64 seq, .int .i64 epoch, .bool true, .string (str body), .bool sent, .int .i64 at_] := ⟨_, rfl⟩
    have hch := Ch.ofRow HP4_2.out #[.int .i64 id, .int .i64 seq, .int .i64 epoch, .bool true, .string (str body), .bool sent, .int .i64 at_]
    rw [← hw28] at hch
    have hnew : w3.heap[(P2 + 1)]? = some (.cells #[.int .i64 id, .int .i64 seq, .int .i64 epoch, .bool true, .string (str body), .bool sent, .int .i64 at_] 61 (0, 0)) := by rw [hw28]; exact setRow_heap _ _ _ _ _ _ HP4_2.out
    have HB_3 : Hid (Below w0.heap.size w0 w3) := Lib.hid (hch.below HB_2.out HB_2.out.size (fun k hk => by injection hk with hk; omega))
    have HP2_3 : Hid (w3.heap[P2]? = some (.cells #[.int .i64 id, .int .i64 seq, .int .i64 epoch, .bool true, .string (str body), .bool sent, .int .i64 at_] 61 (0, 0))) := Lib.hid (hch.blkN HP2_2.out (by intro e; injection e with e; omega))
    clear hch HB_2 HP2_2
    have HP4_3 := Lib.hid hnew
    clear hnew HP4_2
    go_wp2_with (first | (refine wpList_load_row rfl 61 (.tmp 2) rfl P2 rfl 61 _ (0, 0) _ K27.out Try.underlying61 rfl (by kernel_rfl) ?_) | (refine wpList_store_row rfl 61 (.tmp 4) (.tmp 8) rfl (P2 + 1) _ rfl rfl 61 _ HST.out (by kernel_rfl) rfl (by simp [Value.oneCell']) ?_))
    clear cc26 K27 HST
    rw [← hw28]
    clear hw28
    go_wp2_with fail
    have e1 : askE (⟨id, seq, epoch, true, sent, at_, body⟩ : Ct) b.length = 100 := by unfold askE; simp
    have e2 : askD (⟨id, seq, epoch, true, sent, at_, body⟩ : Ct) b = (⟨id, seq, epoch, true, sent, at_, body⟩ : Ct) := by unfold askD; rw [e1]; simp
    rw [e1, e2]
    refine bodyPost_ret (v := .tuple #[.agg #[.int .i64 id, .int .i64 seq, .int .i64 epoch, .bool true, .string (str body), .bool sent, .int .i64 at_], .int .i64 100]) (results_ct Try.results18 Try.underlying61 _ _ (P2 + 1) _ rfl HP4_3.out (by kernel_rfl)) rfl ?_
    exact ⟨rfl, HB_3.out⟩
theorem mid_of {w : World} {b : Nat} {t : TypeId} {fr : Nat × Nat} {C : Array Value} (pre l post : List Value) (hb : w.heap[b]? = some (.cells C t fr)) (hC : C = (pre ++ (l ++ post)).toArray) : w.rangeAt b pre.length l := fun j v hj => by
  subst hC
  refine cellb hb ?_
  have hlt := (List.getElem?_eq_some_iff.1 hj).1
  rw [List.getElem?_toArray, List.getElem?_append_right (by omega), show pre.length + j - pre.length = j by omega, List.getElem?_append_left hlt]
  exact hj
theorem conv_x (l : List UInt8) (w : World) (hl : l.length ≤ 1048576) : ∃ c cs f, (convert 9 31 (.string (str l))).run Try.prog w = .ok (.slice (some ⟨w.heap.size, 0, none⟩) l.length c) (w.drew.alloc (.cells cs 5 f)) ∧ ∀ (W : World) (b : Nat), W.heap[b]? = some (.cells cs 5 f) → BytesIn W W.heap.size (some ⟨b, 0, none⟩) c l := by
  have h := run_bytes_of_string (P := Try.prog) w 9 31 5 (str l) Try.underlying9 Try.underlying31 Try.underlying5
  rw [str_size] at h
  refine ⟨_, _, _, h, fun W b hb => ⟨grownCap_ge w l.length 0 5, grownCap_le_maxLen w l.length 0 5 (by simp only [maxLen]; omega), .inr ⟨b, 0, rfl, (Array.getElem?_eq_some_iff.1 hb).1, fun i hi => ?_⟩⟩⟩
  simp only [World.cell?, hb]
  simp only [bytesRow, str, List.map_toArray, Nat.zero_add]
  rw [Array.getElem?_append_left (by simpa using hi)]
  simp [hi]
/-- What the document's client sends. -/
def RSendPost (s : Ct) (now : Int) (w : World) (e : Ending) (w' : World) : Prop :=
  (SendNo s now → e = .returned (.tuple #[.agg #[.int .i64 s.id, .int .i64 s.seq, .int .i64 s.epoch, .bool s.asks, .string (str s.body), .bool s.sent, .int .i64 s.at_], .agg #[.int .i64 0, .int .i64 0, .int .i64 0, .int .i64 0, .int .i64 0, .int .i64 0, .int .i64 0, .int .i64 0, .int .i64 0, .int .i64 0, .int .i64 0, .int .i64 0, .int .i64 0, .int .i64 0, .int .i64 0, .int .i64 0, .int .i64 0, .slice none 0 0, .int .i64 0, .int .i64 0, .int .i64 0], .bool false])) ∧
  (¬ SendNo s now → ∃ (b c' : Nat) (cs : Array Value) (f : Nat × Nat), e = .returned (.tuple #[.agg #[.int .i64 s.id, .int .i64 s.seq, .int .i64 s.epoch, .bool s.asks, .string (str s.body), .bool true, .int .i64 now], .agg #[.int .i64 7, .int .i64 s.epoch, .int .i64 0, .int .i64 0, .int .i64 0, .int .i64 0, .int .i64 0, .int .i64 0, .int .i64 0, .int .i64 0, .int .i64 0, .int .i64 0, .int .i64 0, .int .i64 0, .int .i64 0, .int .i64 s.id, .int .i64 s.seq, .slice ((some ⟨b, 0, none⟩)) s.body.length c', .int .i64 0, .int .i64 0, .int .i64 0], .bool true]) ∧ w'.heap[b]? = some (.cells cs 5 f) ∧ ∀ W : World, W.heap[b]? = some (.cells cs 5 f) → BytesIn W W.heap.size (some ⟨b, 0, none⟩) c' s.body) ∧ Below w.heap.size w w'
set_option maxRecDepth 100000 in
set_option maxHeartbeats 8000000 in
theorem rsend_any (s : Ct) (now : Int) (w : World) (hbl : s.body.length ≤ 5000) : Calls Try.prog 20 #[.agg #[.int .i64 s.id, .int .i64 s.seq, .int .i64 s.epoch, .bool s.asks, .string (str s.body), .bool s.sent, .int .i64 s.at_], .int .i64 now] w fun e w' => RSendPost s now w e w' := by
  obtain ⟨w0, rfl⟩ : ∃ y, y = w := ⟨_, rfl⟩
  obtain ⟨id, seq, epoch, asks, sent, at_, body⟩ := s
  simp only at hbl
  have HB_0 : Hid (Below w0.heap.size w0 w0) := Lib.hid (Below.refl _ _)
  go_enter Try.func20, Try.ntmps20
  obtain ⟨P2, hP2⟩ : ∃ x, x = w0.heap.size := ⟨_, rfl⟩
  have loP2 : w0.heap.size ≤ P2 := (by have := HB_0.out.size; omega)
  obtain ⟨w1, hw1⟩ : ∃ y, y = w0.alloc (.cells #[.int .i64 id, .int .i64 seq, .int .i64 epoch, .bool asks, .string (str body), .bool sent, .int .i64 at_] 61) := ⟨_, rfl⟩
  have hal : Below w0.heap.size w0 w1 := by rw [hw1]; exact (Below.refl _ _).alloc (Nat.le_refl _) _
  have hnew : w1.heap[P2]? = some (.cells #[.int .i64 id, .int .i64 seq, .int .i64 epoch, .bool asks, .string (str body), .bool sent, .int .i64 at_] 61 (0, 0)) := by rw [hw1, hP2]; exact heap_alloc_new _ _
  have HB_1 : Hid (Below w0.heap.size w0 w1) := Lib.hid (HB_0.out.trans (hal.mono HB_0.out.size))
  clear hal HB_0
  have HP2_1 := Lib.hid hnew
  clear hnew
  obtain ⟨w2, hw2⟩ : ∃ y, y = w1.alloc (.cells #[.int .i64 0, .int .i64 0, .int .i64 0, .bool false, .string { data := #[] }, .bool false, .int .i64 0] 61) := ⟨_, rfl⟩
  have hal : Below w1.heap.size w1 w2 := by rw [hw2]; exact (Below.refl _ _).alloc (Nat.le_refl _) _
  have hnew : w2.heap[(P2 + 1)]? = some (.cells #[.int .i64 0, .int .i64 0, .int .i64 0, .bool false, .string { data := #[] }, .bool false, .int .i64 0] 61 (0, 0)) := by rw [hw2]; exact alloc_at _ _ _ (by simp [hw1, hP2])
  have HB_2 : Hid (Below w0.heap.size w0 w2) := Lib.hid (HB_1.out.trans (hal.mono HB_1.out.size))
  have HP2_2 : Hid (w2.heap[P2]? = some (.cells #[.int .i64 id, .int .i64 seq, .int .i64 epoch, .bool asks, .string (str body), .bool sent, .int .i64 at_] 61 (0, 0))) := Lib.hid ((hal.block P2 (ltb HP2_1.out)).trans HP2_1.out)
  clear hal HB_1 HP2_1
  have HP4_2 := Lib.hid hnew
  clear hnew
  obtain ⟨w3, hw3⟩ : ∃ y, y = w2.alloc (.cells #[.int .i64 0, .int .i64 0, .int .i64 0, .int .i64 0, .int .i64 0, .int .i64 0, .int .i64 0, .int .i64 0, .int .i64 0, .int .i64 0, .int .i64 0, .int .i64 0, .int .i64 0, .int .i64 0, .int .i64 0, .int .i64 0, .int .i64 0, .slice none 0 0, .int .i64 0, .int .i64 0, .int .i64 0] 36) := ⟨_, rfl⟩
  have hal : Below w2.heap.size w2 w3 := by rw [hw3]; exact (Below.refl _ _).alloc (Nat.le_refl _) _
  have hnew : w3.heap[(P2 + 2)]? = some (.cells (mcv (fun _ => 0) (.slice none 0 0)) 36 (0, 0)) := by rw [hw3]; exact alloc_at _ _ _ (by simp [hw1, hw2, hP2])
  have HB_3 : Hid (Below w0.heap.size w0 w3) := Lib.hid (HB_2.out.trans (hal.mono HB_2.out.size))
  have HP2_3 : Hid (w3.heap[P2]? = some (.cells #[.int .i64 id, .int .i64 seq, .int .i64 epoch, .bool asks, .string (str body), .bool sent, .int .i64 at_] 61 (0, 0))) := Lib.hid ((hal.block P2 (ltb HP2_2.out)).trans HP2_2.out)
  have HP4_3 : Hid (w3.heap[(P2 + 1)]? = some (.cells #[.int .i64 0, .int .i64 0, .int .i64 0, .bool false, .string { data := #[] }, .bool false, .int .i64 0] 61 (0, 0))) := Lib.hid ((hal.block (P2 + 1) (ltb HP4_2.out)).trans HP4_2.out)
  clear hal HB_2 HP2_2 HP4_2
  have HP5_3 := Lib.hid hnew
  clear hnew
  go_upto_region 1 with fail
  rw [← hw1]
  clear hw1
  rw [← hw2]
  clear hw2
  rw [← hw3]
  clear hw3
  rw [← hP2]
  clear hP2
  cases asks
  · skip
    have HNO : Hid (SendNo ⟨id, seq, epoch, false, sent, at_, body⟩ now) := Lib.hid (.inl rfl)
    have HST := HP4_3
    have cc4 : w3.cell? ⟨P2, 3, none⟩ = some (.bool false) := cellb (i := 3) HP2_3.out rfl
    have K5 := HP2_3
    obtain ⟨w4, hw6⟩ : ∃ y, y = w3.setRow (P2 + 1) #[.int .i64 id, .int .i64 seq, .int .i64 epoch, .bool false, .string (str body), .bool sent, .int .i64 at_] := ⟨_, rfl⟩
    have hch := Ch.ofRow HP4_3.out #[.int .i64 id, .int .i64 seq, .int .i64 epoch, .bool false, .string (str body), .bool sent, .int .i64 at_]
    rw [← hw6] at hch
    have hnew : w4.heap[(P2 + 1)]? = some (.cells #[.int .i64 id, .int .i64 seq, .int .i64 epoch, .bool false, .string (str body), .bool sent, .int .i64 at_] 61 (0, 0)) := by rw [hw6]; exact setRow_heap _ _ _ _ _ _ HP4_3.out
    have HB_4 : Hid (Below w0.heap.size w0 w4) := Lib.hid (hch.below HB_3.out HB_3.out.size (fun k hk => by injection hk with hk; omega))
    have HP2_4 : Hid (w4.heap[P2]? = some (.cells #[.int .i64 id, .int .i64 seq, .int .i64 epoch, .bool false, .string (str body), .bool sent, .int .i64 at_] 61 (0, 0))) := Lib.hid (hch.blkN HP2_3.out (by intro e; injection e with e; omega))
    have HP5_4 : Hid (w4.heap[(P2 + 2)]? = some (.cells (mcv (fun _ => 0) (.slice none 0 0)) 36 (0, 0))) := Lib.hid (hch.blk HP5_3.out (by show (36 + 1 : Nat) ≠ _; decide))
    clear hch HB_3 HP2_3 HP5_3
    have HP4_4 := Lib.hid hnew
    clear hnew HP4_3
    have HST7 : Hid ((w3.setRow (P2 + 1) #[.int .i64 id, .int .i64 seq, .int .i64 epoch, .bool false, .string (str body), .bool sent, .int .i64 at_]).heap[(P2 + 2)]? = some (.cells (mcv (fun _ => 0) (.slice none 0 0)) 36 (0, 0))) := Lib.hid (by rw [← hw6]; exact HP5_4.out)
    obtain ⟨w5, hw8⟩ : ∃ y, y = w4.setRow (P2 + 2) #[.int .i64 0, .int .i64 0, .int .i64 0, .int .i64 0, .int .i64 0, .int .i64 0, .int .i64 0, .int .i64 0, .int .i64 0, .int .i64 0, .int .i64 0, .int .i64 0, .int .i64 0, .int .i64 0, .int .i64 0, .int .i64 0, .int .i64 0, .slice none 0 0, .int .i64 0, .int .i64 0, .int .i64 0] := ⟨_, rfl⟩
    have hch := Ch.ofRow HP5_4.out #[.int .i64 0, .int .i64 0, .int .i64 0, .int .i64 0, .int .i64 0, .int .i64 0, .int .i64 0, .int .i64 0, .int .i64 0, .int .i64 0, .int .i64 0, .int .i64 0, .int .i64 0, .int .i64 0, .int .i64 0, .int .i64 0, .int .i64 0, .slice none 0 0, .int .i64 0, .int .i64 0, .int .i64 0]
    rw [← hw8] at hch
    have hnew : w5.heap[(P2 + 2)]? = some (.cells (mcv (fun _ => 0) (.slice none 0 0)) 36 (0, 0)) := by rw [hw8]; exact setRow_heap _ _ _ _ _ _ HP5_4.out
    have HB_5 : Hid (Below w0.heap.size w0 w5) := Lib.hid (hch.below HB_4.out HB_4.out.size (fun k hk => by injection hk with hk; omega))
    have HP2_5 : Hid (w5.heap[P2]? = some (.cells #[.int .i64 id, .int .i64 seq, .int .i64 epoch, .bool false, .string (str body), .bool sent, .int .i64 at_] 61 (0, 0))) := Lib.hid (hch.blk HP2_4.out (by show (61 + 1 : Nat) ≠ _; decide))
    have HP4_5 : Hid (w5.heap[(P2 + 1)]? = some (.cells #[.int .i64 id, .int .i64 seq, .int .i64 epoch, .bool false, .string (str body), .bool sent, .int .i64 at_] 61 (0, 0))) := Lib.hid (hch.blk HP4_4.out (by show (61 + 1 : Nat) ≠ _; decide))
    clear hch HB_4 HP2_4 HP4_4
    have HP5_5 := Lib.hid hnew
    clear hnew HP5_4
    go_wp2_with (first | (refine wpList_load_row rfl 61 (.tmp 2) rfl P2 rfl 61 _ (0, 0) _ K5.out Try.underlying61 rfl (by kernel_rfl) ?_) | (refine wpList_store_row rfl 61 (.tmp 4) (.tmp 18) rfl (P2 + 1) _ rfl rfl 61 _ HST.out (by kernel_rfl) rfl (by simp [Value.oneCell']) ?_) | (refine wpList_store_row rfl 36 (.tmp 5) (.tmp 19) rfl (P2 + 2) _ rfl rfl 36 _ HST7.out (by kernel_rfl) rfl (by simp [Value.oneCell']) ?_))
    clear cc4 K5 HST HST7
    rw [← hw6]
    clear hw6
    rw [← hw8]
    clear hw8
    go_wp2_with fail
    refine bodyPost_ret (v := .tuple #[.agg #[.int .i64 id, .int .i64 seq, .int .i64 epoch, .bool false, .string (str body), .bool sent, .int .i64 at_], .agg #[.int .i64 0, .int .i64 0, .int .i64 0, .int .i64 0, .int .i64 0, .int .i64 0, .int .i64 0, .int .i64 0, .int .i64 0, .int .i64 0, .int .i64 0, .int .i64 0, .int .i64 0, .int .i64 0, .int .i64 0, .int .i64 0, .int .i64 0, .slice none 0 0, .int .i64 0, .int .i64 0, .int .i64 0], .bool false]) (results_cc Try.results20 Try.underlying61 Try.underlying36 _ _ (P2 + 1) (P2 + 2) _ _ rfl rfl HP4_5.out HP5_5.out (by kernel_rfl) (by kernel_rfl)) rfl ?_
    exact ⟨fun _ => rfl, fun h => absurd HNO.out h, HB_5.out⟩
  · skip
    have h3 : now < 0 ∨ (¬ now < 0 ∧ 1099511627776 ≤ now) ∨ (¬ now < 0 ∧ ¬ 1099511627776 ≤ now) := by omega
    rcases h3 with h1 | ⟨h1, h2⟩ | ⟨h1, h2⟩
    · skip
      have HNO : Hid (SendNo ⟨id, seq, epoch, true, sent, at_, body⟩ now) := Lib.hid (.inr (.inl h1))
      have HST := HP4_3
      have cc9 : w3.cell? ⟨P2, 3, none⟩ = some (.bool true) := cellb (i := 3) HP2_3.out rfl
      have K10 := HP2_3
      obtain ⟨w4, hw11⟩ : ∃ y, y = w3.setRow (P2 + 1) #[.int .i64 id, .int .i64 seq, .int .i64 epoch, .bool true, .string (str body), .bool sent, .int .i64 at_] := ⟨_, rfl⟩
      have hch := Ch.ofRow HP4_3.out #[.int .i64 id, .int .i64 seq, .int .i64 epoch, .bool true, .string (str body), .bool sent, .int .i64 at_]
      rw [← hw11] at hch
      have hnew : w4.heap[(P2 + 1)]? = some (.cells #[.int .i64 id, .int .i64 seq, .int .i64 epoch, .bool true, .string (str body), .bool sent, .int .i64 at_] 61 (0, 0)) := by rw [hw11]; exact setRow_heap _ _ _ _ _ _ HP4_3.out
      have HB_4 : Hid (Below w0.heap.size w0 w4) := Lib.hid (hch.below HB_3.out HB_3.out.size (fun k hk => by injection hk with hk; omega))
      have HP2_4 : Hid (w4.heap[P2]? = some (.cells #[.int .i64 id, .int .i64 seq, .int .i64 epoch, .bool true, .string (str body), .bool sent, .int .i64 at_] 61 (0, 0))) := Lib.hid (hch.blkN HP2_3.out (by intro e; injection e with e; omega))
      have HP5_4 : Hid (w4.heap[(P2 + 2)]? = some (.cells (mcv (fun _ => 0) (.slice none 0 0)) 36 (0, 0))) := Lib.hid (hch.blk HP5_3.out (by show (36 + 1 : Nat) ≠ _; decide))
      clear hch HB_3 HP2_3 HP5_3
      have HP4_4 := Lib.hid hnew
      clear hnew HP4_3
      have HST12 : Hid ((w3.setRow (P2 + 1) #[.int .i64 id, .int .i64 seq, .int .i64 epoch, .bool true, .string (str body), .bool sent, .int .i64 at_]).heap[(P2 + 2)]? = some (.cells (mcv (fun _ => 0) (.slice none 0 0)) 36 (0, 0))) := Lib.hid (by rw [← hw11]; exact HP5_4.out)
      obtain ⟨w5, hw13⟩ : ∃ y, y = w4.setRow (P2 + 2) #[.int .i64 0, .int .i64 0, .int .i64 0, .int .i64 0, .int .i64 0, .int .i64 0, .int .i64 0, .int .i64 0, .int .i64 0, .int .i64 0, .int .i64 0, .int .i64 0, .int .i64 0, .int .i64 0, .int .i64 0, .int .i64 0, .int .i64 0, .slice none 0 0, .int .i64 0, .int .i64 0, .int .i64 0] := ⟨_, rfl⟩
      have hch := Ch.ofRow HP5_4.out #[.int .i64 0, .int .i64 0, .int .i64 0, .int .i64 0, .int .i64 0, .int .i64 0, .int .i64 0, .int .i64 0, .int .i64 0, .int .i64 0, .int .i64 0, .int .i64 0, .int .i64 0, .int .i64 0, .int .i64 0, .int .i64 0, .int .i64 0, .slice none 0 0, .int .i64 0, .int .i64 0, .int .i64 0]
      rw [← hw13] at hch
      have hnew : w5.heap[(P2 + 2)]? = some (.cells (mcv (fun _ => 0) (.slice none 0 0)) 36 (0, 0)) := by rw [hw13]; exact setRow_heap _ _ _ _ _ _ HP5_4.out
      have HB_5 : Hid (Below w0.heap.size w0 w5) := Lib.hid (hch.below HB_4.out HB_4.out.size (fun k hk => by injection hk with hk; omega))
      have HP2_5 : Hid (w5.heap[P2]? = some (.cells #[.int .i64 id, .int .i64 seq, .int .i64 epoch, .bool true, .string (str body), .bool sent, .int .i64 at_] 61 (0, 0))) := Lib.hid (hch.blk HP2_4.out (by show (61 + 1 : Nat) ≠ _; decide))
      have HP4_5 : Hid (w5.heap[(P2 + 1)]? = some (.cells #[.int .i64 id, .int .i64 seq, .int .i64 epoch, .bool true, .string (str body), .bool sent, .int .i64 at_] 61 (0, 0))) := Lib.hid (hch.blk HP4_4.out (by show (61 + 1 : Nat) ≠ _; decide))
      clear hch HB_4 HP2_4 HP4_4
      have HP5_5 := Lib.hid hnew
      clear hnew HP5_4
      go_wp2_with (first | (refine wpList_load_row rfl 61 (.tmp 2) rfl P2 rfl 61 _ (0, 0) _ K10.out Try.underlying61 rfl (by kernel_rfl) ?_) | (refine wpList_store_row rfl 61 (.tmp 4) (.tmp 18) rfl (P2 + 1) _ rfl rfl 61 _ HST.out (by kernel_rfl) rfl (by simp [Value.oneCell']) ?_) | (refine wpList_store_row rfl 36 (.tmp 5) (.tmp 19) rfl (P2 + 2) _ rfl rfl 36 _ HST12.out (by kernel_rfl) rfl (by simp [Value.oneCell']) ?_))
      clear cc9 K10 HST HST12
      rw [← hw11]
      clear hw11
      rw [← hw13]
      clear hw13
      go_wp2_with fail
      refine bodyPost_ret (v := .tuple #[.agg #[.int .i64 id, .int .i64 seq, .int .i64 epoch, .bool true, .string (str body), .bool sent, .int .i64 at_], .agg #[.int .i64 0, .int .i64 0, .int .i64 0, .int .i64 0, .int .i64 0, .int .i64 0, .int .i64 0, .int .i64 0, .int .i64 0, .int .i64 0, .int .i64 0, .int .i64 0, .int .i64 0, .int .i64 0, .int .i64 0, .int .i64 0, .int .i64 0, .slice none 0 0, .int .i64 0, .int .i64 0, .int .i64 0], .bool false]) (results_cc Try.results20 Try.underlying61 Try.underlying36 _ _ (P2 + 1) (P2 + 2) _ _ rfl rfl HP4_5.out HP5_5.out (by kernel_rfl) (by kernel_rfl)) rfl ?_
      exact ⟨fun _ => rfl, fun h => absurd HNO.out h, HB_5.out⟩
    · skip
      have HNO : Hid (SendNo ⟨id, seq, epoch, true, sent, at_, body⟩ now) := Lib.hid (.inr (.inr (.inl h2)))
      have HST := HP4_3
      have cc14 : w3.cell? ⟨P2, 3, none⟩ = some (.bool true) := cellb (i := 3) HP2_3.out rfl
      have K15 := HP2_3
      obtain ⟨w4, hw16⟩ : ∃ y, y = w3.setRow (P2 + 1) #[.int .i64 id, .int .i64 seq, .int .i64 epoch, .bool true, .string (str body), .bool sent, .int .i64 at_] := ⟨_, rfl⟩
      have hch := Ch.ofRow HP4_3.out #[.int .i64 id, .int .i64 seq, .int .i64 epoch, .bool true, .string (str body), .bool sent, .int .i64 at_]
      rw [← hw16] at hch
      have hnew : w4.heap[(P2 + 1)]? = some (.cells #[.int .i64 id, .int .i64 seq, .int .i64 epoch, .bool true, .string (str body), .bool sent, .int .i64 at_] 61 (0, 0)) := by rw [hw16]; exact setRow_heap _ _ _ _ _ _ HP4_3.out
      have HB_4 : Hid (Below w0.heap.size w0 w4) := Lib.hid (hch.below HB_3.out HB_3.out.size (fun k hk => by injection hk with hk; omega))
      have HP2_4 : Hid (w4.heap[P2]? = some (.cells #[.int .i64 id, .int .i64 seq, .int .i64 epoch, .bool true, .string (str body), .bool sent, .int .i64 at_] 61 (0, 0))) := Lib.hid (hch.blkN HP2_3.out (by intro e; injection e with e; omega))
      have HP5_4 : Hid (w4.heap[(P2 + 2)]? = some (.cells (mcv (fun _ => 0) (.slice none 0 0)) 36 (0, 0))) := Lib.hid (hch.blk HP5_3.out (by show (36 + 1 : Nat) ≠ _; decide))
      clear hch HB_3 HP2_3 HP5_3
      have HP4_4 := Lib.hid hnew
      clear hnew HP4_3
      have HST17 : Hid ((w3.setRow (P2 + 1) #[.int .i64 id, .int .i64 seq, .int .i64 epoch, .bool true, .string (str body), .bool sent, .int .i64 at_]).heap[(P2 + 2)]? = some (.cells (mcv (fun _ => 0) (.slice none 0 0)) 36 (0, 0))) := Lib.hid (by rw [← hw16]; exact HP5_4.out)
      obtain ⟨w5, hw18⟩ : ∃ y, y = w4.setRow (P2 + 2) #[.int .i64 0, .int .i64 0, .int .i64 0, .int .i64 0, .int .i64 0, .int .i64 0, .int .i64 0, .int .i64 0, .int .i64 0, .int .i64 0, .int .i64 0, .int .i64 0, .int .i64 0, .int .i64 0, .int .i64 0, .int .i64 0, .int .i64 0, .slice none 0 0, .int .i64 0, .int .i64 0, .int .i64 0] := ⟨_, rfl⟩
      have hch := Ch.ofRow HP5_4.out #[.int .i64 0, .int .i64 0, .int .i64 0, .int .i64 0, .int .i64 0, .int .i64 0, .int .i64 0, .int .i64 0, .int .i64 0, .int .i64 0, .int .i64 0, .int .i64 0, .int .i64 0, .int .i64 0, .int .i64 0, .int .i64 0, .int .i64 0, .slice none 0 0, .int .i64 0, .int .i64 0, .int .i64 0]
      rw [← hw18] at hch
      have hnew : w5.heap[(P2 + 2)]? = some (.cells (mcv (fun _ => 0) (.slice none 0 0)) 36 (0, 0)) := by rw [hw18]; exact setRow_heap _ _ _ _ _ _ HP5_4.out
      have HB_5 : Hid (Below w0.heap.size w0 w5) := Lib.hid (hch.below HB_4.out HB_4.out.size (fun k hk => by injection hk with hk; omega))
      have HP2_5 : Hid (w5.heap[P2]? = some (.cells #[.int .i64 id, .int .i64 seq, .int .i64 epoch, .bool true, .string (str body), .bool sent, .int .i64 at_] 61 (0, 0))) := Lib.hid (hch.blk HP2_4.out (by show (61 + 1 : Nat) ≠ _; decide))
      have HP4_5 : Hid (w5.heap[(P2 + 1)]? = some (.cells #[.int .i64 id, .int .i64 seq, .int .i64 epoch, .bool true, .string (str body), .bool sent, .int .i64 at_] 61 (0, 0))) := Lib.hid (hch.blk HP4_4.out (by show (61 + 1 : Nat) ≠ _; decide))
      clear hch HB_4 HP2_4 HP4_4
      have HP5_5 := Lib.hid hnew
      clear hnew HP5_4
      go_wp2_with (first | (refine wpList_load_row rfl 61 (.tmp 2) rfl P2 rfl 61 _ (0, 0) _ K15.out Try.underlying61 rfl (by kernel_rfl) ?_) | (refine wpList_store_row rfl 61 (.tmp 4) (.tmp 18) rfl (P2 + 1) _ rfl rfl 61 _ HST.out (by kernel_rfl) rfl (by simp [Value.oneCell']) ?_) | (refine wpList_store_row rfl 36 (.tmp 5) (.tmp 19) rfl (P2 + 2) _ rfl rfl 36 _ HST17.out (by kernel_rfl) rfl (by simp [Value.oneCell']) ?_))
      clear cc14 K15 HST HST17
      rw [← hw16]
      clear hw16
      rw [← hw18]
      clear hw18
      go_wp2_with fail
      refine bodyPost_ret (v := .tuple #[.agg #[.int .i64 id, .int .i64 seq, .int .i64 epoch, .bool true, .string (str body), .bool sent, .int .i64 at_], .agg #[.int .i64 0, .int .i64 0, .int .i64 0, .int .i64 0, .int .i64 0, .int .i64 0, .int .i64 0, .int .i64 0, .int .i64 0, .int .i64 0, .int .i64 0, .int .i64 0, .int .i64 0, .int .i64 0, .int .i64 0, .int .i64 0, .int .i64 0, .slice none 0 0, .int .i64 0, .int .i64 0, .int .i64 0], .bool false]) (results_cc Try.results20 Try.underlying61 Try.underlying36 _ _ (P2 + 1) (P2 + 2) _ _ rfl rfl HP4_5.out HP5_5.out (by kernel_rfl) (by kernel_rfl)) rfl ?_
      exact ⟨fun _ => rfl, fun h => absurd HNO.out h, HB_5.out⟩
    · skip
      have cc19 : w3.cell? ⟨P2, 3, none⟩ = some (.bool true) := cellb (i := 3) HP2_3.out rfl
      go_upto_region 3 with fail
      clear cc19
      have qw : IntKind.i64.wrap (now - 4) = now - 4 := IntWalk.i64_in _ (by omega)
      cases sent
      · skip
        have HNO : Hid (¬ SendNo ⟨id, seq, epoch, true, false, at_, body⟩ now) := Lib.hid (by unfold SendNo; simp; omega)
        have cc20 : w3.cell? ⟨P2, 5, none⟩ = some (.bool false) := cellb (i := 5) HP2_3.out rfl
        have cc21 : w3.cell? ⟨P2, 6, none⟩ = some (.int .i64 at_) := cellb (i := 6) HP2_3.out rfl
        have cc22 : w3.cell? ⟨P2, 6, none⟩ = some (.int .i64 at_) := cellb (i := 6) HP2_3.out rfl
        have cc23 : w3.cell? ⟨P2, 5, none⟩ = some (.bool false) := cellb (i := 5) HP2_3.out rfl
        have fz24 : w3.frozen? ⟨P2, 5, none⟩ = false := fzb HP2_3.out 5
        obtain ⟨w4, hw25⟩ : ∃ y, y = w3.setCell ⟨P2, 5, none⟩ (.bool true) := ⟨_, rfl⟩
        have hch := Ch.ofCell (i := 5) HP2_3.out (.bool true)
        rw [← hw25] at hch
        have hnew : w4.heap[P2]? = some (.cells #[.int .i64 id, .int .i64 seq, .int .i64 epoch, .bool true, .string (str body), .bool true, .int .i64 at_] 61 (0, 0)) := by rw [hw25]; exact set_blk HP2_3.out _
        have HB_4 : Hid (Below w0.heap.size w0 w4) := Lib.hid (hch.below HB_3.out HB_3.out.size (fun k hk => by injection hk with hk; omega))
        have HP4_4 : Hid (w4.heap[(P2 + 1)]? = some (.cells #[.int .i64 0, .int .i64 0, .int .i64 0, .bool false, .string { data := #[] }, .bool false, .int .i64 0] 61 (0, 0))) := Lib.hid (hch.blkN HP4_3.out (by intro e; injection e with e; omega))
        have HP5_4 : Hid (w4.heap[(P2 + 2)]? = some (.cells (mcv (fun _ => 0) (.slice none 0 0)) 36 (0, 0))) := Lib.hid (hch.blk HP5_3.out (by show (36 + 1 : Nat) ≠ _; decide))
        clear hch HB_3 HP4_3 HP5_3
        have HP2_4 := Lib.hid hnew
        clear hnew HP2_3
        go_upto_region 6 with fail
        clear cc20 cc21 cc22 cc23 fz24
        rw [← hw25]
        clear hw25
        have cc26 : w4.cell? ⟨P2, 6, none⟩ = some (.int .i64 at_) := cellb (i := 6) HP2_4.out rfl
        have fz27 : w4.frozen? ⟨P2, 6, none⟩ = false := fzb HP2_4.out 6
        obtain ⟨w5, hw28⟩ : ∃ y, y = w4.setCell ⟨P2, 6, none⟩ (.int .i64 now) := ⟨_, rfl⟩
        have hch := Ch.ofCell (i := 6) HP2_4.out (.int .i64 now)
        rw [← hw28] at hch
        have hnew : w5.heap[P2]? = some (.cells #[.int .i64 id, .int .i64 seq, .int .i64 epoch, .bool true, .string (str body), .bool true, .int .i64 now] 61 (0, 0)) := by rw [hw28]; exact set_blk HP2_4.out _
        have HB_5 : Hid (Below w0.heap.size w0 w5) := Lib.hid (hch.below HB_4.out HB_4.out.size (fun k hk => by injection hk with hk; omega))
        have HP4_5 : Hid (w5.heap[(P2 + 1)]? = some (.cells #[.int .i64 0, .int .i64 0, .int .i64 0, .bool false, .string { data := #[] }, .bool false, .int .i64 0] 61 (0, 0))) := Lib.hid (hch.blkN HP4_4.out (by intro e; injection e with e; omega))
        have HP5_5 : Hid (w5.heap[(P2 + 2)]? = some (.cells (mcv (fun _ => 0) (.slice none 0 0)) 36 (0, 0))) := Lib.hid (hch.blk HP5_4.out (by show (36 + 1 : Nat) ≠ _; decide))
        clear hch HB_4 HP4_4 HP5_4
        have HP2_5 := Lib.hid hnew
        clear hnew HP2_4
        go_upto_region 7 with fail
        clear cc26 fz27
        rw [← hw28]
        clear hw28
        go_cut [6] from 40 to 50 (fun s6 wc => ∃ (c' : Nat) (cs5 : Array Value) (f5 : Nat × Nat) (P49 : Nat), s6 = .bool true ∧ Hid (∀ (W : World) (b : Nat), W.heap[b]? = some (.cells cs5 5 f5) → BytesIn W W.heap.size (some ⟨b, 0, none⟩) c' body) ∧ Hid (Below w0.heap.size w0 wc) ∧ Hid (wc.heap[P2]? = some (.cells #[.int .i64 id, .int .i64 seq, .int .i64 epoch, .bool true, .string (str body), .bool true, .int .i64 now] 61 (0, 0))) ∧ Hid (wc.heap[P49]? = some (.cells cs5 5 f5)) ∧ Hid (wc.heap[(P2 + 1)]? = some (.cells #[.int .i64 id, .int .i64 seq, .int .i64 epoch, .bool true, .string (str body), .bool true, .int .i64 now] 61 (0, 0))) ∧ Hid (wc.heap[(P2 + 2)]? = some (.cells #[.int .i64 7, .int .i64 epoch, .int .i64 0, .int .i64 0, .int .i64 0, .int .i64 0, .int .i64 0, .int .i64 0, .int .i64 0, .int .i64 0, .int .i64 0, .int .i64 0, .int .i64 0, .int .i64 0, .int .i64 0, .int .i64 id, .int .i64 seq, .slice ((some ⟨P49, 0, none⟩)) body.length c', .int .i64 0, .int .i64 0, .int .i64 0] 36 (0, 0))))
        case first =>
          have HB_6 : Hid (Below w0.heap.size w0 w5.drew) := Lib.hid (HB_5.out.trans (((Below.refl w5.heap.size w5).drew).mono HB_5.out.size))
          have HP4_6 : Hid (w5.drew.heap[(P2 + 1)]? = some (.cells #[.int .i64 0, .int .i64 0, .int .i64 0, .bool false, .string { data := #[] }, .bool false, .int .i64 0] 61 (0, 0))) := Lib.hid ((((Below.refl w5.heap.size w5).drew).block (P2 + 1) (ltb HP4_5.out)).trans HP4_5.out)
          have HP5_6 : Hid (w5.drew.heap[(P2 + 2)]? = some (.cells (mcv (fun _ => 0) (.slice none 0 0)) 36 (0, 0))) := Lib.hid ((((Below.refl w5.heap.size w5).drew).block (P2 + 2) (ltb HP5_5.out)).trans HP5_5.out)
          have HP2_6 : Hid (w5.drew.heap[P2]? = some (.cells #[.int .i64 id, .int .i64 seq, .int .i64 epoch, .bool true, .string (str body), .bool true, .int .i64 now] 61 (0, 0))) := Lib.hid ((((Below.refl w5.heap.size w5).drew).block P2 (ltb HP2_5.out)).trans HP2_5.out)
          clear HB_5 HP4_5 HP5_5 HP2_5
          have FP2 : w5.drew.heap[P2]? = some (.cells #[.int .i64 id, .int .i64 seq, .int .i64 epoch, .bool true, .string (str body), .bool true, .int .i64 now] 61 (0, 0)) := HP2_6.out
          refine wp_region_noPanic ?_
          refine wp_region_held_drew (S := fun w' => w'.heap[P2]? = some (.cells #[.int .i64 id, .int .i64 seq, .int .i64 epoch, .bool true, .string (str body), .bool true, .int .i64 now] 61 (0, 0))) (by kernel_rfl) ?_ (fun hHeld => ?_)
          · try dsimp only
            (refine ?_ <;> (first | with_reducible assumption))
          generalize w5.drew = w6 at *
          refine wpAnyH_take (i := 0) (v := ?_) (by (simp only [List.getElem?_toArray, List.getElem?_cons_zero]; rfl)) (by kernel_rfl) (by kernel_rfl) (by kernel_rfl) (fun _ _ _ h => h) (Or.inl ⟨by rfl, ?_⟩) (by assumption) ?_
          rotate_left
          · intro w hSw
            try dsimp only at hSw
            refine take_load (x := .tmp 2) (ty := 61) ?_ P2 ?_ 61 _ (0, 0) _ hSw Try.underlying61 rfl (by kernel_rfl)
            all_goals rfl
          try simp only [Act.put, List.setIfInBounds_toArray, List.set_cons_zero, List.set_cons_succ]
          refine wpAnyH_take (i := 1) (v := ?_) (by (simp only [List.getElem?_toArray, List.getElem?_cons_succ, List.getElem?_cons_zero]; rfl)) (by kernel_rfl) (by kernel_rfl) (by kernel_rfl) (fun _ _ _ h => h) (Or.inl ⟨by rfl, ?_⟩) (by assumption) ?_
          rotate_left
          · (intro w hSw; (try dsimp only at hSw); go_simp; try with_reducible rfl)
          try simp only [Act.put, List.setIfInBounds_toArray, List.set_cons_zero, List.set_cons_succ]
          refine wpAnyH_take (i := 2) (v := ?_) (by (simp only [List.getElem?_toArray, List.getElem?_cons_succ, List.getElem?_cons_zero]; rfl)) (by kernel_rfl) (by kernel_rfl) (by kernel_rfl) (fun _ _ _ h => h) (Or.inl ⟨by rfl, ?_⟩) (by assumption) ?_
          rotate_left
          · intro w hSw
            try dsimp only at hSw
            have x0 : w.cell? ⟨P2, 2, none⟩ = some (.int .i64 epoch) := (cellb (i := 2) hSw rfl)
            go_simp; try with_reducible rfl
          try simp only [Act.put, List.setIfInBounds_toArray, List.set_cons_zero, List.set_cons_succ]
          refine wpAnyH_take (i := 3) (v := ?_) (by (simp only [List.getElem?_toArray, List.getElem?_cons_succ, List.getElem?_cons_zero]; rfl)) (by kernel_rfl) (by kernel_rfl) (by kernel_rfl) (fun _ _ _ h => h) (Or.inl ⟨by rfl, ?_⟩) (by assumption) ?_
          rotate_left
          · (intro w hSw; (try dsimp only at hSw); go_simp; try with_reducible rfl)
          try simp only [Act.put, List.setIfInBounds_toArray, List.set_cons_zero, List.set_cons_succ]
          refine wpAnyH_take (i := 4) (v := ?_) (by (simp only [List.getElem?_toArray, List.getElem?_cons_succ, List.getElem?_cons_zero]; rfl)) (by kernel_rfl) (by kernel_rfl) (by kernel_rfl) (fun _ _ _ h => h) (Or.inl ⟨by rfl, ?_⟩) (by assumption) ?_
          rotate_left
          · intro w hSw
            try dsimp only at hSw
            have x0 : w.cell? ⟨P2, 0, none⟩ = some (.int .i64 id) := (cellb (i := 0) hSw rfl)
            go_simp; try with_reducible rfl
          try simp only [Act.put, List.setIfInBounds_toArray, List.set_cons_zero, List.set_cons_succ]
          refine wpAnyH_take (i := 5) (v := ?_) (by (simp only [List.getElem?_toArray, List.getElem?_cons_succ, List.getElem?_cons_zero]; rfl)) (by kernel_rfl) (by kernel_rfl) (by kernel_rfl) (fun _ _ _ h => h) (Or.inl ⟨by rfl, ?_⟩) (by assumption) ?_
          rotate_left
          · (intro w hSw; (try dsimp only at hSw); go_simp; try with_reducible rfl)
          try simp only [Act.put, List.setIfInBounds_toArray, List.set_cons_zero, List.set_cons_succ]
          refine wpAnyH_take (i := 6) (v := ?_) (by (simp only [List.getElem?_toArray, List.getElem?_cons_succ, List.getElem?_cons_zero]; rfl)) (by kernel_rfl) (by kernel_rfl) (by kernel_rfl) (fun _ _ _ h => h) (Or.inl ⟨by rfl, ?_⟩) (by assumption) ?_
          rotate_left
          · intro w hSw
            try dsimp only at hSw
            have x0 : w.cell? ⟨P2, 1, none⟩ = some (.int .i64 seq) := (cellb (i := 1) hSw rfl)
            go_simp; try with_reducible rfl
          try simp only [Act.put, List.setIfInBounds_toArray, List.set_cons_zero, List.set_cons_succ]
          refine wpAnyH_take (i := 7) (v := ?_) (by (simp only [List.getElem?_toArray, List.getElem?_cons_succ, List.getElem?_cons_zero]; rfl)) (by kernel_rfl) (by kernel_rfl) (by kernel_rfl) (fun _ _ _ h => h) (Or.inl ⟨by rfl, ?_⟩) (by assumption) ?_
          rotate_left
          · (intro w hSw; (try dsimp only at hSw); go_simp; try with_reducible rfl)
          try simp only [Act.put, List.setIfInBounds_toArray, List.set_cons_zero, List.set_cons_succ]
          refine wpAnyH_take (i := 8) (v := ?_) (by (simp only [List.getElem?_toArray, List.getElem?_cons_succ, List.getElem?_cons_zero]; rfl)) (by kernel_rfl) (by kernel_rfl) (by kernel_rfl) (fun _ _ _ h => h) (Or.inl ⟨by rfl, ?_⟩) (by assumption) ?_
          rotate_left
          · intro w hSw
            try dsimp only at hSw
            have x0 : w.cell? ⟨P2, 4, none⟩ = some (.string (str body)) := (cellb (i := 4) hSw rfl)
            go_simp; try with_reducible rfl
          try simp only [Act.put, List.setIfInBounds_toArray, List.set_cons_zero, List.set_cons_succ]
          refine wpAnyH_ready (rs := [9, 11]) (by kernel_rfl) (by simp) ?_
          refine AllReadyH.cons (by (simp only [List.getElem?_toArray, List.getElem?_cons_succ, List.getElem?_cons_zero]; rfl)) (fun K hK => ?_) (AllReadyH.cons (by (simp only [List.getElem?_toArray, List.getElem?_cons_succ, List.getElem?_cons_zero]; rfl)) (fun K hK => ?_) AllReadyH.nil)
          · skip
            obtain ⟨c', cs5, f5, hcv, hby⟩ := conv_x body w6 (by omega)
            go_simp
            clear hcv
            have HBY := Lib.hid hby
            clear hby
            obtain ⟨P49, hP49⟩ : ∃ x, x = w6.heap.size := ⟨_, rfl⟩
            obtain ⟨w7, hw29⟩ : ∃ y, y = (w6.alloc (.cells cs5 5 f5)).drew := ⟨_, rfl⟩
            have hal : Below w6.heap.size w6 w7 := by rw [hw29]; exact ((Below.refl _ _).alloc (Nat.le_refl _) _).drew
            have hnew : w7.heap[P49]? = some (.cells cs5 5 f5) := by rw [hw29, hP49]; exact heap_alloc_new w6 _
            have HB_7 : Hid (Below w0.heap.size w0 w7) := Lib.hid (HB_6.out.trans (hal.mono HB_6.out.size))
            have HP4_7 : Hid (w7.heap[(P2 + 1)]? = some (.cells #[.int .i64 0, .int .i64 0, .int .i64 0, .bool false, .string { data := #[] }, .bool false, .int .i64 0] 61 (0, 0))) := Lib.hid ((hal.block (P2 + 1) (ltb HP4_6.out)).trans HP4_6.out)
            have HP5_7 : Hid (w7.heap[(P2 + 2)]? = some (.cells (mcv (fun _ => 0) (.slice none 0 0)) 36 (0, 0))) := Lib.hid ((hal.block (P2 + 2) (ltb HP5_6.out)).trans HP5_6.out)
            have HP2_7 : Hid (w7.heap[P2]? = some (.cells #[.int .i64 id, .int .i64 seq, .int .i64 epoch, .bool true, .string (str body), .bool true, .int .i64 now] 61 (0, 0))) := Lib.hid ((hal.block P2 (ltb HP2_6.out)).trans HP2_6.out)
            clear hal HB_6 HP4_6 HP5_6 HP2_6
            have HP49_7 := Lib.hid hnew
            clear hnew
            rw [← hw29]
            clear hw29
            rw [← hP49]
            clear hP49
            have FP2' : w7.heap[P2]? = some (.cells #[.int .i64 id, .int .i64 seq, .int .i64 epoch, .bool true, .string (str body), .bool true, .int .i64 now] 61 (0, 0)) := HP2_7.out
            clear FP2
            have FP2 := FP2'
            clear FP2'
            refine hK.out _ _ ?_ (fun hHeld => ?_)
            · try dsimp only
              (refine ?_ <;> (first | with_reducible assumption))
            clear hK K
            try simp only [Act.put, List.setIfInBounds_toArray, List.set_cons_zero, List.set_cons_succ]
            refine wpAnyH_take (i := 10) (v := ?_) (by (simp only [List.getElem?_toArray, List.getElem?_cons_succ, List.getElem?_cons_zero]; rfl)) (by kernel_rfl) (by kernel_rfl) (by kernel_rfl) (fun _ _ _ h => h) (Or.inl ⟨by rfl, ?_⟩) (by assumption) ?_
            rotate_left
            · (intro w hSw; (try dsimp only at hSw); go_simp; try with_reducible rfl)
            try simp only [Act.put, List.setIfInBounds_toArray, List.set_cons_zero, List.set_cons_succ]
            refine wpAnyH_ready (rs := [11]) (by kernel_rfl) (by simp) ?_
            refine AllReadyH.cons (by (simp only [List.getElem?_toArray, List.getElem?_cons_succ, List.getElem?_cons_zero]; rfl)) (fun K hK => ?_) AllReadyH.nil
            refine wp_store_row 61 (.tmp 4) (.tmp 40) rfl (P2 + 1) _ rfl rfl 61 _ HP4_7.out (by kernel_rfl) rfl (by simp [Value.oneCell']) ?_
            obtain ⟨w8, hw30⟩ : ∃ y, y = w7.setRow (P2 + 1) #[.int .i64 id, .int .i64 seq, .int .i64 epoch, .bool true, .string (str body), .bool true, .int .i64 now] := ⟨_, rfl⟩
            have hch := Ch.ofRow HP4_7.out #[.int .i64 id, .int .i64 seq, .int .i64 epoch, .bool true, .string (str body), .bool true, .int .i64 now]
            rw [← hw30] at hch
            have hnew : w8.heap[(P2 + 1)]? = some (.cells #[.int .i64 id, .int .i64 seq, .int .i64 epoch, .bool true, .string (str body), .bool true, .int .i64 now] 61 (0, 0)) := by rw [hw30]; exact setRow_heap _ _ _ _ _ _ HP4_7.out
            have HB_8 : Hid (Below w0.heap.size w0 w8) := Lib.hid (hch.below HB_7.out HB_7.out.size (fun k hk => by injection hk with hk; omega))
            have HP5_8 : Hid (w8.heap[(P2 + 2)]? = some (.cells (mcv (fun _ => 0) (.slice none 0 0)) 36 (0, 0))) := Lib.hid (hch.blk HP5_7.out (by show (36 + 1 : Nat) ≠ _; decide))
            have HP2_8 : Hid (w8.heap[P2]? = some (.cells #[.int .i64 id, .int .i64 seq, .int .i64 epoch, .bool true, .string (str body), .bool true, .int .i64 now] 61 (0, 0))) := Lib.hid (hch.blkN HP2_7.out (by intro e; injection e with e; omega))
            have HP49_8 : Hid (w8.heap[P49]? = some (.cells cs5 5 f5)) := Lib.hid (hch.blk HP49_7.out (by show (5 + 1 : Nat) ≠ _; decide))
            clear hch HB_7 HP5_7 HP2_7 HP49_7
            have HP4_8 := Lib.hid hnew
            clear hnew HP4_7
            rw [← hw30]
            clear hw30
            have FP2' : w8.heap[P2]? = some (.cells #[.int .i64 id, .int .i64 seq, .int .i64 epoch, .bool true, .string (str body), .bool true, .int .i64 now] 61 (0, 0)) := HP2_8.out
            clear FP2
            have FP2 := FP2'
            clear FP2'
            refine hK.out _ _ ?_ (fun hHeld => ?_)
            · try dsimp only
              (refine ?_ <;> (first | with_reducible assumption))
            clear hK K
            try simp only [Act.put]
            refine wpAnyH_ready (rs := [12]) (by kernel_rfl) (by simp) ?_
            refine AllReadyH.cons (by (simp only [List.getElem?_toArray, List.getElem?_cons_succ, List.getElem?_cons_zero]; rfl)) (fun K hK => ?_) AllReadyH.nil
            refine wp_store_row 36 (.tmp 5) (.tmp 50) rfl (P2 + 2) _ rfl rfl 36 _ HP5_8.out (by kernel_rfl) rfl (by simp [Value.oneCell']) ?_
            obtain ⟨w9, hw31⟩ : ∃ y, y = w8.setRow (P2 + 2) #[.int .i64 7, .int .i64 epoch, .int .i64 0, .int .i64 0, .int .i64 0, .int .i64 0, .int .i64 0, .int .i64 0, .int .i64 0, .int .i64 0, .int .i64 0, .int .i64 0, .int .i64 0, .int .i64 0, .int .i64 0, .int .i64 id, .int .i64 seq, .slice ((some ⟨P49, 0, none⟩)) body.length c', .int .i64 0, .int .i64 0, .int .i64 0] := ⟨_, rfl⟩
            have hch := Ch.ofRow HP5_8.out #[.int .i64 7, .int .i64 epoch, .int .i64 0, .int .i64 0, .int .i64 0, .int .i64 0, .int .i64 0, .int .i64 0, .int .i64 0, .int .i64 0, .int .i64 0, .int .i64 0, .int .i64 0, .int .i64 0, .int .i64 0, .int .i64 id, .int .i64 seq, .slice ((some ⟨P49, 0, none⟩)) body.length c', .int .i64 0, .int .i64 0, .int .i64 0]
            rw [← hw31] at hch
            have hnew : w9.heap[(P2 + 2)]? = some (.cells #[.int .i64 7, .int .i64 epoch, .int .i64 0, .int .i64 0, .int .i64 0, .int .i64 0, .int .i64 0, .int .i64 0, .int .i64 0, .int .i64 0, .int .i64 0, .int .i64 0, .int .i64 0, .int .i64 0, .int .i64 0, .int .i64 id, .int .i64 seq, .slice ((some ⟨P49, 0, none⟩)) body.length c', .int .i64 0, .int .i64 0, .int .i64 0] 36 (0, 0)) := by rw [hw31]; exact setRow_heap _ _ _ _ _ _ HP5_8.out
            have HB_9 : Hid (Below w0.heap.size w0 w9) := Lib.hid (hch.below HB_8.out HB_8.out.size (fun k hk => by injection hk with hk; omega))
            have HP2_9 : Hid (w9.heap[P2]? = some (.cells #[.int .i64 id, .int .i64 seq, .int .i64 epoch, .bool true, .string (str body), .bool true, .int .i64 now] 61 (0, 0))) := Lib.hid (hch.blk HP2_8.out (by show (61 + 1 : Nat) ≠ _; decide))
            have HP49_9 : Hid (w9.heap[P49]? = some (.cells cs5 5 f5)) := Lib.hid (hch.blk HP49_8.out (by show (5 + 1 : Nat) ≠ _; decide))
            have HP4_9 : Hid (w9.heap[(P2 + 1)]? = some (.cells #[.int .i64 id, .int .i64 seq, .int .i64 epoch, .bool true, .string (str body), .bool true, .int .i64 now] 61 (0, 0))) := Lib.hid (hch.blk HP4_8.out (by show (61 + 1 : Nat) ≠ _; decide))
            clear hch HB_8 HP2_8 HP49_8 HP4_8
            have HP5_9 := Lib.hid hnew
            clear hnew HP5_8
            rw [← hw31]
            clear hw31
            have FP2' : w9.heap[P2]? = some (.cells #[.int .i64 id, .int .i64 seq, .int .i64 epoch, .bool true, .string (str body), .bool true, .int .i64 now] 61 (0, 0)) := HP2_9.out
            clear FP2
            have FP2 := FP2'
            clear FP2'
            refine hK.out _ _ ?_ (fun hHeld => ?_)
            · try dsimp only
              (refine ?_ <;> (first | with_reducible assumption))
            clear hK K
            try simp only [Act.put]
            refine wpAnyH_take (i := 13) (v := ?_) (by (simp only [List.getElem?_toArray, List.getElem?_cons_succ, List.getElem?_cons_zero]; rfl)) (by kernel_rfl) (by kernel_rfl) (by kernel_rfl) (fun _ _ _ h => h) (Or.inl ⟨by rfl, ?_⟩) (by assumption) ?_
            rotate_left
            · (intro w hSw; (try dsimp only at hSw); go_simp; try with_reducible rfl)
            try simp only [Act.put, List.setIfInBounds_toArray, List.set_cons_zero, List.set_cons_succ]
            refine wpAnyH_done (by kernel_rfl) ?_ _
            refine NoPanic.normal ?_
            clear hHeld FP2
            go_wp2_with fail
            go_meet
            case rel => exact ⟨c', cs5, f5, P49, rfl, HBY, HB_9, HP2_9, HP49_9, HP4_9, HP5_9⟩
          · skip
            refine wp_store_row 61 (.tmp 4) (.tmp 40) rfl (P2 + 1) _ rfl rfl 61 _ HP4_6.out (by kernel_rfl) rfl (by simp [Value.oneCell']) ?_
            obtain ⟨w7, hw29⟩ : ∃ y, y = w6.setRow (P2 + 1) #[.int .i64 id, .int .i64 seq, .int .i64 epoch, .bool true, .string (str body), .bool true, .int .i64 now] := ⟨_, rfl⟩
            have hch := Ch.ofRow HP4_6.out #[.int .i64 id, .int .i64 seq, .int .i64 epoch, .bool true, .string (str body), .bool true, .int .i64 now]
            rw [← hw29] at hch
            have hnew : w7.heap[(P2 + 1)]? = some (.cells #[.int .i64 id, .int .i64 seq, .int .i64 epoch, .bool true, .string (str body), .bool true, .int .i64 now] 61 (0, 0)) := by rw [hw29]; exact setRow_heap _ _ _ _ _ _ HP4_6.out
            have HB_7 : Hid (Below w0.heap.size w0 w7) := Lib.hid (hch.below HB_6.out HB_6.out.size (fun k hk => by injection hk with hk; omega))
            have HP5_7 : Hid (w7.heap[(P2 + 2)]? = some (.cells (mcv (fun _ => 0) (.slice none 0 0)) 36 (0, 0))) := Lib.hid (hch.blk HP5_6.out (by show (36 + 1 : Nat) ≠ _; decide))
            have HP2_7 : Hid (w7.heap[P2]? = some (.cells #[.int .i64 id, .int .i64 seq, .int .i64 epoch, .bool true, .string (str body), .bool true, .int .i64 now] 61 (0, 0))) := Lib.hid (hch.blkN HP2_6.out (by intro e; injection e with e; omega))
            clear hch HB_6 HP5_6 HP2_6
            have HP4_7 := Lib.hid hnew
            clear hnew HP4_6
            rw [← hw29]
            clear hw29
            have FP2' : w7.heap[P2]? = some (.cells #[.int .i64 id, .int .i64 seq, .int .i64 epoch, .bool true, .string (str body), .bool true, .int .i64 now] 61 (0, 0)) := HP2_7.out
            clear FP2
            have FP2 := FP2'
            clear FP2'
            refine hK.out _ _ ?_ (fun hHeld => ?_)
            · try dsimp only
              (refine ?_ <;> (first | with_reducible assumption))
            clear hK K
            try simp only [Act.put]
            refine wpAnyH_ready (rs := [9]) (by kernel_rfl) (by simp) ?_
            refine AllReadyH.cons (by (simp only [List.getElem?_toArray, List.getElem?_cons_succ, List.getElem?_cons_zero]; rfl)) (fun K hK => ?_) AllReadyH.nil
            obtain ⟨c', cs5, f5, hcv, hby⟩ := conv_x body w7 (by omega)
            go_simp
            clear hcv
            have HBY := Lib.hid hby
            clear hby
            obtain ⟨P49, hP49⟩ : ∃ x, x = w7.heap.size := ⟨_, rfl⟩
            obtain ⟨w8, hw32⟩ : ∃ y, y = (w7.alloc (.cells cs5 5 f5)).drew := ⟨_, rfl⟩
            have hal : Below w7.heap.size w7 w8 := by rw [hw32]; exact ((Below.refl _ _).alloc (Nat.le_refl _) _).drew
            have hnew : w8.heap[P49]? = some (.cells cs5 5 f5) := by rw [hw32, hP49]; exact heap_alloc_new w7 _
            have HB_8 : Hid (Below w0.heap.size w0 w8) := Lib.hid (HB_7.out.trans (hal.mono HB_7.out.size))
            have HP5_8 : Hid (w8.heap[(P2 + 2)]? = some (.cells (mcv (fun _ => 0) (.slice none 0 0)) 36 (0, 0))) := Lib.hid ((hal.block (P2 + 2) (ltb HP5_7.out)).trans HP5_7.out)
            have HP2_8 : Hid (w8.heap[P2]? = some (.cells #[.int .i64 id, .int .i64 seq, .int .i64 epoch, .bool true, .string (str body), .bool true, .int .i64 now] 61 (0, 0))) := Lib.hid ((hal.block P2 (ltb HP2_7.out)).trans HP2_7.out)
            have HP4_8 : Hid (w8.heap[(P2 + 1)]? = some (.cells #[.int .i64 id, .int .i64 seq, .int .i64 epoch, .bool true, .string (str body), .bool true, .int .i64 now] 61 (0, 0))) := Lib.hid ((hal.block (P2 + 1) (ltb HP4_7.out)).trans HP4_7.out)
            clear hal HB_7 HP5_7 HP2_7 HP4_7
            have HP49_8 := Lib.hid hnew
            clear hnew
            rw [← hw32]
            clear hw32
            rw [← hP49]
            clear hP49
            have FP2' : w8.heap[P2]? = some (.cells #[.int .i64 id, .int .i64 seq, .int .i64 epoch, .bool true, .string (str body), .bool true, .int .i64 now] 61 (0, 0)) := HP2_8.out
            clear FP2
            have FP2 := FP2'
            clear FP2'
            refine hK.out _ _ ?_ (fun hHeld => ?_)
            · try dsimp only
              (refine ?_ <;> (first | with_reducible assumption))
            clear hK K
            try simp only [Act.put, List.setIfInBounds_toArray, List.set_cons_zero, List.set_cons_succ]
            refine wpAnyH_take (i := 10) (v := ?_) (by (simp only [List.getElem?_toArray, List.getElem?_cons_succ, List.getElem?_cons_zero]; rfl)) (by kernel_rfl) (by kernel_rfl) (by kernel_rfl) (fun _ _ _ h => h) (Or.inl ⟨by rfl, ?_⟩) (by assumption) ?_
            rotate_left
            · (intro w hSw; (try dsimp only at hSw); go_simp; try with_reducible rfl)
            try simp only [Act.put, List.setIfInBounds_toArray, List.set_cons_zero, List.set_cons_succ]
            refine wpAnyH_ready (rs := [12]) (by kernel_rfl) (by simp) ?_
            refine AllReadyH.cons (by (simp only [List.getElem?_toArray, List.getElem?_cons_succ, List.getElem?_cons_zero]; rfl)) (fun K hK => ?_) AllReadyH.nil
            refine wp_store_row 36 (.tmp 5) (.tmp 50) rfl (P2 + 2) _ rfl rfl 36 _ HP5_8.out (by kernel_rfl) rfl (by simp [Value.oneCell']) ?_
            obtain ⟨w9, hw33⟩ : ∃ y, y = w8.setRow (P2 + 2) #[.int .i64 7, .int .i64 epoch, .int .i64 0, .int .i64 0, .int .i64 0, .int .i64 0, .int .i64 0, .int .i64 0, .int .i64 0, .int .i64 0, .int .i64 0, .int .i64 0, .int .i64 0, .int .i64 0, .int .i64 0, .int .i64 id, .int .i64 seq, .slice ((some ⟨P49, 0, none⟩)) body.length c', .int .i64 0, .int .i64 0, .int .i64 0] := ⟨_, rfl⟩
            have hch := Ch.ofRow HP5_8.out #[.int .i64 7, .int .i64 epoch, .int .i64 0, .int .i64 0, .int .i64 0, .int .i64 0, .int .i64 0, .int .i64 0, .int .i64 0, .int .i64 0, .int .i64 0, .int .i64 0, .int .i64 0, .int .i64 0, .int .i64 0, .int .i64 id, .int .i64 seq, .slice ((some ⟨P49, 0, none⟩)) body.length c', .int .i64 0, .int .i64 0, .int .i64 0]
            rw [← hw33] at hch
            have hnew : w9.heap[(P2 + 2)]? = some (.cells #[.int .i64 7, .int .i64 epoch, .int .i64 0, .int .i64 0, .int .i64 0, .int .i64 0, .int .i64 0, .int .i64 0, .int .i64 0, .int .i64 0, .int .i64 0, .int .i64 0, .int .i64 0, .int .i64 0, .int .i64 0, .int .i64 id, .int .i64 seq, .slice ((some ⟨P49, 0, none⟩)) body.length c', .int .i64 0, .int .i64 0, .int .i64 0] 36 (0, 0)) := by rw [hw33]; exact setRow_heap _ _ _ _ _ _ HP5_8.out
            have HB_9 : Hid (Below w0.heap.size w0 w9) := Lib.hid (hch.below HB_8.out HB_8.out.size (fun k hk => by injection hk with hk; omega))
            have HP2_9 : Hid (w9.heap[P2]? = some (.cells #[.int .i64 id, .int .i64 seq, .int .i64 epoch, .bool true, .string (str body), .bool true, .int .i64 now] 61 (0, 0))) := Lib.hid (hch.blk HP2_8.out (by show (61 + 1 : Nat) ≠ _; decide))
            have HP4_9 : Hid (w9.heap[(P2 + 1)]? = some (.cells #[.int .i64 id, .int .i64 seq, .int .i64 epoch, .bool true, .string (str body), .bool true, .int .i64 now] 61 (0, 0))) := Lib.hid (hch.blk HP4_8.out (by show (61 + 1 : Nat) ≠ _; decide))
            have HP49_9 : Hid (w9.heap[P49]? = some (.cells cs5 5 f5)) := Lib.hid (hch.blk HP49_8.out (by show (5 + 1 : Nat) ≠ _; decide))
            clear hch HB_8 HP2_8 HP4_8 HP49_8
            have HP5_9 := Lib.hid hnew
            clear hnew HP5_8
            rw [← hw33]
            clear hw33
            have FP2' : w9.heap[P2]? = some (.cells #[.int .i64 id, .int .i64 seq, .int .i64 epoch, .bool true, .string (str body), .bool true, .int .i64 now] 61 (0, 0)) := HP2_9.out
            clear FP2
            have FP2 := FP2'
            clear FP2'
            refine hK.out _ _ ?_ (fun hHeld => ?_)
            · try dsimp only
              (refine ?_ <;> (first | with_reducible assumption))
            clear hK K
            try simp only [Act.put]
            refine wpAnyH_take (i := 13) (v := ?_) (by (simp only [List.getElem?_toArray, List.getElem?_cons_succ, List.getElem?_cons_zero]; rfl)) (by kernel_rfl) (by kernel_rfl) (by kernel_rfl) (fun _ _ _ h => h) (Or.inl ⟨by rfl, ?_⟩) (by assumption) ?_
            rotate_left
            · (intro w hSw; (try dsimp only at hSw); go_simp; try with_reducible rfl)
            try simp only [Act.put, List.setIfInBounds_toArray, List.set_cons_zero, List.set_cons_succ]
            refine wpAnyH_done (by kernel_rfl) ?_ _
            refine NoPanic.normal ?_
            clear hHeld FP2
            go_wp2_with fail
            go_meet
            case rel => exact ⟨c', cs5, f5, P49, rfl, HBY, HB_9, HP2_9, HP49_9, HP4_9, HP5_9⟩
        case rest =>
        obtain ⟨w9, rfl⟩ : ∃ y : World, y = wc := ⟨_, rfl⟩
        obtain ⟨c', cs5, f5, P49, rfl, HBY, HB_9, HP2_9, HP49_9, HP4_9, HP5_9⟩ := hcut
        go_wp2_with fail
        refine bodyPost_ret (v := .tuple #[.agg #[.int .i64 id, .int .i64 seq, .int .i64 epoch, .bool true, .string (str body), .bool true, .int .i64 now], .agg #[.int .i64 7, .int .i64 epoch, .int .i64 0, .int .i64 0, .int .i64 0, .int .i64 0, .int .i64 0, .int .i64 0, .int .i64 0, .int .i64 0, .int .i64 0, .int .i64 0, .int .i64 0, .int .i64 0, .int .i64 0, .int .i64 id, .int .i64 seq, .slice ((some ⟨P49, 0, none⟩)) body.length c', .int .i64 0, .int .i64 0, .int .i64 0], .bool true]) (results_cc Try.results20 Try.underlying61 Try.underlying36 _ _ (P2 + 1) (P2 + 2) _ _ rfl rfl HP4_9.out HP5_9.out (by kernel_rfl) (by kernel_rfl)) rfl ?_
        exact ⟨fun h => absurd h HNO.out, fun _ => ⟨P49, c', cs5, f5, rfl, HP49_9.out, fun W h => HBY.out W _ h⟩, HB_9.out⟩
      · skip
        have h3 : ¬ at_ ≤ now ∨ (at_ ≤ now ∧ ¬ now - 4 < at_) ∨ (at_ ≤ now ∧ now - 4 < at_) := by omega
        rcases h3 with h4 | ⟨h4, h5⟩ | ⟨h4, h5⟩
        · skip
          have HNO : Hid (¬ SendNo ⟨id, seq, epoch, true, true, at_, body⟩ now) := Lib.hid (by unfold SendNo; simp; omega)
          have cc34 : w3.cell? ⟨P2, 5, none⟩ = some (.bool true) := cellb (i := 5) HP2_3.out rfl
          have cc35 : w3.cell? ⟨P2, 6, none⟩ = some (.int .i64 at_) := cellb (i := 6) HP2_3.out rfl
          have cc36 : w3.cell? ⟨P2, 6, none⟩ = some (.int .i64 at_) := cellb (i := 6) HP2_3.out rfl
          have cc37 : w3.cell? ⟨P2, 5, none⟩ = some (.bool true) := cellb (i := 5) HP2_3.out rfl
          have fz38 : w3.frozen? ⟨P2, 5, none⟩ = false := fzb HP2_3.out 5
          obtain ⟨w4, hw39⟩ : ∃ y, y = w3.setCell ⟨P2, 5, none⟩ (.bool true) := ⟨_, rfl⟩
          have hch := Ch.ofCell (i := 5) HP2_3.out (.bool true)
          rw [← hw39] at hch
          have hnew : w4.heap[P2]? = some (.cells #[.int .i64 id, .int .i64 seq, .int .i64 epoch, .bool true, .string (str body), .bool true, .int .i64 at_] 61 (0, 0)) := by rw [hw39]; exact set_blk HP2_3.out _
          have HB_4 : Hid (Below w0.heap.size w0 w4) := Lib.hid (hch.below HB_3.out HB_3.out.size (fun k hk => by injection hk with hk; omega))
          have HP4_4 : Hid (w4.heap[(P2 + 1)]? = some (.cells #[.int .i64 0, .int .i64 0, .int .i64 0, .bool false, .string { data := #[] }, .bool false, .int .i64 0] 61 (0, 0))) := Lib.hid (hch.blkN HP4_3.out (by intro e; injection e with e; omega))
          have HP5_4 : Hid (w4.heap[(P2 + 2)]? = some (.cells (mcv (fun _ => 0) (.slice none 0 0)) 36 (0, 0))) := Lib.hid (hch.blk HP5_3.out (by show (36 + 1 : Nat) ≠ _; decide))
          clear hch HB_3 HP4_3 HP5_3
          have HP2_4 := Lib.hid hnew
          clear hnew HP2_3
          go_upto_region 6 with fail
          clear cc34 cc35 cc36 cc37 fz38
          rw [← hw39]
          clear hw39
          have cc40 : w4.cell? ⟨P2, 6, none⟩ = some (.int .i64 at_) := cellb (i := 6) HP2_4.out rfl
          have fz41 : w4.frozen? ⟨P2, 6, none⟩ = false := fzb HP2_4.out 6
          obtain ⟨w5, hw42⟩ : ∃ y, y = w4.setCell ⟨P2, 6, none⟩ (.int .i64 now) := ⟨_, rfl⟩
          have hch := Ch.ofCell (i := 6) HP2_4.out (.int .i64 now)
          rw [← hw42] at hch
          have hnew : w5.heap[P2]? = some (.cells #[.int .i64 id, .int .i64 seq, .int .i64 epoch, .bool true, .string (str body), .bool true, .int .i64 now] 61 (0, 0)) := by rw [hw42]; exact set_blk HP2_4.out _
          have HB_5 : Hid (Below w0.heap.size w0 w5) := Lib.hid (hch.below HB_4.out HB_4.out.size (fun k hk => by injection hk with hk; omega))
          have HP4_5 : Hid (w5.heap[(P2 + 1)]? = some (.cells #[.int .i64 0, .int .i64 0, .int .i64 0, .bool false, .string { data := #[] }, .bool false, .int .i64 0] 61 (0, 0))) := Lib.hid (hch.blkN HP4_4.out (by intro e; injection e with e; omega))
          have HP5_5 : Hid (w5.heap[(P2 + 2)]? = some (.cells (mcv (fun _ => 0) (.slice none 0 0)) 36 (0, 0))) := Lib.hid (hch.blk HP5_4.out (by show (36 + 1 : Nat) ≠ _; decide))
          clear hch HB_4 HP4_4 HP5_4
          have HP2_5 := Lib.hid hnew
          clear hnew HP2_4
          go_upto_region 7 with fail
          clear cc40 fz41
          rw [← hw42]
          clear hw42
          go_cut [6] from 40 to 50 (fun s6 wc => ∃ (c' : Nat) (cs5 : Array Value) (f5 : Nat × Nat) (P49 : Nat), s6 = .bool true ∧ Hid (∀ (W : World) (b : Nat), W.heap[b]? = some (.cells cs5 5 f5) → BytesIn W W.heap.size (some ⟨b, 0, none⟩) c' body) ∧ Hid (Below w0.heap.size w0 wc) ∧ Hid (wc.heap[P2]? = some (.cells #[.int .i64 id, .int .i64 seq, .int .i64 epoch, .bool true, .string (str body), .bool true, .int .i64 now] 61 (0, 0))) ∧ Hid (wc.heap[P49]? = some (.cells cs5 5 f5)) ∧ Hid (wc.heap[(P2 + 1)]? = some (.cells #[.int .i64 id, .int .i64 seq, .int .i64 epoch, .bool true, .string (str body), .bool true, .int .i64 now] 61 (0, 0))) ∧ Hid (wc.heap[(P2 + 2)]? = some (.cells #[.int .i64 7, .int .i64 epoch, .int .i64 0, .int .i64 0, .int .i64 0, .int .i64 0, .int .i64 0, .int .i64 0, .int .i64 0, .int .i64 0, .int .i64 0, .int .i64 0, .int .i64 0, .int .i64 0, .int .i64 0, .int .i64 id, .int .i64 seq, .slice ((some ⟨P49, 0, none⟩)) body.length c', .int .i64 0, .int .i64 0, .int .i64 0] 36 (0, 0))))
          case first =>
            have HB_6 : Hid (Below w0.heap.size w0 w5.drew) := Lib.hid (HB_5.out.trans (((Below.refl w5.heap.size w5).drew).mono HB_5.out.size))
            have HP4_6 : Hid (w5.drew.heap[(P2 + 1)]? = some (.cells #[.int .i64 0, .int .i64 0, .int .i64 0, .bool false, .string { data := #[] }, .bool false, .int .i64 0] 61 (0, 0))) := Lib.hid ((((Below.refl w5.heap.size w5).drew).block (P2 + 1) (ltb HP4_5.out)).trans HP4_5.out)
            have HP5_6 : Hid (w5.drew.heap[(P2 + 2)]? = some (.cells (mcv (fun _ => 0) (.slice none 0 0)) 36 (0, 0))) := Lib.hid ((((Below.refl w5.heap.size w5).drew).block (P2 + 2) (ltb HP5_5.out)).trans HP5_5.out)
            have HP2_6 : Hid (w5.drew.heap[P2]? = some (.cells #[.int .i64 id, .int .i64 seq, .int .i64 epoch, .bool true, .string (str body), .bool true, .int .i64 now] 61 (0, 0))) := Lib.hid ((((Below.refl w5.heap.size w5).drew).block P2 (ltb HP2_5.out)).trans HP2_5.out)
            clear HB_5 HP4_5 HP5_5 HP2_5
            have FP2 : w5.drew.heap[P2]? = some (.cells #[.int .i64 id, .int .i64 seq, .int .i64 epoch, .bool true, .string (str body), .bool true, .int .i64 now] 61 (0, 0)) := HP2_6.out
            refine wp_region_noPanic ?_
            refine wp_region_held_drew (S := fun w' => w'.heap[P2]? = some (.cells #[.int .i64 id, .int .i64 seq, .int .i64 epoch, .bool true, .string (str body), .bool true, .int .i64 now] 61 (0, 0))) (by kernel_rfl) ?_ (fun hHeld => ?_)
            · try dsimp only
              (refine ?_ <;> (first | with_reducible assumption))
            generalize w5.drew = w6 at *
            refine wpAnyH_take (i := 0) (v := ?_) (by (simp only [List.getElem?_toArray, List.getElem?_cons_zero]; rfl)) (by kernel_rfl) (by kernel_rfl) (by kernel_rfl) (fun _ _ _ h => h) (Or.inl ⟨by rfl, ?_⟩) (by assumption) ?_
            rotate_left
            · intro w hSw
              try dsimp only at hSw
              refine take_load (x := .tmp 2) (ty := 61) ?_ P2 ?_ 61 _ (0, 0) _ hSw Try.underlying61 rfl (by kernel_rfl)
              all_goals rfl
            try simp only [Act.put, List.setIfInBounds_toArray, List.set_cons_zero, List.set_cons_succ]
            refine wpAnyH_take (i := 1) (v := ?_) (by (simp only [List.getElem?_toArray, List.getElem?_cons_succ, List.getElem?_cons_zero]; rfl)) (by kernel_rfl) (by kernel_rfl) (by kernel_rfl) (fun _ _ _ h => h) (Or.inl ⟨by rfl, ?_⟩) (by assumption) ?_
            rotate_left
            · (intro w hSw; (try dsimp only at hSw); go_simp; try with_reducible rfl)
            try simp only [Act.put, List.setIfInBounds_toArray, List.set_cons_zero, List.set_cons_succ]
            refine wpAnyH_take (i := 2) (v := ?_) (by (simp only [List.getElem?_toArray, List.getElem?_cons_succ, List.getElem?_cons_zero]; rfl)) (by kernel_rfl) (by kernel_rfl) (by kernel_rfl) (fun _ _ _ h => h) (Or.inl ⟨by rfl, ?_⟩) (by assumption) ?_
            rotate_left
            · intro w hSw
              try dsimp only at hSw
              have x0 : w.cell? ⟨P2, 2, none⟩ = some (.int .i64 epoch) := (cellb (i := 2) hSw rfl)
              go_simp; try with_reducible rfl
            try simp only [Act.put, List.setIfInBounds_toArray, List.set_cons_zero, List.set_cons_succ]
            refine wpAnyH_take (i := 3) (v := ?_) (by (simp only [List.getElem?_toArray, List.getElem?_cons_succ, List.getElem?_cons_zero]; rfl)) (by kernel_rfl) (by kernel_rfl) (by kernel_rfl) (fun _ _ _ h => h) (Or.inl ⟨by rfl, ?_⟩) (by assumption) ?_
            rotate_left
            · (intro w hSw; (try dsimp only at hSw); go_simp; try with_reducible rfl)
            try simp only [Act.put, List.setIfInBounds_toArray, List.set_cons_zero, List.set_cons_succ]
            refine wpAnyH_take (i := 4) (v := ?_) (by (simp only [List.getElem?_toArray, List.getElem?_cons_succ, List.getElem?_cons_zero]; rfl)) (by kernel_rfl) (by kernel_rfl) (by kernel_rfl) (fun _ _ _ h => h) (Or.inl ⟨by rfl, ?_⟩) (by assumption) ?_
            rotate_left
            · intro w hSw
              try dsimp only at hSw
              have x0 : w.cell? ⟨P2, 0, none⟩ = some (.int .i64 id) := (cellb (i := 0) hSw rfl)
              go_simp; try with_reducible rfl
            try simp only [Act.put, List.setIfInBounds_toArray, List.set_cons_zero, List.set_cons_succ]
            refine wpAnyH_take (i := 5) (v := ?_) (by (simp only [List.getElem?_toArray, List.getElem?_cons_succ, List.getElem?_cons_zero]; rfl)) (by kernel_rfl) (by kernel_rfl) (by kernel_rfl) (fun _ _ _ h => h) (Or.inl ⟨by rfl, ?_⟩) (by assumption) ?_
            rotate_left
            · (intro w hSw; (try dsimp only at hSw); go_simp; try with_reducible rfl)
            try simp only [Act.put, List.setIfInBounds_toArray, List.set_cons_zero, List.set_cons_succ]
            refine wpAnyH_take (i := 6) (v := ?_) (by (simp only [List.getElem?_toArray, List.getElem?_cons_succ, List.getElem?_cons_zero]; rfl)) (by kernel_rfl) (by kernel_rfl) (by kernel_rfl) (fun _ _ _ h => h) (Or.inl ⟨by rfl, ?_⟩) (by assumption) ?_
            rotate_left
            · intro w hSw
              try dsimp only at hSw
              have x0 : w.cell? ⟨P2, 1, none⟩ = some (.int .i64 seq) := (cellb (i := 1) hSw rfl)
              go_simp; try with_reducible rfl
            try simp only [Act.put, List.setIfInBounds_toArray, List.set_cons_zero, List.set_cons_succ]
            refine wpAnyH_take (i := 7) (v := ?_) (by (simp only [List.getElem?_toArray, List.getElem?_cons_succ, List.getElem?_cons_zero]; rfl)) (by kernel_rfl) (by kernel_rfl) (by kernel_rfl) (fun _ _ _ h => h) (Or.inl ⟨by rfl, ?_⟩) (by assumption) ?_
            rotate_left
            · (intro w hSw; (try dsimp only at hSw); go_simp; try with_reducible rfl)
            try simp only [Act.put, List.setIfInBounds_toArray, List.set_cons_zero, List.set_cons_succ]
            refine wpAnyH_take (i := 8) (v := ?_) (by (simp only [List.getElem?_toArray, List.getElem?_cons_succ, List.getElem?_cons_zero]; rfl)) (by kernel_rfl) (by kernel_rfl) (by kernel_rfl) (fun _ _ _ h => h) (Or.inl ⟨by rfl, ?_⟩) (by assumption) ?_
            rotate_left
            · intro w hSw
              try dsimp only at hSw
              have x0 : w.cell? ⟨P2, 4, none⟩ = some (.string (str body)) := (cellb (i := 4) hSw rfl)
              go_simp; try with_reducible rfl
            try simp only [Act.put, List.setIfInBounds_toArray, List.set_cons_zero, List.set_cons_succ]
            refine wpAnyH_ready (rs := [9, 11]) (by kernel_rfl) (by simp) ?_
            refine AllReadyH.cons (by (simp only [List.getElem?_toArray, List.getElem?_cons_succ, List.getElem?_cons_zero]; rfl)) (fun K hK => ?_) (AllReadyH.cons (by (simp only [List.getElem?_toArray, List.getElem?_cons_succ, List.getElem?_cons_zero]; rfl)) (fun K hK => ?_) AllReadyH.nil)
            · skip
              obtain ⟨c', cs5, f5, hcv, hby⟩ := conv_x body w6 (by omega)
              go_simp
              clear hcv
              have HBY := Lib.hid hby
              clear hby
              obtain ⟨P49, hP49⟩ : ∃ x, x = w6.heap.size := ⟨_, rfl⟩
              obtain ⟨w7, hw43⟩ : ∃ y, y = (w6.alloc (.cells cs5 5 f5)).drew := ⟨_, rfl⟩
              have hal : Below w6.heap.size w6 w7 := by rw [hw43]; exact ((Below.refl _ _).alloc (Nat.le_refl _) _).drew
              have hnew : w7.heap[P49]? = some (.cells cs5 5 f5) := by rw [hw43, hP49]; exact heap_alloc_new w6 _
              have HB_7 : Hid (Below w0.heap.size w0 w7) := Lib.hid (HB_6.out.trans (hal.mono HB_6.out.size))
              have HP4_7 : Hid (w7.heap[(P2 + 1)]? = some (.cells #[.int .i64 0, .int .i64 0, .int .i64 0, .bool false, .string { data := #[] }, .bool false, .int .i64 0] 61 (0, 0))) := Lib.hid ((hal.block (P2 + 1) (ltb HP4_6.out)).trans HP4_6.out)
              have HP5_7 : Hid (w7.heap[(P2 + 2)]? = some (.cells (mcv (fun _ => 0) (.slice none 0 0)) 36 (0, 0))) := Lib.hid ((hal.block (P2 + 2) (ltb HP5_6.out)).trans HP5_6.out)
              have HP2_7 : Hid (w7.heap[P2]? = some (.cells #[.int .i64 id, .int .i64 seq, .int .i64 epoch, .bool true, .string (str body), .bool true, .int .i64 now] 61 (0, 0))) := Lib.hid ((hal.block P2 (ltb HP2_6.out)).trans HP2_6.out)
              clear hal HB_6 HP4_6 HP5_6 HP2_6
              have HP49_7 := Lib.hid hnew
              clear hnew
              rw [← hw43]
              clear hw43
              rw [← hP49]
              clear hP49
              have FP2' : w7.heap[P2]? = some (.cells #[.int .i64 id, .int .i64 seq, .int .i64 epoch, .bool true, .string (str body), .bool true, .int .i64 now] 61 (0, 0)) := HP2_7.out
              clear FP2
              have FP2 := FP2'
              clear FP2'
              refine hK.out _ _ ?_ (fun hHeld => ?_)
              · try dsimp only
                (refine ?_ <;> (first | with_reducible assumption))
              clear hK K
              try simp only [Act.put, List.setIfInBounds_toArray, List.set_cons_zero, List.set_cons_succ]
              refine wpAnyH_take (i := 10) (v := ?_) (by (simp only [List.getElem?_toArray, List.getElem?_cons_succ, List.getElem?_cons_zero]; rfl)) (by kernel_rfl) (by kernel_rfl) (by kernel_rfl) (fun _ _ _ h => h) (Or.inl ⟨by rfl, ?_⟩) (by assumption) ?_
              rotate_left
              · (intro w hSw; (try dsimp only at hSw); go_simp; try with_reducible rfl)
              try simp only [Act.put, List.setIfInBounds_toArray, List.set_cons_zero, List.set_cons_succ]
              refine wpAnyH_ready (rs := [11]) (by kernel_rfl) (by simp) ?_
              refine AllReadyH.cons (by (simp only [List.getElem?_toArray, List.getElem?_cons_succ, List.getElem?_cons_zero]; rfl)) (fun K hK => ?_) AllReadyH.nil
              refine wp_store_row 61 (.tmp 4) (.tmp 40) rfl (P2 + 1) _ rfl rfl 61 _ HP4_7.out (by kernel_rfl) rfl (by simp [Value.oneCell']) ?_
              obtain ⟨w8, hw44⟩ : ∃ y, y = w7.setRow (P2 + 1) #[.int .i64 id, .int .i64 seq, .int .i64 epoch, .bool true, .string (str body), .bool true, .int .i64 now] := ⟨_, rfl⟩
              have hch := Ch.ofRow HP4_7.out #[.int .i64 id, .int .i64 seq, .int .i64 epoch, .bool true, .string (str body), .bool true, .int .i64 now]
              rw [← hw44] at hch
              have hnew : w8.heap[(P2 + 1)]? = some (.cells #[.int .i64 id, .int .i64 seq, .int .i64 epoch, .bool true, .string (str body), .bool true, .int .i64 now] 61 (0, 0)) := by rw [hw44]; exact setRow_heap _ _ _ _ _ _ HP4_7.out
              have HB_8 : Hid (Below w0.heap.size w0 w8) := Lib.hid (hch.below HB_7.out HB_7.out.size (fun k hk => by injection hk with hk; omega))
              have HP5_8 : Hid (w8.heap[(P2 + 2)]? = some (.cells (mcv (fun _ => 0) (.slice none 0 0)) 36 (0, 0))) := Lib.hid (hch.blk HP5_7.out (by show (36 + 1 : Nat) ≠ _; decide))
              have HP2_8 : Hid (w8.heap[P2]? = some (.cells #[.int .i64 id, .int .i64 seq, .int .i64 epoch, .bool true, .string (str body), .bool true, .int .i64 now] 61 (0, 0))) := Lib.hid (hch.blkN HP2_7.out (by intro e; injection e with e; omega))
              have HP49_8 : Hid (w8.heap[P49]? = some (.cells cs5 5 f5)) := Lib.hid (hch.blk HP49_7.out (by show (5 + 1 : Nat) ≠ _; decide))
              clear hch HB_7 HP5_7 HP2_7 HP49_7
              have HP4_8 := Lib.hid hnew
              clear hnew HP4_7
              rw [← hw44]
              clear hw44
              have FP2' : w8.heap[P2]? = some (.cells #[.int .i64 id, .int .i64 seq, .int .i64 epoch, .bool true, .string (str body), .bool true, .int .i64 now] 61 (0, 0)) := HP2_8.out
              clear FP2
              have FP2 := FP2'
              clear FP2'
              refine hK.out _ _ ?_ (fun hHeld => ?_)
              · try dsimp only
                (refine ?_ <;> (first | with_reducible assumption))
              clear hK K
              try simp only [Act.put]
              refine wpAnyH_ready (rs := [12]) (by kernel_rfl) (by simp) ?_
              refine AllReadyH.cons (by (simp only [List.getElem?_toArray, List.getElem?_cons_succ, List.getElem?_cons_zero]; rfl)) (fun K hK => ?_) AllReadyH.nil
              refine wp_store_row 36 (.tmp 5) (.tmp 50) rfl (P2 + 2) _ rfl rfl 36 _ HP5_8.out (by kernel_rfl) rfl (by simp [Value.oneCell']) ?_
              obtain ⟨w9, hw45⟩ : ∃ y, y = w8.setRow (P2 + 2) #[.int .i64 7, .int .i64 epoch, .int .i64 0, .int .i64 0, .int .i64 0, .int .i64 0, .int .i64 0, .int .i64 0, .int .i64 0, .int .i64 0, .int .i64 0, .int .i64 0, .int .i64 0, .int .i64 0, .int .i64 0, .int .i64 id, .int .i64 seq, .slice ((some ⟨P49, 0, none⟩)) body.length c', .int .i64 0, .int .i64 0, .int .i64 0] := ⟨_, rfl⟩
              have hch := Ch.ofRow HP5_8.out #[.int .i64 7, .int .i64 epoch, .int .i64 0, .int .i64 0, .int .i64 0, .int .i64 0, .int .i64 0, .int .i64 0, .int .i64 0, .int .i64 0, .int .i64 0, .int .i64 0, .int .i64 0, .int .i64 0, .int .i64 0, .int .i64 id, .int .i64 seq, .slice ((some ⟨P49, 0, none⟩)) body.length c', .int .i64 0, .int .i64 0, .int .i64 0]
              rw [← hw45] at hch
              have hnew : w9.heap[(P2 + 2)]? = some (.cells #[.int .i64 7, .int .i64 epoch, .int .i64 0, .int .i64 0, .int .i64 0, .int .i64 0, .int .i64 0, .int .i64 0, .int .i64 0, .int .i64 0, .int .i64 0, .int .i64 0, .int .i64 0, .int .i64 0, .int .i64 0, .int .i64 id, .int .i64 seq, .slice ((some ⟨P49, 0, none⟩)) body.length c', .int .i64 0, .int .i64 0, .int .i64 0] 36 (0, 0)) := by rw [hw45]; exact setRow_heap _ _ _ _ _ _ HP5_8.out
              have HB_9 : Hid (Below w0.heap.size w0 w9) := Lib.hid (hch.below HB_8.out HB_8.out.size (fun k hk => by injection hk with hk; omega))
              have HP2_9 : Hid (w9.heap[P2]? = some (.cells #[.int .i64 id, .int .i64 seq, .int .i64 epoch, .bool true, .string (str body), .bool true, .int .i64 now] 61 (0, 0))) := Lib.hid (hch.blk HP2_8.out (by show (61 + 1 : Nat) ≠ _; decide))
              have HP49_9 : Hid (w9.heap[P49]? = some (.cells cs5 5 f5)) := Lib.hid (hch.blk HP49_8.out (by show (5 + 1 : Nat) ≠ _; decide))
              have HP4_9 : Hid (w9.heap[(P2 + 1)]? = some (.cells #[.int .i64 id, .int .i64 seq, .int .i64 epoch, .bool true, .string (str body), .bool true, .int .i64 now] 61 (0, 0))) := Lib.hid (hch.blk HP4_8.out (by show (61 + 1 : Nat) ≠ _; decide))
              clear hch HB_8 HP2_8 HP49_8 HP4_8
              have HP5_9 := Lib.hid hnew
              clear hnew HP5_8
              rw [← hw45]
              clear hw45
              have FP2' : w9.heap[P2]? = some (.cells #[.int .i64 id, .int .i64 seq, .int .i64 epoch, .bool true, .string (str body), .bool true, .int .i64 now] 61 (0, 0)) := HP2_9.out
              clear FP2
              have FP2 := FP2'
              clear FP2'
              refine hK.out _ _ ?_ (fun hHeld => ?_)
              · try dsimp only
                (refine ?_ <;> (first | with_reducible assumption))
              clear hK K
              try simp only [Act.put]
              refine wpAnyH_take (i := 13) (v := ?_) (by (simp only [List.getElem?_toArray, List.getElem?_cons_succ, List.getElem?_cons_zero]; rfl)) (by kernel_rfl) (by kernel_rfl) (by kernel_rfl) (fun _ _ _ h => h) (Or.inl ⟨by rfl, ?_⟩) (by assumption) ?_
              rotate_left
              · (intro w hSw; (try dsimp only at hSw); go_simp; try with_reducible rfl)
              try simp only [Act.put, List.setIfInBounds_toArray, List.set_cons_zero, List.set_cons_succ]
              refine wpAnyH_done (by kernel_rfl) ?_ _
              refine NoPanic.normal ?_
              clear hHeld FP2
              go_wp2_with fail
              go_meet
              case rel => exact ⟨c', cs5, f5, P49, rfl, HBY, HB_9, HP2_9, HP49_9, HP4_9, HP5_9⟩
            · skip
              refine wp_store_row 61 (.tmp 4) (.tmp 40) rfl (P2 + 1) _ rfl rfl 61 _ HP4_6.out (by kernel_rfl) rfl (by simp [Value.oneCell']) ?_
              obtain ⟨w7, hw43⟩ : ∃ y, y = w6.setRow (P2 + 1) #[.int .i64 id, .int .i64 seq, .int .i64 epoch, .bool true, .string (str body), .bool true, .int .i64 now] := ⟨_, rfl⟩
              have hch := Ch.ofRow HP4_6.out #[.int .i64 id, .int .i64 seq, .int .i64 epoch, .bool true, .string (str body), .bool true, .int .i64 now]
              rw [← hw43] at hch
              have hnew : w7.heap[(P2 + 1)]? = some (.cells #[.int .i64 id, .int .i64 seq, .int .i64 epoch, .bool true, .string (str body), .bool true, .int .i64 now] 61 (0, 0)) := by rw [hw43]; exact setRow_heap _ _ _ _ _ _ HP4_6.out
              have HB_7 : Hid (Below w0.heap.size w0 w7) := Lib.hid (hch.below HB_6.out HB_6.out.size (fun k hk => by injection hk with hk; omega))
              have HP5_7 : Hid (w7.heap[(P2 + 2)]? = some (.cells (mcv (fun _ => 0) (.slice none 0 0)) 36 (0, 0))) := Lib.hid (hch.blk HP5_6.out (by show (36 + 1 : Nat) ≠ _; decide))
              have HP2_7 : Hid (w7.heap[P2]? = some (.cells #[.int .i64 id, .int .i64 seq, .int .i64 epoch, .bool true, .string (str body), .bool true, .int .i64 now] 61 (0, 0))) := Lib.hid (hch.blkN HP2_6.out (by intro e; injection e with e; omega))
              clear hch HB_6 HP5_6 HP2_6
              have HP4_7 := Lib.hid hnew
              clear hnew HP4_6
              rw [← hw43]
              clear hw43
              have FP2' : w7.heap[P2]? = some (.cells #[.int .i64 id, .int .i64 seq, .int .i64 epoch, .bool true, .string (str body), .bool true, .int .i64 now] 61 (0, 0)) := HP2_7.out
              clear FP2
              have FP2 := FP2'
              clear FP2'
              refine hK.out _ _ ?_ (fun hHeld => ?_)
              · try dsimp only
                (refine ?_ <;> (first | with_reducible assumption))
              clear hK K
              try simp only [Act.put]
              refine wpAnyH_ready (rs := [9]) (by kernel_rfl) (by simp) ?_
              refine AllReadyH.cons (by (simp only [List.getElem?_toArray, List.getElem?_cons_succ, List.getElem?_cons_zero]; rfl)) (fun K hK => ?_) AllReadyH.nil
              obtain ⟨c', cs5, f5, hcv, hby⟩ := conv_x body w7 (by omega)
              go_simp
              clear hcv
              have HBY := Lib.hid hby
              clear hby
              obtain ⟨P49, hP49⟩ : ∃ x, x = w7.heap.size := ⟨_, rfl⟩
              obtain ⟨w8, hw46⟩ : ∃ y, y = (w7.alloc (.cells cs5 5 f5)).drew := ⟨_, rfl⟩
              have hal : Below w7.heap.size w7 w8 := by rw [hw46]; exact ((Below.refl _ _).alloc (Nat.le_refl _) _).drew
              have hnew : w8.heap[P49]? = some (.cells cs5 5 f5) := by rw [hw46, hP49]; exact heap_alloc_new w7 _
              have HB_8 : Hid (Below w0.heap.size w0 w8) := Lib.hid (HB_7.out.trans (hal.mono HB_7.out.size))
              have HP5_8 : Hid (w8.heap[(P2 + 2)]? = some (.cells (mcv (fun _ => 0) (.slice none 0 0)) 36 (0, 0))) := Lib.hid ((hal.block (P2 + 2) (ltb HP5_7.out)).trans HP5_7.out)
              have HP2_8 : Hid (w8.heap[P2]? = some (.cells #[.int .i64 id, .int .i64 seq, .int .i64 epoch, .bool true, .string (str body), .bool true, .int .i64 now] 61 (0, 0))) := Lib.hid ((hal.block P2 (ltb HP2_7.out)).trans HP2_7.out)
              have HP4_8 : Hid (w8.heap[(P2 + 1)]? = some (.cells #[.int .i64 id, .int .i64 seq, .int .i64 epoch, .bool true, .string (str body), .bool true, .int .i64 now] 61 (0, 0))) := Lib.hid ((hal.block (P2 + 1) (ltb HP4_7.out)).trans HP4_7.out)
              clear hal HB_7 HP5_7 HP2_7 HP4_7
              have HP49_8 := Lib.hid hnew
              clear hnew
              rw [← hw46]
              clear hw46
              rw [← hP49]
              clear hP49
              have FP2' : w8.heap[P2]? = some (.cells #[.int .i64 id, .int .i64 seq, .int .i64 epoch, .bool true, .string (str body), .bool true, .int .i64 now] 61 (0, 0)) := HP2_8.out
              clear FP2
              have FP2 := FP2'
              clear FP2'
              refine hK.out _ _ ?_ (fun hHeld => ?_)
              · try dsimp only
                (refine ?_ <;> (first | with_reducible assumption))
              clear hK K
              try simp only [Act.put, List.setIfInBounds_toArray, List.set_cons_zero, List.set_cons_succ]
              refine wpAnyH_take (i := 10) (v := ?_) (by (simp only [List.getElem?_toArray, List.getElem?_cons_succ, List.getElem?_cons_zero]; rfl)) (by kernel_rfl) (by kernel_rfl) (by kernel_rfl) (fun _ _ _ h => h) (Or.inl ⟨by rfl, ?_⟩) (by assumption) ?_
              rotate_left
              · (intro w hSw; (try dsimp only at hSw); go_simp; try with_reducible rfl)
              try simp only [Act.put, List.setIfInBounds_toArray, List.set_cons_zero, List.set_cons_succ]
              refine wpAnyH_ready (rs := [12]) (by kernel_rfl) (by simp) ?_
              refine AllReadyH.cons (by (simp only [List.getElem?_toArray, List.getElem?_cons_succ, List.getElem?_cons_zero]; rfl)) (fun K hK => ?_) AllReadyH.nil
              refine wp_store_row 36 (.tmp 5) (.tmp 50) rfl (P2 + 2) _ rfl rfl 36 _ HP5_8.out (by kernel_rfl) rfl (by simp [Value.oneCell']) ?_
              obtain ⟨w9, hw47⟩ : ∃ y, y = w8.setRow (P2 + 2) #[.int .i64 7, .int .i64 epoch, .int .i64 0, .int .i64 0, .int .i64 0, .int .i64 0, .int .i64 0, .int .i64 0, .int .i64 0, .int .i64 0, .int .i64 0, .int .i64 0, .int .i64 0, .int .i64 0, .int .i64 0, .int .i64 id, .int .i64 seq, .slice ((some ⟨P49, 0, none⟩)) body.length c', .int .i64 0, .int .i64 0, .int .i64 0] := ⟨_, rfl⟩
              have hch := Ch.ofRow HP5_8.out #[.int .i64 7, .int .i64 epoch, .int .i64 0, .int .i64 0, .int .i64 0, .int .i64 0, .int .i64 0, .int .i64 0, .int .i64 0, .int .i64 0, .int .i64 0, .int .i64 0, .int .i64 0, .int .i64 0, .int .i64 0, .int .i64 id, .int .i64 seq, .slice ((some ⟨P49, 0, none⟩)) body.length c', .int .i64 0, .int .i64 0, .int .i64 0]
              rw [← hw47] at hch
              have hnew : w9.heap[(P2 + 2)]? = some (.cells #[.int .i64 7, .int .i64 epoch, .int .i64 0, .int .i64 0, .int .i64 0, .int .i64 0, .int .i64 0, .int .i64 0, .int .i64 0, .int .i64 0, .int .i64 0, .int .i64 0, .int .i64 0, .int .i64 0, .int .i64 0, .int .i64 id, .int .i64 seq, .slice ((some ⟨P49, 0, none⟩)) body.length c', .int .i64 0, .int .i64 0, .int .i64 0] 36 (0, 0)) := by rw [hw47]; exact setRow_heap _ _ _ _ _ _ HP5_8.out
              have HB_9 : Hid (Below w0.heap.size w0 w9) := Lib.hid (hch.below HB_8.out HB_8.out.size (fun k hk => by injection hk with hk; omega))
              have HP2_9 : Hid (w9.heap[P2]? = some (.cells #[.int .i64 id, .int .i64 seq, .int .i64 epoch, .bool true, .string (str body), .bool true, .int .i64 now] 61 (0, 0))) := Lib.hid (hch.blk HP2_8.out (by show (61 + 1 : Nat) ≠ _; decide))
              have HP4_9 : Hid (w9.heap[(P2 + 1)]? = some (.cells #[.int .i64 id, .int .i64 seq, .int .i64 epoch, .bool true, .string (str body), .bool true, .int .i64 now] 61 (0, 0))) := Lib.hid (hch.blk HP4_8.out (by show (61 + 1 : Nat) ≠ _; decide))
              have HP49_9 : Hid (w9.heap[P49]? = some (.cells cs5 5 f5)) := Lib.hid (hch.blk HP49_8.out (by show (5 + 1 : Nat) ≠ _; decide))
              clear hch HB_8 HP2_8 HP4_8 HP49_8
              have HP5_9 := Lib.hid hnew
              clear hnew HP5_8
              rw [← hw47]
              clear hw47
              have FP2' : w9.heap[P2]? = some (.cells #[.int .i64 id, .int .i64 seq, .int .i64 epoch, .bool true, .string (str body), .bool true, .int .i64 now] 61 (0, 0)) := HP2_9.out
              clear FP2
              have FP2 := FP2'
              clear FP2'
              refine hK.out _ _ ?_ (fun hHeld => ?_)
              · try dsimp only
                (refine ?_ <;> (first | with_reducible assumption))
              clear hK K
              try simp only [Act.put]
              refine wpAnyH_take (i := 13) (v := ?_) (by (simp only [List.getElem?_toArray, List.getElem?_cons_succ, List.getElem?_cons_zero]; rfl)) (by kernel_rfl) (by kernel_rfl) (by kernel_rfl) (fun _ _ _ h => h) (Or.inl ⟨by rfl, ?_⟩) (by assumption) ?_
              rotate_left
              · (intro w hSw; (try dsimp only at hSw); go_simp; try with_reducible rfl)
              try simp only [Act.put, List.setIfInBounds_toArray, List.set_cons_zero, List.set_cons_succ]
              refine wpAnyH_done (by kernel_rfl) ?_ _
              refine NoPanic.normal ?_
              clear hHeld FP2
              go_wp2_with fail
              go_meet
              case rel => exact ⟨c', cs5, f5, P49, rfl, HBY, HB_9, HP2_9, HP49_9, HP4_9, HP5_9⟩
          case rest =>
          obtain ⟨w9, rfl⟩ : ∃ y : World, y = wc := ⟨_, rfl⟩
          obtain ⟨c', cs5, f5, P49, rfl, HBY, HB_9, HP2_9, HP49_9, HP4_9, HP5_9⟩ := hcut
          go_wp2_with fail
          refine bodyPost_ret (v := .tuple #[.agg #[.int .i64 id, .int .i64 seq, .int .i64 epoch, .bool true, .string (str body), .bool true, .int .i64 now], .agg #[.int .i64 7, .int .i64 epoch, .int .i64 0, .int .i64 0, .int .i64 0, .int .i64 0, .int .i64 0, .int .i64 0, .int .i64 0, .int .i64 0, .int .i64 0, .int .i64 0, .int .i64 0, .int .i64 0, .int .i64 0, .int .i64 id, .int .i64 seq, .slice ((some ⟨P49, 0, none⟩)) body.length c', .int .i64 0, .int .i64 0, .int .i64 0], .bool true]) (results_cc Try.results20 Try.underlying61 Try.underlying36 _ _ (P2 + 1) (P2 + 2) _ _ rfl rfl HP4_9.out HP5_9.out (by kernel_rfl) (by kernel_rfl)) rfl ?_
          exact ⟨fun h => absurd h HNO.out, fun _ => ⟨P49, c', cs5, f5, rfl, HP49_9.out, fun W h => HBY.out W _ h⟩, HB_9.out⟩
        · skip
          have HNO : Hid (¬ SendNo ⟨id, seq, epoch, true, true, at_, body⟩ now) := Lib.hid (by unfold SendNo; simp; omega)
          have cc48 : w3.cell? ⟨P2, 5, none⟩ = some (.bool true) := cellb (i := 5) HP2_3.out rfl
          have cc49 : w3.cell? ⟨P2, 6, none⟩ = some (.int .i64 at_) := cellb (i := 6) HP2_3.out rfl
          have cc50 : w3.cell? ⟨P2, 6, none⟩ = some (.int .i64 at_) := cellb (i := 6) HP2_3.out rfl
          have cc51 : w3.cell? ⟨P2, 5, none⟩ = some (.bool true) := cellb (i := 5) HP2_3.out rfl
          have fz52 : w3.frozen? ⟨P2, 5, none⟩ = false := fzb HP2_3.out 5
          obtain ⟨w4, hw53⟩ : ∃ y, y = w3.setCell ⟨P2, 5, none⟩ (.bool true) := ⟨_, rfl⟩
          have hch := Ch.ofCell (i := 5) HP2_3.out (.bool true)
          rw [← hw53] at hch
          have hnew : w4.heap[P2]? = some (.cells #[.int .i64 id, .int .i64 seq, .int .i64 epoch, .bool true, .string (str body), .bool true, .int .i64 at_] 61 (0, 0)) := by rw [hw53]; exact set_blk HP2_3.out _
          have HB_4 : Hid (Below w0.heap.size w0 w4) := Lib.hid (hch.below HB_3.out HB_3.out.size (fun k hk => by injection hk with hk; omega))
          have HP4_4 : Hid (w4.heap[(P2 + 1)]? = some (.cells #[.int .i64 0, .int .i64 0, .int .i64 0, .bool false, .string { data := #[] }, .bool false, .int .i64 0] 61 (0, 0))) := Lib.hid (hch.blkN HP4_3.out (by intro e; injection e with e; omega))
          have HP5_4 : Hid (w4.heap[(P2 + 2)]? = some (.cells (mcv (fun _ => 0) (.slice none 0 0)) 36 (0, 0))) := Lib.hid (hch.blk HP5_3.out (by show (36 + 1 : Nat) ≠ _; decide))
          clear hch HB_3 HP4_3 HP5_3
          have HP2_4 := Lib.hid hnew
          clear hnew HP2_3
          go_upto_region 6 with fail
          clear cc48 cc49 cc50 cc51 fz52
          rw [← hw53]
          clear hw53
          have cc54 : w4.cell? ⟨P2, 6, none⟩ = some (.int .i64 at_) := cellb (i := 6) HP2_4.out rfl
          have fz55 : w4.frozen? ⟨P2, 6, none⟩ = false := fzb HP2_4.out 6
          obtain ⟨w5, hw56⟩ : ∃ y, y = w4.setCell ⟨P2, 6, none⟩ (.int .i64 now) := ⟨_, rfl⟩
          have hch := Ch.ofCell (i := 6) HP2_4.out (.int .i64 now)
          rw [← hw56] at hch
          have hnew : w5.heap[P2]? = some (.cells #[.int .i64 id, .int .i64 seq, .int .i64 epoch, .bool true, .string (str body), .bool true, .int .i64 now] 61 (0, 0)) := by rw [hw56]; exact set_blk HP2_4.out _
          have HB_5 : Hid (Below w0.heap.size w0 w5) := Lib.hid (hch.below HB_4.out HB_4.out.size (fun k hk => by injection hk with hk; omega))
          have HP4_5 : Hid (w5.heap[(P2 + 1)]? = some (.cells #[.int .i64 0, .int .i64 0, .int .i64 0, .bool false, .string { data := #[] }, .bool false, .int .i64 0] 61 (0, 0))) := Lib.hid (hch.blkN HP4_4.out (by intro e; injection e with e; omega))
          have HP5_5 : Hid (w5.heap[(P2 + 2)]? = some (.cells (mcv (fun _ => 0) (.slice none 0 0)) 36 (0, 0))) := Lib.hid (hch.blk HP5_4.out (by show (36 + 1 : Nat) ≠ _; decide))
          clear hch HB_4 HP4_4 HP5_4
          have HP2_5 := Lib.hid hnew
          clear hnew HP2_4
          go_upto_region 7 with fail
          clear cc54 fz55
          rw [← hw56]
          clear hw56
          go_cut [6] from 40 to 50 (fun s6 wc => ∃ (c' : Nat) (cs5 : Array Value) (f5 : Nat × Nat) (P49 : Nat), s6 = .bool true ∧ Hid (∀ (W : World) (b : Nat), W.heap[b]? = some (.cells cs5 5 f5) → BytesIn W W.heap.size (some ⟨b, 0, none⟩) c' body) ∧ Hid (Below w0.heap.size w0 wc) ∧ Hid (wc.heap[P2]? = some (.cells #[.int .i64 id, .int .i64 seq, .int .i64 epoch, .bool true, .string (str body), .bool true, .int .i64 now] 61 (0, 0))) ∧ Hid (wc.heap[P49]? = some (.cells cs5 5 f5)) ∧ Hid (wc.heap[(P2 + 1)]? = some (.cells #[.int .i64 id, .int .i64 seq, .int .i64 epoch, .bool true, .string (str body), .bool true, .int .i64 now] 61 (0, 0))) ∧ Hid (wc.heap[(P2 + 2)]? = some (.cells #[.int .i64 7, .int .i64 epoch, .int .i64 0, .int .i64 0, .int .i64 0, .int .i64 0, .int .i64 0, .int .i64 0, .int .i64 0, .int .i64 0, .int .i64 0, .int .i64 0, .int .i64 0, .int .i64 0, .int .i64 0, .int .i64 id, .int .i64 seq, .slice ((some ⟨P49, 0, none⟩)) body.length c', .int .i64 0, .int .i64 0, .int .i64 0] 36 (0, 0))))
          case first =>
            have HB_6 : Hid (Below w0.heap.size w0 w5.drew) := Lib.hid (HB_5.out.trans (((Below.refl w5.heap.size w5).drew).mono HB_5.out.size))
            have HP4_6 : Hid (w5.drew.heap[(P2 + 1)]? = some (.cells #[.int .i64 0, .int .i64 0, .int .i64 0, .bool false, .string { data := #[] }, .bool false, .int .i64 0] 61 (0, 0))) := Lib.hid ((((Below.refl w5.heap.size w5).drew).block (P2 + 1) (ltb HP4_5.out)).trans HP4_5.out)
            have HP5_6 : Hid (w5.drew.heap[(P2 + 2)]? = some (.cells (mcv (fun _ => 0) (.slice none 0 0)) 36 (0, 0))) := Lib.hid ((((Below.refl w5.heap.size w5).drew).block (P2 + 2) (ltb HP5_5.out)).trans HP5_5.out)
            have HP2_6 : Hid (w5.drew.heap[P2]? = some (.cells #[.int .i64 id, .int .i64 seq, .int .i64 epoch, .bool true, .string (str body), .bool true, .int .i64 now] 61 (0, 0))) := Lib.hid ((((Below.refl w5.heap.size w5).drew).block P2 (ltb HP2_5.out)).trans HP2_5.out)
            clear HB_5 HP4_5 HP5_5 HP2_5
            have FP2 : w5.drew.heap[P2]? = some (.cells #[.int .i64 id, .int .i64 seq, .int .i64 epoch, .bool true, .string (str body), .bool true, .int .i64 now] 61 (0, 0)) := HP2_6.out
            refine wp_region_noPanic ?_
            refine wp_region_held_drew (S := fun w' => w'.heap[P2]? = some (.cells #[.int .i64 id, .int .i64 seq, .int .i64 epoch, .bool true, .string (str body), .bool true, .int .i64 now] 61 (0, 0))) (by kernel_rfl) ?_ (fun hHeld => ?_)
            · try dsimp only
              (refine ?_ <;> (first | with_reducible assumption))
            generalize w5.drew = w6 at *
            refine wpAnyH_take (i := 0) (v := ?_) (by (simp only [List.getElem?_toArray, List.getElem?_cons_zero]; rfl)) (by kernel_rfl) (by kernel_rfl) (by kernel_rfl) (fun _ _ _ h => h) (Or.inl ⟨by rfl, ?_⟩) (by assumption) ?_
            rotate_left
            · intro w hSw
              try dsimp only at hSw
              refine take_load (x := .tmp 2) (ty := 61) ?_ P2 ?_ 61 _ (0, 0) _ hSw Try.underlying61 rfl (by kernel_rfl)
              all_goals rfl
            try simp only [Act.put, List.setIfInBounds_toArray, List.set_cons_zero, List.set_cons_succ]
            refine wpAnyH_take (i := 1) (v := ?_) (by (simp only [List.getElem?_toArray, List.getElem?_cons_succ, List.getElem?_cons_zero]; rfl)) (by kernel_rfl) (by kernel_rfl) (by kernel_rfl) (fun _ _ _ h => h) (Or.inl ⟨by rfl, ?_⟩) (by assumption) ?_
            rotate_left
            · (intro w hSw; (try dsimp only at hSw); go_simp; try with_reducible rfl)
            try simp only [Act.put, List.setIfInBounds_toArray, List.set_cons_zero, List.set_cons_succ]
            refine wpAnyH_take (i := 2) (v := ?_) (by (simp only [List.getElem?_toArray, List.getElem?_cons_succ, List.getElem?_cons_zero]; rfl)) (by kernel_rfl) (by kernel_rfl) (by kernel_rfl) (fun _ _ _ h => h) (Or.inl ⟨by rfl, ?_⟩) (by assumption) ?_
            rotate_left
            · intro w hSw
              try dsimp only at hSw
              have x0 : w.cell? ⟨P2, 2, none⟩ = some (.int .i64 epoch) := (cellb (i := 2) hSw rfl)
              go_simp; try with_reducible rfl
            try simp only [Act.put, List.setIfInBounds_toArray, List.set_cons_zero, List.set_cons_succ]
            refine wpAnyH_take (i := 3) (v := ?_) (by (simp only [List.getElem?_toArray, List.getElem?_cons_succ, List.getElem?_cons_zero]; rfl)) (by kernel_rfl) (by kernel_rfl) (by kernel_rfl) (fun _ _ _ h => h) (Or.inl ⟨by rfl, ?_⟩) (by assumption) ?_
            rotate_left
            · (intro w hSw; (try dsimp only at hSw); go_simp; try with_reducible rfl)
            try simp only [Act.put, List.setIfInBounds_toArray, List.set_cons_zero, List.set_cons_succ]
            refine wpAnyH_take (i := 4) (v := ?_) (by (simp only [List.getElem?_toArray, List.getElem?_cons_succ, List.getElem?_cons_zero]; rfl)) (by kernel_rfl) (by kernel_rfl) (by kernel_rfl) (fun _ _ _ h => h) (Or.inl ⟨by rfl, ?_⟩) (by assumption) ?_
            rotate_left
            · intro w hSw
              try dsimp only at hSw
              have x0 : w.cell? ⟨P2, 0, none⟩ = some (.int .i64 id) := (cellb (i := 0) hSw rfl)
              go_simp; try with_reducible rfl
            try simp only [Act.put, List.setIfInBounds_toArray, List.set_cons_zero, List.set_cons_succ]
            refine wpAnyH_take (i := 5) (v := ?_) (by (simp only [List.getElem?_toArray, List.getElem?_cons_succ, List.getElem?_cons_zero]; rfl)) (by kernel_rfl) (by kernel_rfl) (by kernel_rfl) (fun _ _ _ h => h) (Or.inl ⟨by rfl, ?_⟩) (by assumption) ?_
            rotate_left
            · (intro w hSw; (try dsimp only at hSw); go_simp; try with_reducible rfl)
            try simp only [Act.put, List.setIfInBounds_toArray, List.set_cons_zero, List.set_cons_succ]
            refine wpAnyH_take (i := 6) (v := ?_) (by (simp only [List.getElem?_toArray, List.getElem?_cons_succ, List.getElem?_cons_zero]; rfl)) (by kernel_rfl) (by kernel_rfl) (by kernel_rfl) (fun _ _ _ h => h) (Or.inl ⟨by rfl, ?_⟩) (by assumption) ?_
            rotate_left
            · intro w hSw
              try dsimp only at hSw
              have x0 : w.cell? ⟨P2, 1, none⟩ = some (.int .i64 seq) := (cellb (i := 1) hSw rfl)
              go_simp; try with_reducible rfl
            try simp only [Act.put, List.setIfInBounds_toArray, List.set_cons_zero, List.set_cons_succ]
            refine wpAnyH_take (i := 7) (v := ?_) (by (simp only [List.getElem?_toArray, List.getElem?_cons_succ, List.getElem?_cons_zero]; rfl)) (by kernel_rfl) (by kernel_rfl) (by kernel_rfl) (fun _ _ _ h => h) (Or.inl ⟨by rfl, ?_⟩) (by assumption) ?_
            rotate_left
            · (intro w hSw; (try dsimp only at hSw); go_simp; try with_reducible rfl)
            try simp only [Act.put, List.setIfInBounds_toArray, List.set_cons_zero, List.set_cons_succ]
            refine wpAnyH_take (i := 8) (v := ?_) (by (simp only [List.getElem?_toArray, List.getElem?_cons_succ, List.getElem?_cons_zero]; rfl)) (by kernel_rfl) (by kernel_rfl) (by kernel_rfl) (fun _ _ _ h => h) (Or.inl ⟨by rfl, ?_⟩) (by assumption) ?_
            rotate_left
            · intro w hSw
              try dsimp only at hSw
              have x0 : w.cell? ⟨P2, 4, none⟩ = some (.string (str body)) := (cellb (i := 4) hSw rfl)
              go_simp; try with_reducible rfl
            try simp only [Act.put, List.setIfInBounds_toArray, List.set_cons_zero, List.set_cons_succ]
            refine wpAnyH_ready (rs := [9, 11]) (by kernel_rfl) (by simp) ?_
            refine AllReadyH.cons (by (simp only [List.getElem?_toArray, List.getElem?_cons_succ, List.getElem?_cons_zero]; rfl)) (fun K hK => ?_) (AllReadyH.cons (by (simp only [List.getElem?_toArray, List.getElem?_cons_succ, List.getElem?_cons_zero]; rfl)) (fun K hK => ?_) AllReadyH.nil)
            · skip
              obtain ⟨c', cs5, f5, hcv, hby⟩ := conv_x body w6 (by omega)
              go_simp
              clear hcv
              have HBY := Lib.hid hby
              clear hby
              obtain ⟨P49, hP49⟩ : ∃ x, x = w6.heap.size := ⟨_, rfl⟩
              obtain ⟨w7, hw57⟩ : ∃ y, y = (w6.alloc (.cells cs5 5 f5)).drew := ⟨_, rfl⟩
              have hal : Below w6.heap.size w6 w7 := by rw [hw57]; exact ((Below.refl _ _).alloc (Nat.le_refl _) _).drew
              have hnew : w7.heap[P49]? = some (.cells cs5 5 f5) := by rw [hw57, hP49]; exact heap_alloc_new w6 _
              have HB_7 : Hid (Below w0.heap.size w0 w7) := Lib.hid (HB_6.out.trans (hal.mono HB_6.out.size))
              have HP4_7 : Hid (w7.heap[(P2 + 1)]? = some (.cells #[.int .i64 0, .int .i64 0, .int .i64 0, .bool false, .string { data := #[] }, .bool false, .int .i64 0] 61 (0, 0))) := Lib.hid ((hal.block (P2 + 1) (ltb HP4_6.out)).trans HP4_6.out)
              have HP5_7 : Hid (w7.heap[(P2 + 2)]? = some (.cells (mcv (fun _ => 0) (.slice none 0 0)) 36 (0, 0))) := Lib.hid ((hal.block (P2 + 2) (ltb HP5_6.out)).trans HP5_6.out)
              have HP2_7 : Hid (w7.heap[P2]? = some (.cells #[.int .i64 id, .int .i64 seq, .int .i64 epoch, .bool true, .string (str body), .bool true, .int .i64 now] 61 (0, 0))) := Lib.hid ((hal.block P2 (ltb HP2_6.out)).trans HP2_6.out)
              clear hal HB_6 HP4_6 HP5_6 HP2_6
              have HP49_7 := Lib.hid hnew
              clear hnew
              rw [← hw57]
              clear hw57
              rw [← hP49]
              clear hP49
              have FP2' : w7.heap[P2]? = some (.cells #[.int .i64 id, .int .i64 seq, .int .i64 epoch, .bool true, .string (str body), .bool true, .int .i64 now] 61 (0, 0)) := HP2_7.out
              clear FP2
              have FP2 := FP2'
              clear FP2'
              refine hK.out _ _ ?_ (fun hHeld => ?_)
              · try dsimp only
                (refine ?_ <;> (first | with_reducible assumption))
              clear hK K
              try simp only [Act.put, List.setIfInBounds_toArray, List.set_cons_zero, List.set_cons_succ]
              refine wpAnyH_take (i := 10) (v := ?_) (by (simp only [List.getElem?_toArray, List.getElem?_cons_succ, List.getElem?_cons_zero]; rfl)) (by kernel_rfl) (by kernel_rfl) (by kernel_rfl) (fun _ _ _ h => h) (Or.inl ⟨by rfl, ?_⟩) (by assumption) ?_
              rotate_left
              · (intro w hSw; (try dsimp only at hSw); go_simp; try with_reducible rfl)
              try simp only [Act.put, List.setIfInBounds_toArray, List.set_cons_zero, List.set_cons_succ]
              refine wpAnyH_ready (rs := [11]) (by kernel_rfl) (by simp) ?_
              refine AllReadyH.cons (by (simp only [List.getElem?_toArray, List.getElem?_cons_succ, List.getElem?_cons_zero]; rfl)) (fun K hK => ?_) AllReadyH.nil
              refine wp_store_row 61 (.tmp 4) (.tmp 40) rfl (P2 + 1) _ rfl rfl 61 _ HP4_7.out (by kernel_rfl) rfl (by simp [Value.oneCell']) ?_
              obtain ⟨w8, hw58⟩ : ∃ y, y = w7.setRow (P2 + 1) #[.int .i64 id, .int .i64 seq, .int .i64 epoch, .bool true, .string (str body), .bool true, .int .i64 now] := ⟨_, rfl⟩
              have hch := Ch.ofRow HP4_7.out #[.int .i64 id, .int .i64 seq, .int .i64 epoch, .bool true, .string (str body), .bool true, .int .i64 now]
              rw [← hw58] at hch
              have hnew : w8.heap[(P2 + 1)]? = some (.cells #[.int .i64 id, .int .i64 seq, .int .i64 epoch, .bool true, .string (str body), .bool true, .int .i64 now] 61 (0, 0)) := by rw [hw58]; exact setRow_heap _ _ _ _ _ _ HP4_7.out
              have HB_8 : Hid (Below w0.heap.size w0 w8) := Lib.hid (hch.below HB_7.out HB_7.out.size (fun k hk => by injection hk with hk; omega))
              have HP5_8 : Hid (w8.heap[(P2 + 2)]? = some (.cells (mcv (fun _ => 0) (.slice none 0 0)) 36 (0, 0))) := Lib.hid (hch.blk HP5_7.out (by show (36 + 1 : Nat) ≠ _; decide))
              have HP2_8 : Hid (w8.heap[P2]? = some (.cells #[.int .i64 id, .int .i64 seq, .int .i64 epoch, .bool true, .string (str body), .bool true, .int .i64 now] 61 (0, 0))) := Lib.hid (hch.blkN HP2_7.out (by intro e; injection e with e; omega))
              have HP49_8 : Hid (w8.heap[P49]? = some (.cells cs5 5 f5)) := Lib.hid (hch.blk HP49_7.out (by show (5 + 1 : Nat) ≠ _; decide))
              clear hch HB_7 HP5_7 HP2_7 HP49_7
              have HP4_8 := Lib.hid hnew
              clear hnew HP4_7
              rw [← hw58]
              clear hw58
              have FP2' : w8.heap[P2]? = some (.cells #[.int .i64 id, .int .i64 seq, .int .i64 epoch, .bool true, .string (str body), .bool true, .int .i64 now] 61 (0, 0)) := HP2_8.out
              clear FP2
              have FP2 := FP2'
              clear FP2'
              refine hK.out _ _ ?_ (fun hHeld => ?_)
              · try dsimp only
                (refine ?_ <;> (first | with_reducible assumption))
              clear hK K
              try simp only [Act.put]
              refine wpAnyH_ready (rs := [12]) (by kernel_rfl) (by simp) ?_
              refine AllReadyH.cons (by (simp only [List.getElem?_toArray, List.getElem?_cons_succ, List.getElem?_cons_zero]; rfl)) (fun K hK => ?_) AllReadyH.nil
              refine wp_store_row 36 (.tmp 5) (.tmp 50) rfl (P2 + 2) _ rfl rfl 36 _ HP5_8.out (by kernel_rfl) rfl (by simp [Value.oneCell']) ?_
              obtain ⟨w9, hw59⟩ : ∃ y, y = w8.setRow (P2 + 2) #[.int .i64 7, .int .i64 epoch, .int .i64 0, .int .i64 0, .int .i64 0, .int .i64 0, .int .i64 0, .int .i64 0, .int .i64 0, .int .i64 0, .int .i64 0, .int .i64 0, .int .i64 0, .int .i64 0, .int .i64 0, .int .i64 id, .int .i64 seq, .slice ((some ⟨P49, 0, none⟩)) body.length c', .int .i64 0, .int .i64 0, .int .i64 0] := ⟨_, rfl⟩
              have hch := Ch.ofRow HP5_8.out #[.int .i64 7, .int .i64 epoch, .int .i64 0, .int .i64 0, .int .i64 0, .int .i64 0, .int .i64 0, .int .i64 0, .int .i64 0, .int .i64 0, .int .i64 0, .int .i64 0, .int .i64 0, .int .i64 0, .int .i64 0, .int .i64 id, .int .i64 seq, .slice ((some ⟨P49, 0, none⟩)) body.length c', .int .i64 0, .int .i64 0, .int .i64 0]
              rw [← hw59] at hch
              have hnew : w9.heap[(P2 + 2)]? = some (.cells #[.int .i64 7, .int .i64 epoch, .int .i64 0, .int .i64 0, .int .i64 0, .int .i64 0, .int .i64 0, .int .i64 0, .int .i64 0, .int .i64 0, .int .i64 0, .int .i64 0, .int .i64 0, .int .i64 0, .int .i64 0, .int .i64 id, .int .i64 seq, .slice ((some ⟨P49, 0, none⟩)) body.length c', .int .i64 0, .int .i64 0, .int .i64 0] 36 (0, 0)) := by rw [hw59]; exact setRow_heap _ _ _ _ _ _ HP5_8.out
              have HB_9 : Hid (Below w0.heap.size w0 w9) := Lib.hid (hch.below HB_8.out HB_8.out.size (fun k hk => by injection hk with hk; omega))
              have HP2_9 : Hid (w9.heap[P2]? = some (.cells #[.int .i64 id, .int .i64 seq, .int .i64 epoch, .bool true, .string (str body), .bool true, .int .i64 now] 61 (0, 0))) := Lib.hid (hch.blk HP2_8.out (by show (61 + 1 : Nat) ≠ _; decide))
              have HP49_9 : Hid (w9.heap[P49]? = some (.cells cs5 5 f5)) := Lib.hid (hch.blk HP49_8.out (by show (5 + 1 : Nat) ≠ _; decide))
              have HP4_9 : Hid (w9.heap[(P2 + 1)]? = some (.cells #[.int .i64 id, .int .i64 seq, .int .i64 epoch, .bool true, .string (str body), .bool true, .int .i64 now] 61 (0, 0))) := Lib.hid (hch.blk HP4_8.out (by show (61 + 1 : Nat) ≠ _; decide))
              clear hch HB_8 HP2_8 HP49_8 HP4_8
              have HP5_9 := Lib.hid hnew
              clear hnew HP5_8
              rw [← hw59]
              clear hw59
              have FP2' : w9.heap[P2]? = some (.cells #[.int .i64 id, .int .i64 seq, .int .i64 epoch, .bool true, .string (str body), .bool true, .int .i64 now] 61 (0, 0)) := HP2_9.out
              clear FP2
              have FP2 := FP2'
              clear FP2'
              refine hK.out _ _ ?_ (fun hHeld => ?_)
              · try dsimp only
                (refine ?_ <;> (first | with_reducible assumption))
              clear hK K
              try simp only [Act.put]
              refine wpAnyH_take (i := 13) (v := ?_) (by (simp only [List.getElem?_toArray, List.getElem?_cons_succ, List.getElem?_cons_zero]; rfl)) (by kernel_rfl) (by kernel_rfl) (by kernel_rfl) (fun _ _ _ h => h) (Or.inl ⟨by rfl, ?_⟩) (by assumption) ?_
              rotate_left
              · (intro w hSw; (try dsimp only at hSw); go_simp; try with_reducible rfl)
              try simp only [Act.put, List.setIfInBounds_toArray, List.set_cons_zero, List.set_cons_succ]
              refine wpAnyH_done (by kernel_rfl) ?_ _
              refine NoPanic.normal ?_
              clear hHeld FP2
              go_wp2_with fail
              go_meet
              case rel => exact ⟨c', cs5, f5, P49, rfl, HBY, HB_9, HP2_9, HP49_9, HP4_9, HP5_9⟩
            · skip
              refine wp_store_row 61 (.tmp 4) (.tmp 40) rfl (P2 + 1) _ rfl rfl 61 _ HP4_6.out (by kernel_rfl) rfl (by simp [Value.oneCell']) ?_
              obtain ⟨w7, hw57⟩ : ∃ y, y = w6.setRow (P2 + 1) #[.int .i64 id, .int .i64 seq, .int .i64 epoch, .bool true, .string (str body), .bool true, .int .i64 now] := ⟨_, rfl⟩
              have hch := Ch.ofRow HP4_6.out #[.int .i64 id, .int .i64 seq, .int .i64 epoch, .bool true, .string (str body), .bool true, .int .i64 now]
              rw [← hw57] at hch
              have hnew : w7.heap[(P2 + 1)]? = some (.cells #[.int .i64 id, .int .i64 seq, .int .i64 epoch, .bool true, .string (str body), .bool true, .int .i64 now] 61 (0, 0)) := by rw [hw57]; exact setRow_heap _ _ _ _ _ _ HP4_6.out
              have HB_7 : Hid (Below w0.heap.size w0 w7) := Lib.hid (hch.below HB_6.out HB_6.out.size (fun k hk => by injection hk with hk; omega))
              have HP5_7 : Hid (w7.heap[(P2 + 2)]? = some (.cells (mcv (fun _ => 0) (.slice none 0 0)) 36 (0, 0))) := Lib.hid (hch.blk HP5_6.out (by show (36 + 1 : Nat) ≠ _; decide))
              have HP2_7 : Hid (w7.heap[P2]? = some (.cells #[.int .i64 id, .int .i64 seq, .int .i64 epoch, .bool true, .string (str body), .bool true, .int .i64 now] 61 (0, 0))) := Lib.hid (hch.blkN HP2_6.out (by intro e; injection e with e; omega))
              clear hch HB_6 HP5_6 HP2_6
              have HP4_7 := Lib.hid hnew
              clear hnew HP4_6
              rw [← hw57]
              clear hw57
              have FP2' : w7.heap[P2]? = some (.cells #[.int .i64 id, .int .i64 seq, .int .i64 epoch, .bool true, .string (str body), .bool true, .int .i64 now] 61 (0, 0)) := HP2_7.out
              clear FP2
              have FP2 := FP2'
              clear FP2'
              refine hK.out _ _ ?_ (fun hHeld => ?_)
              · try dsimp only
                (refine ?_ <;> (first | with_reducible assumption))
              clear hK K
              try simp only [Act.put]
              refine wpAnyH_ready (rs := [9]) (by kernel_rfl) (by simp) ?_
              refine AllReadyH.cons (by (simp only [List.getElem?_toArray, List.getElem?_cons_succ, List.getElem?_cons_zero]; rfl)) (fun K hK => ?_) AllReadyH.nil
              obtain ⟨c', cs5, f5, hcv, hby⟩ := conv_x body w7 (by omega)
              go_simp
              clear hcv
              have HBY := Lib.hid hby
              clear hby
              obtain ⟨P49, hP49⟩ : ∃ x, x = w7.heap.size := ⟨_, rfl⟩
              obtain ⟨w8, hw60⟩ : ∃ y, y = (w7.alloc (.cells cs5 5 f5)).drew := ⟨_, rfl⟩
              have hal : Below w7.heap.size w7 w8 := by rw [hw60]; exact ((Below.refl _ _).alloc (Nat.le_refl _) _).drew
              have hnew : w8.heap[P49]? = some (.cells cs5 5 f5) := by rw [hw60, hP49]; exact heap_alloc_new w7 _
              have HB_8 : Hid (Below w0.heap.size w0 w8) := Lib.hid (HB_7.out.trans (hal.mono HB_7.out.size))
              have HP5_8 : Hid (w8.heap[(P2 + 2)]? = some (.cells (mcv (fun _ => 0) (.slice none 0 0)) 36 (0, 0))) := Lib.hid ((hal.block (P2 + 2) (ltb HP5_7.out)).trans HP5_7.out)
              have HP2_8 : Hid (w8.heap[P2]? = some (.cells #[.int .i64 id, .int .i64 seq, .int .i64 epoch, .bool true, .string (str body), .bool true, .int .i64 now] 61 (0, 0))) := Lib.hid ((hal.block P2 (ltb HP2_7.out)).trans HP2_7.out)
              have HP4_8 : Hid (w8.heap[(P2 + 1)]? = some (.cells #[.int .i64 id, .int .i64 seq, .int .i64 epoch, .bool true, .string (str body), .bool true, .int .i64 now] 61 (0, 0))) := Lib.hid ((hal.block (P2 + 1) (ltb HP4_7.out)).trans HP4_7.out)
              clear hal HB_7 HP5_7 HP2_7 HP4_7
              have HP49_8 := Lib.hid hnew
              clear hnew
              rw [← hw60]
              clear hw60
              rw [← hP49]
              clear hP49
              have FP2' : w8.heap[P2]? = some (.cells #[.int .i64 id, .int .i64 seq, .int .i64 epoch, .bool true, .string (str body), .bool true, .int .i64 now] 61 (0, 0)) := HP2_8.out
              clear FP2
              have FP2 := FP2'
              clear FP2'
              refine hK.out _ _ ?_ (fun hHeld => ?_)
              · try dsimp only
                (refine ?_ <;> (first | with_reducible assumption))
              clear hK K
              try simp only [Act.put, List.setIfInBounds_toArray, List.set_cons_zero, List.set_cons_succ]
              refine wpAnyH_take (i := 10) (v := ?_) (by (simp only [List.getElem?_toArray, List.getElem?_cons_succ, List.getElem?_cons_zero]; rfl)) (by kernel_rfl) (by kernel_rfl) (by kernel_rfl) (fun _ _ _ h => h) (Or.inl ⟨by rfl, ?_⟩) (by assumption) ?_
              rotate_left
              · (intro w hSw; (try dsimp only at hSw); go_simp; try with_reducible rfl)
              try simp only [Act.put, List.setIfInBounds_toArray, List.set_cons_zero, List.set_cons_succ]
              refine wpAnyH_ready (rs := [12]) (by kernel_rfl) (by simp) ?_
              refine AllReadyH.cons (by (simp only [List.getElem?_toArray, List.getElem?_cons_succ, List.getElem?_cons_zero]; rfl)) (fun K hK => ?_) AllReadyH.nil
              refine wp_store_row 36 (.tmp 5) (.tmp 50) rfl (P2 + 2) _ rfl rfl 36 _ HP5_8.out (by kernel_rfl) rfl (by simp [Value.oneCell']) ?_
              obtain ⟨w9, hw61⟩ : ∃ y, y = w8.setRow (P2 + 2) #[.int .i64 7, .int .i64 epoch, .int .i64 0, .int .i64 0, .int .i64 0, .int .i64 0, .int .i64 0, .int .i64 0, .int .i64 0, .int .i64 0, .int .i64 0, .int .i64 0, .int .i64 0, .int .i64 0, .int .i64 0, .int .i64 id, .int .i64 seq, .slice ((some ⟨P49, 0, none⟩)) body.length c', .int .i64 0, .int .i64 0, .int .i64 0] := ⟨_, rfl⟩
              have hch := Ch.ofRow HP5_8.out #[.int .i64 7, .int .i64 epoch, .int .i64 0, .int .i64 0, .int .i64 0, .int .i64 0, .int .i64 0, .int .i64 0, .int .i64 0, .int .i64 0, .int .i64 0, .int .i64 0, .int .i64 0, .int .i64 0, .int .i64 0, .int .i64 id, .int .i64 seq, .slice ((some ⟨P49, 0, none⟩)) body.length c', .int .i64 0, .int .i64 0, .int .i64 0]
              rw [← hw61] at hch
              have hnew : w9.heap[(P2 + 2)]? = some (.cells #[.int .i64 7, .int .i64 epoch, .int .i64 0, .int .i64 0, .int .i64 0, .int .i64 0, .int .i64 0, .int .i64 0, .int .i64 0, .int .i64 0, .int .i64 0, .int .i64 0, .int .i64 0, .int .i64 0, .int .i64 0, .int .i64 id, .int .i64 seq, .slice ((some ⟨P49, 0, none⟩)) body.length c', .int .i64 0, .int .i64 0, .int .i64 0] 36 (0, 0)) := by rw [hw61]; exact setRow_heap _ _ _ _ _ _ HP5_8.out
              have HB_9 : Hid (Below w0.heap.size w0 w9) := Lib.hid (hch.below HB_8.out HB_8.out.size (fun k hk => by injection hk with hk; omega))
              have HP2_9 : Hid (w9.heap[P2]? = some (.cells #[.int .i64 id, .int .i64 seq, .int .i64 epoch, .bool true, .string (str body), .bool true, .int .i64 now] 61 (0, 0))) := Lib.hid (hch.blk HP2_8.out (by show (61 + 1 : Nat) ≠ _; decide))
              have HP4_9 : Hid (w9.heap[(P2 + 1)]? = some (.cells #[.int .i64 id, .int .i64 seq, .int .i64 epoch, .bool true, .string (str body), .bool true, .int .i64 now] 61 (0, 0))) := Lib.hid (hch.blk HP4_8.out (by show (61 + 1 : Nat) ≠ _; decide))
              have HP49_9 : Hid (w9.heap[P49]? = some (.cells cs5 5 f5)) := Lib.hid (hch.blk HP49_8.out (by show (5 + 1 : Nat) ≠ _; decide))
              clear hch HB_8 HP2_8 HP4_8 HP49_8
              have HP5_9 := Lib.hid hnew
              clear hnew HP5_8
              rw [← hw61]
              clear hw61
              have FP2' : w9.heap[P2]? = some (.cells #[.int .i64 id, .int .i64 seq, .int .i64 epoch, .bool true, .string (str body), .bool true, .int .i64 now] 61 (0, 0)) := HP2_9.out
              clear FP2
              have FP2 := FP2'
              clear FP2'
              refine hK.out _ _ ?_ (fun hHeld => ?_)
              · try dsimp only
                (refine ?_ <;> (first | with_reducible assumption))
              clear hK K
              try simp only [Act.put]
              refine wpAnyH_take (i := 13) (v := ?_) (by (simp only [List.getElem?_toArray, List.getElem?_cons_succ, List.getElem?_cons_zero]; rfl)) (by kernel_rfl) (by kernel_rfl) (by kernel_rfl) (fun _ _ _ h => h) (Or.inl ⟨by rfl, ?_⟩) (by assumption) ?_
              rotate_left
              · (intro w hSw; (try dsimp only at hSw); go_simp; try with_reducible rfl)
              try simp only [Act.put, List.setIfInBounds_toArray, List.set_cons_zero, List.set_cons_succ]
              refine wpAnyH_done (by kernel_rfl) ?_ _
              refine NoPanic.normal ?_
              clear hHeld FP2
              go_wp2_with fail
              go_meet
              case rel => exact ⟨c', cs5, f5, P49, rfl, HBY, HB_9, HP2_9, HP49_9, HP4_9, HP5_9⟩
          case rest =>
          obtain ⟨w9, rfl⟩ : ∃ y : World, y = wc := ⟨_, rfl⟩
          obtain ⟨c', cs5, f5, P49, rfl, HBY, HB_9, HP2_9, HP49_9, HP4_9, HP5_9⟩ := hcut
          go_wp2_with fail
          refine bodyPost_ret (v := .tuple #[.agg #[.int .i64 id, .int .i64 seq, .int .i64 epoch, .bool true, .string (str body), .bool true, .int .i64 now], .agg #[.int .i64 7, .int .i64 epoch, .int .i64 0, .int .i64 0, .int .i64 0, .int .i64 0, .int .i64 0, .int .i64 0, .int .i64 0, .int .i64 0, .int .i64 0, .int .i64 0, .int .i64 0, .int .i64 0, .int .i64 0, .int .i64 id, .int .i64 seq, .slice ((some ⟨P49, 0, none⟩)) body.length c', .int .i64 0, .int .i64 0, .int .i64 0], .bool true]) (results_cc Try.results20 Try.underlying61 Try.underlying36 _ _ (P2 + 1) (P2 + 2) _ _ rfl rfl HP4_9.out HP5_9.out (by kernel_rfl) (by kernel_rfl)) rfl ?_
          exact ⟨fun h => absurd h HNO.out, fun _ => ⟨P49, c', cs5, f5, rfl, HP49_9.out, fun W h => HBY.out W _ h⟩, HB_9.out⟩
        · skip
          have HNO : Hid (SendNo ⟨id, seq, epoch, true, true, at_, body⟩ now) := Lib.hid (.inr (.inr (.inr ⟨rfl, h4, h5⟩)))
          have HST := HP4_3
          have cc62 : w3.cell? ⟨P2, 5, none⟩ = some (.bool true) := cellb (i := 5) HP2_3.out rfl
          have cc63 : w3.cell? ⟨P2, 6, none⟩ = some (.int .i64 at_) := cellb (i := 6) HP2_3.out rfl
          have cc64 : w3.cell? ⟨P2, 6, none⟩ = some (.int .i64 at_) := cellb (i := 6) HP2_3.out rfl
          have K65 := HP2_3
          obtain ⟨w4, hw66⟩ : ∃ y, y = w3.setRow (P2 + 1) #[.int .i64 id, .int .i64 seq, .int .i64 epoch, .bool true, .string (str body), .bool true, .int .i64 at_] := ⟨_, rfl⟩
          have hch := Ch.ofRow HP4_3.out #[.int .i64 id, .int .i64 seq, .int .i64 epoch, .bool true, .string (str body), .bool true, .int .i64 at_]
          rw [← hw66] at hch
          have hnew : w4.heap[(P2 + 1)]? = some (.cells #[.int .i64 id, .int .i64 seq, .int .i64 epoch, .bool true, .string (str body), .bool true, .int .i64 at_] 61 (0, 0)) := by rw [hw66]; exact setRow_heap _ _ _ _ _ _ HP4_3.out
          have HB_4 : Hid (Below w0.heap.size w0 w4) := Lib.hid (hch.below HB_3.out HB_3.out.size (fun k hk => by injection hk with hk; omega))
          have HP2_4 : Hid (w4.heap[P2]? = some (.cells #[.int .i64 id, .int .i64 seq, .int .i64 epoch, .bool true, .string (str body), .bool true, .int .i64 at_] 61 (0, 0))) := Lib.hid (hch.blkN HP2_3.out (by intro e; injection e with e; omega))
          have HP5_4 : Hid (w4.heap[(P2 + 2)]? = some (.cells (mcv (fun _ => 0) (.slice none 0 0)) 36 (0, 0))) := Lib.hid (hch.blk HP5_3.out (by show (36 + 1 : Nat) ≠ _; decide))
          clear hch HB_3 HP2_3 HP5_3
          have HP4_4 := Lib.hid hnew
          clear hnew HP4_3
          have HST67 : Hid ((w3.setRow (P2 + 1) #[.int .i64 id, .int .i64 seq, .int .i64 epoch, .bool true, .string (str body), .bool true, .int .i64 at_]).heap[(P2 + 2)]? = some (.cells (mcv (fun _ => 0) (.slice none 0 0)) 36 (0, 0))) := Lib.hid (by rw [← hw66]; exact HP5_4.out)
          obtain ⟨w5, hw68⟩ : ∃ y, y = w4.setRow (P2 + 2) #[.int .i64 0, .int .i64 0, .int .i64 0, .int .i64 0, .int .i64 0, .int .i64 0, .int .i64 0, .int .i64 0, .int .i64 0, .int .i64 0, .int .i64 0, .int .i64 0, .int .i64 0, .int .i64 0, .int .i64 0, .int .i64 0, .int .i64 0, .slice none 0 0, .int .i64 0, .int .i64 0, .int .i64 0] := ⟨_, rfl⟩
          have hch := Ch.ofRow HP5_4.out #[.int .i64 0, .int .i64 0, .int .i64 0, .int .i64 0, .int .i64 0, .int .i64 0, .int .i64 0, .int .i64 0, .int .i64 0, .int .i64 0, .int .i64 0, .int .i64 0, .int .i64 0, .int .i64 0, .int .i64 0, .int .i64 0, .int .i64 0, .slice none 0 0, .int .i64 0, .int .i64 0, .int .i64 0]
          rw [← hw68] at hch
          have hnew : w5.heap[(P2 + 2)]? = some (.cells (mcv (fun _ => 0) (.slice none 0 0)) 36 (0, 0)) := by rw [hw68]; exact setRow_heap _ _ _ _ _ _ HP5_4.out
          have HB_5 : Hid (Below w0.heap.size w0 w5) := Lib.hid (hch.below HB_4.out HB_4.out.size (fun k hk => by injection hk with hk; omega))
          have HP2_5 : Hid (w5.heap[P2]? = some (.cells #[.int .i64 id, .int .i64 seq, .int .i64 epoch, .bool true, .string (str body), .bool true, .int .i64 at_] 61 (0, 0))) := Lib.hid (hch.blk HP2_4.out (by show (61 + 1 : Nat) ≠ _; decide))
          have HP4_5 : Hid (w5.heap[(P2 + 1)]? = some (.cells #[.int .i64 id, .int .i64 seq, .int .i64 epoch, .bool true, .string (str body), .bool true, .int .i64 at_] 61 (0, 0))) := Lib.hid (hch.blk HP4_4.out (by show (61 + 1 : Nat) ≠ _; decide))
          clear hch HB_4 HP2_4 HP4_4
          have HP5_5 := Lib.hid hnew
          clear hnew HP5_4
          go_wp2_with (first | (refine wpList_load_row rfl 61 (.tmp 2) rfl P2 rfl 61 _ (0, 0) _ K65.out Try.underlying61 rfl (by kernel_rfl) ?_) | (refine wpList_store_row rfl 61 (.tmp 4) (.tmp 35) rfl (P2 + 1) _ rfl rfl 61 _ HST.out (by kernel_rfl) rfl (by simp [Value.oneCell']) ?_) | (refine wpList_store_row rfl 36 (.tmp 5) (.tmp 36) rfl (P2 + 2) _ rfl rfl 36 _ HST67.out (by kernel_rfl) rfl (by simp [Value.oneCell']) ?_))
          clear cc62 cc63 cc64 K65 HST HST67
          rw [← hw66]
          clear hw66
          rw [← hw68]
          clear hw68
          go_wp2_with fail
          refine bodyPost_ret (v := .tuple #[.agg #[.int .i64 id, .int .i64 seq, .int .i64 epoch, .bool true, .string (str body), .bool true, .int .i64 at_], .agg #[.int .i64 0, .int .i64 0, .int .i64 0, .int .i64 0, .int .i64 0, .int .i64 0, .int .i64 0, .int .i64 0, .int .i64 0, .int .i64 0, .int .i64 0, .int .i64 0, .int .i64 0, .int .i64 0, .int .i64 0, .int .i64 0, .int .i64 0, .slice none 0 0, .int .i64 0, .int .i64 0, .int .i64 0], .bool false]) (results_cc Try.results20 Try.underlying61 Try.underlying36 _ _ (P2 + 1) (P2 + 2) _ _ rfl rfl HP4_5.out HP5_5.out (by kernel_rfl) (by kernel_rfl)) rfl ?_
          exact ⟨fun _ => rfl, fun h => absurd HNO.out h, HB_5.out⟩
end Go.Proofs.Ytlcbpodjmafoeaa
