/- The law SessionAsks: the walk. -/
import Derived.Test.YtlcbpodjmafoeaaRch
import Derived.Test.YtlcbpodjmafoeaaStateC
import Derived.Deep.LoopGhost
namespace Go.Proofs.Ytlcbpodjmafoeaa
open Go.RowKit

theorem Ch.cat {row : Option Nat} {τ : Nat} {w w' : World} {g c : Nat} {s : Ct} {A : Option Addr} (h : Ch row τ w w') (hc : CAt w g s A c) (h1 : τ ≠ 91) (h2 : τ ≠ 6) : CAt w' g s A c :=
  ⟨h.blk hc.blk (by show (90 + 1 : Nat) ≠ τ; omega), h.own hc.own (by show (5 + 1 : Nat) ≠ τ; omega)⟩
theorem and_maskA (x : Int) (m : Nat) (hm : m < 100000) : ∃ k : Nat, k ≤ m ∧ bits .and .i64 x (m : Int) = (k : Int) := by
  have e : (BitVec.ofInt 64 (m : Int)).toNat = m := by rw [BitVec.toNat_ofInt]; omega
  have hle : (BitVec.ofInt 64 x).toNat &&& m ≤ m := Nat.and_le_right
  refine ⟨(BitVec.ofInt 64 x).toNat &&& m, hle, ?_⟩
  show IntKind.i64.wrap (((BitVec.ofInt 64 x &&& BitVec.ofInt 64 (m : Int)).toNat : Nat) : Int) = _
  rw [BitVec.toNat_and, e]
  generalize (BitVec.ofInt 64 x).toNat &&& m = q at hle
  rw [IntKind.wrap_i64]
  omega
theorem bytes_off {w : World} {B c : Nat} {A : Option Addr} {l : List UInt8} (h : BytesIn w B A c l) {g : Nat} (hg : B ≤ g) : l ≠ [] → ∀ ad, A = some ad → ad.block ≠ g := fun hne ad e => by
  rcases h.rd with h0 | ⟨b, off, e', hlt, _⟩
  · exact absurd h0 hne
  · rw [e] at e'; injection e' with e'; subst e'; simp only; omega
theorem askD_keep' (s : Ct) (b : List UInt8) (hs : s.body.length ≤ 5000) (hb : b.length ≤ 5000) (h0 : 0 ≤ s.seq) : (askD s b).id = s.id ∧ 0 ≤ (askD s b).seq ∧ (askD s b).at_ = s.at_ ∧ (askD s b).body.length ≤ 5000 := by
  unfold askD; split
  · exact ⟨rfl, by show 0 ≤ s.seq + 1; omega, rfl, hb⟩
  · exact ⟨rfl, h0, rfl, hs⟩
theorem hearB_keep {s s' : Ct} {v : Nat → Int} {n : Nat} {k : Bool} {a b d : Int} (h : HearB s v n k s' a b d) : s'.id = s.id ∧ s'.seq = s.seq ∧ s'.at_ = s.at_ ∧ s'.body = s.body := by
  rcases h with ⟨_, _, rfl, _⟩ | ⟨_, q, _, _, rfl, _⟩
  · exact ⟨rfl, rfl, rfl, rfl⟩
  · unfold hearD
    repeat' split
    all_goals exact ⟨rfl, rfl, rfl, rfl⟩
set_option maxRecDepth 100000 in
theorem asks_out (id : Int) (A0 : Option Addr) (len cap : Nat) (w : World) (h : id < 1 ∨ 16 < id) :
    Calls Try.prog 5 #[.int .i64 id, .slice A0 len cap] w fun e w' => e = .returned (.bool true) ∧ Below w.heap.size w w' := by
  have key : id < 1 ∨ (¬ id < 1 ∧ 16 < id) := by omega
  rcases key with h1 | ⟨h1, h2⟩
  all_goals
    have HN := Lib.hid h
    clear h
    go_enter Try.func5, Try.ntmps5
    go_wp2_with fail
    refine (awake_any w).mono ?_
    rintro e w1 ⟨rfl, hb⟩
    have HB := Lib.hid hb
    clear hb
    go_wp2_with fail
    refine (newc_no id w1 HN.out).mono ?_
    rintro e w' ⟨rfl, rfl⟩
    go_wp2_with fail
    go_ret
    exact ⟨rfl, HB.out⟩
set_option maxRecDepth 100000 in
set_option maxHeartbeats 32000000 in
theorem asks_in (id : Int) (A0 : Option Addr) (len cap : Nat) (gs : List Ay) (w : World) (i1 : 1 ≤ id) (i2 : id ≤ 16) (hlen : len = gs.length) (hp : ActsIn w w.heap.size A0 gs) :
    Calls Try.prog 5 #[.int .i64 id, .slice A0 len cap] w fun e w' => e = .returned (.bool true) ∧ Below w.heap.size w w' := by
  have t1 : ¬ id < 1 := by omega
  have t2 : ¬ 16 < id := by omega
  have HP := Lib.hid hp
  have HLEN := Lib.hid hlen
  clear hp hlen
  go_enter Try.func5, Try.ntmps5
  go_wp2_with fail
  refine (awake_any w).mono ?_
  rintro e w1 ⟨rfl, hb⟩
  have HB_1 := Lib.hid hb
  clear hb
  go_wp2_with fail
  obtain ⟨gc, hgc⟩ : ∃ y, y = w1.heap.size := ⟨_, rfl⟩
  have hnc := newc_any id w1 i1 i2
  rw [← hgc] at hnc
  have log : w.heap.size ≤ gc := by have := HB_1.out.size; omega
  refine hnc.mono ?_
  clear hnc
  rintro e w2 ⟨rfl, hc, hb⟩
  rw [hgc] at hb
  have HB_2 := Lib.hid (HB_1.out.trans (hb.mono HB_1.out.size))
  have HC_2 : Hid (CAt w2 gc ⟨id, 0, 0, false, false, 0, []⟩ none 0) := Lib.hid hc
  clear hc hb hgc HB_1
  obtain ⟨P7, hP7⟩ : ∃ y, y = w2.heap.size := ⟨_, rfl⟩
  have loP7 : w.heap.size ≤ P7 := by have := HB_2.out.size; omega
  obtain ⟨w3, hw3⟩ : ∃ y, y = w2.alloc (.cells #[.int .i64 id, .int .i64 0, .int .i64 0, .bool false, .string { data := #[] }, .bool false, .int .i64 0] 61) := ⟨_, rfl⟩
  have hal : Below w2.heap.size w2 w3 := by rw [hw3]; exact (Below.refl _ _).alloc (Nat.le_refl _) _
  have HP7_3 : Hid (w3.heap[P7]? = some (.cells (clv ⟨id, 0, 0, false, false, 0, []⟩) 61 (0, 0))) := Lib.hid (by rw [hw3, hP7]; exact heap_alloc_new _ _)
  have HC_3 := Lib.hid (HC_2.out.below hal)
  have HB_3 := Lib.hid (HB_2.out.trans (hal.mono HB_2.out.size))
  clear hal HC_2 HB_2
  go_upto_region 10 with (refine wpList_store_row rfl 61 (.tmp 7) (.tmp 43) rfl w2.heap.size _ rfl rfl 61 _ (heap_alloc_new w2 _) (by kernel_rfl) rfl (by simp [Value.oneCell']) ?_; rw [World.setRow_alloc_new])
  rw [← hw3, ← hP7]
  clear hw3 hP7
  go_wp2_with fail
  go_loopg [8] len (fun gk s8 wr => ∃ (j : Nat) (s : Ct) (A : Option Addr) (c : Nat), j ≤ len ∧ j ≤ 40 ∧ gk = len - j ∧ s8 = .int .i64 j ∧ s.id = id ∧ 0 ≤ s.seq ∧ s.at_ < 1099511627776 ∧ s.body.length ≤ 5000 ∧ Hid (CAt wr gc s A c) ∧ Hid (wr.heap[P7]? = some (.cells (clv s) 61 (0, 0))) ∧ Hid (Below w.heap.size w wr))
  case atStart => exact ⟨0, _, _, _, Nat.zero_le _, by omega, rfl, rfl, rfl, by simp, by simp, by simp, HC_3, HP7_3, HB_3⟩
  case round =>
    clear HC_3 HP7_3 HB_3
    obtain ⟨w4, rfl⟩ : ∃ y : World, y = wr := ⟨_, rfl⟩
    obtain ⟨j, s, A, c, hj, hj40, rfl, rfl, n1, n2, n3, n4, HC_4, HP7_4', HB_4⟩ := hrel
    have N1 := Lib.hid n1
    clear n1
    have HP7_4 : Hid (w4.heap[P7]? = some (.cells #[.int .i64 s.id, .int .i64 s.seq, .int .i64 s.epoch, .bool s.asks, .string (str s.body), .bool s.sent, .int .i64 s.at_] 61 (0, 0))) := HP7_4'
    clear HP7_4'
    by_cases hjl : j < len
    rotate_left
    · have q1 : ¬ (j : Int) < (len : Int) := by omega
      go_wp2_with fail
      go_ret
      exact ⟨rfl, HB_4.out⟩
    have q1 : (j : Int) < (len : Int) := by omega
    by_cases hj39 : j < 40
    rotate_left
    · have q2 : ¬ (j : Int) < 40 := by omega
      go_wp2_with fail
      go_ret
      exact ⟨rfl, HB_4.out⟩
    have q2 : (j : Int) < 40 := by omega
    have q0 : (0 : Int) ≤ (j : Int) := by omega
    obtain ⟨b0, off, a, rfl, hby, hbn, hnow, hrg⟩ : ∃ b0 off a, A0 = some ⟨b0, off, none⟩ ∧ BytesIn w w.heap.size a.bA a.bc a.l ∧ a.bn = a.l.length ∧ (Lit.int .i64 a.now).wf = true ∧ w4.rangeAt b0 (off + j * 25) (ayc a) := by
      have hjg : j < gs.length := by rw [← HLEN.out]; exact hjl
      have hg : gs[j]? = some gs[j] := List.getElem?_eq_getElem hjg
      have hm0 := HP.out.1 gs[j] (List.getElem_mem _)
      rcases (HP.out.below HB_4.out (Nat.le_refl _)).2 with e | ⟨b, off, e, hb, hr⟩
      · rw [e] at hjg; simp at hjg
      · exact ⟨b, off, gs[j], e, hm0.1, hm0.2.1, hm0.2.2, hr j _ hg⟩
    obtain ⟨kd, bA, bn, bc, l, now, near, v, B, nb, cb⟩ := a
    simp only at hby hbn hnow
    subst hbn
    have HBY := Lib.hid hby
    have HNW := Lib.hid (bounds_i64 hnow)
    have HRG : Hid (w4.rangeAt b0 (off + j * 25) [.int .i64 kd, .slice bA l.length bc, .int .i64 now, .bool near, .int .i64 (v 0), .int .i64 (v 1), .int .i64 (v 2), .int .i64 (v 3), .int .i64 (v 4), .int .i64 (v 5), .int .i64 (v 6), .int .i64 (v 7), .int .i64 (v 8), .int .i64 (v 9), .int .i64 (v 10), .int .i64 (v 11), .int .i64 (v 12), .int .i64 (v 13), .int .i64 (v 14), .int .i64 (v 15), .int .i64 (v 16), .slice B nb cb, .int .i64 (v 18), .int .i64 (v 19), .int .i64 (v 20)]) := Lib.hid hrg
    obtain ⟨K, hK3, hKb⟩ := and_maskA kd 3 (by omega)
    have qK : bits .and .i64 kd 3 = (K : Int) := hKb
    clear hby hnow hrg hKb
    obtain ⟨P9, hP9⟩ : ∃ x, x = w4.heap.size := ⟨_, rfl⟩
    have loP9 : w.heap.size ≤ P9 := (by have := HB_4.out.size; omega)
    obtain ⟨w5, hw1⟩ : ∃ y, y = w4.alloc (.cells #[.int .i64 kd, .slice bA l.length bc, .int .i64 now, .bool near, .int .i64 (v 0), .int .i64 (v 1), .int .i64 (v 2), .int .i64 (v 3), .int .i64 (v 4), .int .i64 (v 5), .int .i64 (v 6), .int .i64 (v 7), .int .i64 (v 8), .int .i64 (v 9), .int .i64 (v 10), .int .i64 (v 11), .int .i64 (v 12), .int .i64 (v 13), .int .i64 (v 14), .int .i64 (v 15), .int .i64 (v 16), .slice B nb cb, .int .i64 (v 18), .int .i64 (v 19), .int .i64 (v 20)] 63) := ⟨_, rfl⟩
    have hal : Below w4.heap.size w4 w5 := by rw [hw1]; exact (Below.refl _ _).alloc (Nat.le_refl _) _
    have hnew : w5.heap[P9]? = some (.cells #[.int .i64 kd, .slice bA l.length bc, .int .i64 now, .bool near, .int .i64 (v 0), .int .i64 (v 1), .int .i64 (v 2), .int .i64 (v 3), .int .i64 (v 4), .int .i64 (v 5), .int .i64 (v 6), .int .i64 (v 7), .int .i64 (v 8), .int .i64 (v 9), .int .i64 (v 10), .int .i64 (v 11), .int .i64 (v 12), .int .i64 (v 13), .int .i64 (v 14), .int .i64 (v 15), .int .i64 (v 16), .slice B nb cb, .int .i64 (v 18), .int .i64 (v 19), .int .i64 (v 20)] 63 (0, 0)) := by rw [hw1, hP9]; exact heap_alloc_new _ _
    have HB_5 : Hid (Below w.heap.size w w5) := Lib.hid (HB_4.out.trans (hal.mono HB_4.out.size))
    have HC_5 : Hid (CAt w5 gc s A c) := Lib.hid (HC_4.out.below hal)
    have HP7_5 : Hid (w5.heap[P7]? = some (.cells #[.int .i64 s.id, .int .i64 s.seq, .int .i64 s.epoch, .bool s.asks, .string (str s.body), .bool s.sent, .int .i64 s.at_] 61 (0, 0))) := Lib.hid ((hal.block P7 (ltb HP7_4.out)).trans HP7_4.out)
    clear hal HB_4 HC_4 HP7_4
    have HP9_5 := Lib.hid hnew
    clear hnew
    go_upto_region 14 with (first | (refine wpList_load_mid rfl 63 (.tmp 56) rfl b0 (off + j * 25) rfl [.int .i64 kd, .slice bA l.length bc, .int .i64 now, .bool near, .int .i64 (v 0), .int .i64 (v 1), .int .i64 (v 2), .int .i64 (v 3), .int .i64 (v 4), .int .i64 (v 5), .int .i64 (v 6), .int .i64 (v 7), .int .i64 (v 8), .int .i64 (v 9), .int .i64 (v 10), .int .i64 (v 11), .int .i64 (v 12), .int .i64 (v 13), .int .i64 (v 14), .int .i64 (v 15), .int .i64 (v 16), .slice B nb cb, .int .i64 (v 18), .int .i64 (v 19), .int .i64 (v 20)] _ HRG.out Try.underlying63 rfl (by kernel_rfl) ?_) | (refine wpList_store_row rfl 63 (.tmp 9) (.tmp 57) rfl w4.heap.size _ rfl rfl 63 _ (heap_alloc_new w4 _) (by kernel_rfl) rfl (by simp [Value.oneCell']) ?_; rw [World.setRow_alloc_new]))
    rw [← hw1]
    clear hw1
    rw [← hP9]
    clear hP9
    clear HRG
    have h5 : 5000 < l.length ∨ (¬ 5000 < l.length ∧ 5000 < nb) ∨ (¬ 5000 < l.length ∧ ¬ 5000 < nb) := by omega
    rcases h5 with h5 | ⟨h5, h6⟩ | ⟨h5, h6⟩
    · skip
      have q3 : (5000 : Int) < (l.length : Int) := by omega
      have cc2 : w5.cell? ⟨P9, 1, none⟩ = some (.slice bA l.length bc) := cellb (i := 1) HP9_5.out rfl
      have cc3 : w5.cell? ⟨P9, 21, none⟩ = some (.slice B nb cb) := cellb (i := 21) HP9_5.out rfl
      go_wp2_with fail
      clear cc2 cc3
      go_ret
      exact ⟨rfl, HB_5.out⟩
    · skip
      have q3 : ¬ (5000 : Int) < (l.length : Int) := by omega
      have q4 : (5000 : Int) < (nb : Int) := by omega
      have cc4 : w5.cell? ⟨P9, 1, none⟩ = some (.slice bA l.length bc) := cellb (i := 1) HP9_5.out rfl
      have cc5 : w5.cell? ⟨P9, 21, none⟩ = some (.slice B nb cb) := cellb (i := 21) HP9_5.out rfl
      go_wp2_with fail
      clear cc4 cc5
      go_ret
      exact ⟨rfl, HB_5.out⟩
    · skip
      have q3 : ¬ (5000 : Int) < (l.length : Int) := by omega
      have q4 : ¬ (5000 : Int) < (nb : Int) := by omega
      have cc6 : w5.cell? ⟨P9, 1, none⟩ = some (.slice bA l.length bc) := cellb (i := 1) HP9_5.out rfl
      have cc7 : w5.cell? ⟨P9, 21, none⟩ = some (.slice B nb cb) := cellb (i := 21) HP9_5.out rfl
      have cc8 : w5.cell? ⟨P9, 3, none⟩ = some (.bool near) := cellb (i := 3) HP9_5.out rfl
      go_upto_if 70 with (fail)
      clear cc6 cc7 cc8
      go_cut [] from 71 to 77 (fun wc => ∃ v2 : Nat → Int, Hid (wc.heap[P9]? = some (.cells #[.int .i64 kd, .slice bA l.length bc, .int .i64 now, .bool near, .int .i64 (v2 0), .int .i64 (v2 1), .int .i64 (v2 2), .int .i64 (v2 3), .int .i64 (v2 4), .int .i64 (v2 5), .int .i64 (v2 6), .int .i64 (v2 7), .int .i64 (v2 8), .int .i64 (v2 9), .int .i64 (v2 10), .int .i64 (v2 11), .int .i64 (v2 12), .int .i64 (v2 13), .int .i64 (v2 14), .int .i64 (v2 15), .int .i64 (v2 16), .slice B nb cb, .int .i64 (v2 18), .int .i64 (v2 19), .int .i64 (v2 20)] 63 (0, 0))) ∧ Hid (Below w.heap.size w wc) ∧ Hid (CAt wc gc s A c) ∧ Hid (wc.heap[P7]? = some (.cells #[.int .i64 s.id, .int .i64 s.seq, .int .i64 s.epoch, .bool s.asks, .string (str s.body), .bool s.sent, .int .i64 s.at_] 61 (0, 0))))
      case first =>
        cases near
        · skip
          go_wp2_with fail
          go_meet
          case rel => exact ⟨v, HP9_5, HB_5, HC_5, HP7_5⟩
        · skip
          have cc9 : w5.cell? ⟨P9, 19, none⟩ = some (.int .i64 (v 15)) := cellb (i := 19) HP9_5.out rfl
          have fz10 : w5.frozen? ⟨P9, 19, none⟩ = false := fzb HP9_5.out 19
          obtain ⟨w6, hw11⟩ : ∃ y, y = w5.setCell ⟨P9, 19, none⟩ (.int .i64 id) := ⟨_, rfl⟩
          have hch := Ch.ofCell (i := 19) HP9_5.out (.int .i64 id)
          rw [← hw11] at hch
          have hnew : w6.heap[P9]? = some (.cells #[.int .i64 kd, .slice bA l.length bc, .int .i64 now, .bool true, .int .i64 (v 0), .int .i64 (v 1), .int .i64 (v 2), .int .i64 (v 3), .int .i64 (v 4), .int .i64 (v 5), .int .i64 (v 6), .int .i64 (v 7), .int .i64 (v 8), .int .i64 (v 9), .int .i64 (v 10), .int .i64 (v 11), .int .i64 (v 12), .int .i64 (v 13), .int .i64 (v 14), .int .i64 id, .int .i64 (v 16), .slice B nb cb, .int .i64 (v 18), .int .i64 (v 19), .int .i64 (v 20)] 63 (0, 0)) := by rw [hw11]; exact set_blk HP9_5.out _
          have HB_6 : Hid (Below w.heap.size w w6) := Lib.hid (hch.below HB_5.out HB_5.out.size (fun k hk => by injection hk with hk; omega))
          have HC_6 : Hid (CAt w6 gc s A c) := Lib.hid (hch.cat HC_5.out (by decide) (by decide))
          have HP7_6 : Hid (w6.heap[P7]? = some (.cells #[.int .i64 s.id, .int .i64 s.seq, .int .i64 s.epoch, .bool s.asks, .string (str s.body), .bool s.sent, .int .i64 s.at_] 61 (0, 0))) := Lib.hid (hch.blk HP7_5.out (by show (61 + 1 : Nat) ≠ _; decide))
          clear hch HB_5 HC_5 HP7_5
          have HP9_6 := Lib.hid hnew
          clear hnew HP9_5
          have cc12 : (w5.setCell ⟨P9, 19, none⟩ (.int .i64 id)).cell? ⟨P7, 1, none⟩ = some (.int .i64 s.seq) := by rw [← hw11]; exact cellb (i := 1) HP7_6.out rfl
          have cc13 : (w5.setCell ⟨P9, 19, none⟩ (.int .i64 id)).cell? ⟨P9, 20, none⟩ = some (.int .i64 (v 16)) := by rw [← hw11]; exact cellb (i := 20) HP9_6.out rfl
          have fz14 : (w5.setCell ⟨P9, 19, none⟩ (.int .i64 id)).frozen? ⟨P9, 20, none⟩ = false := by rw [← hw11]; exact fzb HP9_6.out 20
          obtain ⟨w7, hw15⟩ : ∃ y, y = w6.setCell ⟨P9, 20, none⟩ (.int .i64 s.seq) := ⟨_, rfl⟩
          have hch := Ch.ofCell (i := 20) HP9_6.out (.int .i64 s.seq)
          rw [← hw15] at hch
          have hnew : w7.heap[P9]? = some (.cells #[.int .i64 kd, .slice bA l.length bc, .int .i64 now, .bool true, .int .i64 (v 0), .int .i64 (v 1), .int .i64 (v 2), .int .i64 (v 3), .int .i64 (v 4), .int .i64 (v 5), .int .i64 (v 6), .int .i64 (v 7), .int .i64 (v 8), .int .i64 (v 9), .int .i64 (v 10), .int .i64 (v 11), .int .i64 (v 12), .int .i64 (v 13), .int .i64 (v 14), .int .i64 id, .int .i64 s.seq, .slice B nb cb, .int .i64 (v 18), .int .i64 (v 19), .int .i64 (v 20)] 63 (0, 0)) := by rw [hw15]; exact set_blk HP9_6.out _
          have HB_7 : Hid (Below w.heap.size w w7) := Lib.hid (hch.below HB_6.out HB_6.out.size (fun k hk => by injection hk with hk; omega))
          have HC_7 : Hid (CAt w7 gc s A c) := Lib.hid (hch.cat HC_6.out (by decide) (by decide))
          have HP7_7 : Hid (w7.heap[P7]? = some (.cells #[.int .i64 s.id, .int .i64 s.seq, .int .i64 s.epoch, .bool s.asks, .string (str s.body), .bool s.sent, .int .i64 s.at_] 61 (0, 0))) := Lib.hid (hch.blk HP7_6.out (by show (61 + 1 : Nat) ≠ _; decide))
          clear hch HB_6 HC_6 HP7_6
          have HP9_7 := Lib.hid hnew
          clear hnew HP9_6
          go_wp2_with fail
          clear cc9 fz10 cc12 cc13 fz14
          rw [← hw11]
          clear hw11
          rw [← hw15]
          clear hw15
          go_wp2_with fail
          go_meet
          case rel => exact ⟨(fun i => if i = 15 then id else if i = 16 then s.seq else v i), HP9_7, HB_7, HC_7, HP7_7⟩
      case rest =>
      obtain ⟨w9, rfl⟩ : ∃ y : World, y = wc := ⟨_, rfl⟩
      obtain ⟨v2, HP9_9, HB_9, HC_9, HP7_9⟩ := hcut
      have cc16 : w9.cell? ⟨P9, 0, none⟩ = some (.int .i64 kd) := cellb (i := 0) HP9_9.out rfl
      go_upto_region 25 with fail
      clear cc16
      have hKc : K = 0 ∨ K = 1 ∨ K = 2 ∨ K = 3 := by omega
      rcases hKc with rfl | rfl | rfl | rfl
      · skip
        have cc17 : w9.cell? ⟨P9, 1, none⟩ = some (.slice bA l.length bc) := cellb (i := 1) HP9_9.out rfl
        go_wp2_with fail
        clear cc17
        refine (ask_any gc l.length s A c bA bc l w9 HC_9.out ((HBY.out.below' HB_9.out (Nat.le_refl _)).more HB_9.out.size) rfl (bytes_off HBY.out log) n2).mono ?_
        rintro e w10 ⟨rfl, A', c', hc, hg⟩
        have hch := Ch.ofChg HC_9.out.blk hg
        clear hg HC_9
        have HB_10 : Hid (Below w.heap.size w w10) := Lib.hid (hch.below HB_9.out HB_9.out.size (fun k hk => by injection hk with hk; omega))
        have HP7_10 : Hid (w10.heap[P7]? = some (.cells #[.int .i64 s.id, .int .i64 s.seq, .int .i64 s.epoch, .bool s.asks, .string (str s.body), .bool s.sent, .int .i64 s.at_] 61 (0, 0))) := Lib.hid (hch.blk HP7_9.out (by show (61 + 1 : Nat) ≠ _; decide))
        have HP9_10 : Hid (w10.heap[P9]? = some (.cells #[.int .i64 kd, .slice bA l.length bc, .int .i64 now, .bool near, .int .i64 (v2 0), .int .i64 (v2 1), .int .i64 (v2 2), .int .i64 (v2 3), .int .i64 (v2 4), .int .i64 (v2 5), .int .i64 (v2 6), .int .i64 (v2 7), .int .i64 (v2 8), .int .i64 (v2 9), .int .i64 (v2 10), .int .i64 (v2 11), .int .i64 (v2 12), .int .i64 (v2 13), .int .i64 (v2 14), .int .i64 (v2 15), .int .i64 (v2 16), .slice B nb cb, .int .i64 (v2 18), .int .i64 (v2 19), .int .i64 (v2 20)] 63 (0, 0))) := Lib.hid (hch.blk HP9_9.out (by show (63 + 1 : Nat) ≠ _; decide))
        clear hch HB_9 HP7_9 HP9_9
        have HC_10 : Hid (CAt w10 gc (askD s l) A' c') := Lib.hid hc
        clear hc
        have K18 := HP7_10
        have cc19 : w10.cell? ⟨P9, 1, none⟩ = some (.slice bA l.length bc) := cellb (i := 1) HP9_10.out rfl
        go_wp2_with (refine wpList_load_row rfl 61 (.tmp 7) rfl P7 rfl 61 _ (0, 0) _ K18.out Try.underlying61 rfl (by kernel_rfl) ?_)
        clear K18 cc19
        refine (rask_any s bA l.length bc l w10 ((HBY.out.below' HB_10.out (Nat.le_refl _)).more HB_10.out.size) rfl n2).mono ?_
        rintro e w11 ⟨rfl, hb⟩
        have HB_11 : Hid (Below w.heap.size w w11) := Lib.hid (HB_10.out.trans (hb.mono HB_10.out.size))
        have HP7_11 : Hid (w11.heap[P7]? = some (.cells #[.int .i64 s.id, .int .i64 s.seq, .int .i64 s.epoch, .bool s.asks, .string (str s.body), .bool s.sent, .int .i64 s.at_] 61 (0, 0))) := Lib.hid ((hb.block P7 (ltb HP7_10.out)).trans HP7_10.out)
        have HP9_11 : Hid (w11.heap[P9]? = some (.cells #[.int .i64 kd, .slice bA l.length bc, .int .i64 now, .bool near, .int .i64 (v2 0), .int .i64 (v2 1), .int .i64 (v2 2), .int .i64 (v2 3), .int .i64 (v2 4), .int .i64 (v2 5), .int .i64 (v2 6), .int .i64 (v2 7), .int .i64 (v2 8), .int .i64 (v2 9), .int .i64 (v2 10), .int .i64 (v2 11), .int .i64 (v2 12), .int .i64 (v2 13), .int .i64 (v2 14), .int .i64 (v2 15), .int .i64 (v2 16), .slice B nb cb, .int .i64 (v2 18), .int .i64 (v2 19), .int .i64 (v2 20)] 63 (0, 0))) := Lib.hid ((hb.block P9 (ltb HP9_10.out)).trans HP9_10.out)
        have HC_11 : Hid (CAt w11 gc (askD s l) A' c') := Lib.hid (HC_10.out.below hb)
        clear hb HB_10 HP7_10 HP9_10 HC_10
        obtain ⟨P12, hP12⟩ : ∃ x, x = w11.heap.size := ⟨_, rfl⟩
        have loP12 : w.heap.size ≤ P12 := (by have := HB_11.out.size; omega)
        have oP12_P7 : P7 < P12 := (by have := ltb HP7_11.out; omega)
        obtain ⟨w12, hw20⟩ : ∃ y, y = w11.alloc (.cells #[.int .i64 ((askD s l).id), .int .i64 ((askD s l).seq), .int .i64 ((askD s l).epoch), .bool ((askD s l).asks), .string (str (askD s l).body), .bool ((askD s l).sent), .int .i64 ((askD s l).at_)] 61) := ⟨_, rfl⟩
        have hal : Below w11.heap.size w11 w12 := by rw [hw20]; exact (Below.refl _ _).alloc (Nat.le_refl _) _
        have hnew : w12.heap[P12]? = some (.cells #[.int .i64 ((askD s l).id), .int .i64 ((askD s l).seq), .int .i64 ((askD s l).epoch), .bool ((askD s l).asks), .string (str (askD s l).body), .bool ((askD s l).sent), .int .i64 ((askD s l).at_)] 61 (0, 0)) := by rw [hw20, hP12]; exact heap_alloc_new _ _
        have HB_12 : Hid (Below w.heap.size w w12) := Lib.hid (HB_11.out.trans (hal.mono HB_11.out.size))
        have HP7_12 : Hid (w12.heap[P7]? = some (.cells #[.int .i64 s.id, .int .i64 s.seq, .int .i64 s.epoch, .bool s.asks, .string (str s.body), .bool s.sent, .int .i64 s.at_] 61 (0, 0))) := Lib.hid ((hal.block P7 (ltb HP7_11.out)).trans HP7_11.out)
        have HP9_12 : Hid (w12.heap[P9]? = some (.cells #[.int .i64 kd, .slice bA l.length bc, .int .i64 now, .bool near, .int .i64 (v2 0), .int .i64 (v2 1), .int .i64 (v2 2), .int .i64 (v2 3), .int .i64 (v2 4), .int .i64 (v2 5), .int .i64 (v2 6), .int .i64 (v2 7), .int .i64 (v2 8), .int .i64 (v2 9), .int .i64 (v2 10), .int .i64 (v2 11), .int .i64 (v2 12), .int .i64 (v2 13), .int .i64 (v2 14), .int .i64 (v2 15), .int .i64 (v2 16), .slice B nb cb, .int .i64 (v2 18), .int .i64 (v2 19), .int .i64 (v2 20)] 63 (0, 0))) := Lib.hid ((hal.block P9 (ltb HP9_11.out)).trans HP9_11.out)
        have HC_12 : Hid (CAt w12 gc (askD s l) A' c') := Lib.hid (HC_11.out.below hal)
        clear hal HB_11 HP7_11 HP9_11 HC_11
        have HP12_12 := Lib.hid hnew
        clear hnew
        go_upto_region 28 with (refine wpList_store_row rfl 61 (.tmp 12) (.tmp 116) rfl w11.heap.size _ rfl rfl 61 _ (heap_alloc_new w11 _) (by kernel_rfl) rfl (by simp [Value.oneCell']) ?_; rw [World.setRow_alloc_new])
        rw [← hw20]
        clear hw20
        rw [← hP12]
        clear hP12
        have HST := HP7_12
        have K21 := HP12_12
        obtain ⟨w13, hw22⟩ : ∃ y, y = w12.setRow P7 #[.int .i64 ((askD s l).id), .int .i64 ((askD s l).seq), .int .i64 ((askD s l).epoch), .bool ((askD s l).asks), .string (str (askD s l).body), .bool ((askD s l).sent), .int .i64 ((askD s l).at_)] := ⟨_, rfl⟩
        have hch := Ch.ofRow HP7_12.out #[.int .i64 ((askD s l).id), .int .i64 ((askD s l).seq), .int .i64 ((askD s l).epoch), .bool ((askD s l).asks), .string (str (askD s l).body), .bool ((askD s l).sent), .int .i64 ((askD s l).at_)]
        rw [← hw22] at hch
        have hnew : w13.heap[P7]? = some (.cells #[.int .i64 ((askD s l).id), .int .i64 ((askD s l).seq), .int .i64 ((askD s l).epoch), .bool ((askD s l).asks), .string (str (askD s l).body), .bool ((askD s l).sent), .int .i64 ((askD s l).at_)] 61 (0, 0)) := by rw [hw22]; exact setRow_heap _ _ _ _ _ _ HP7_12.out
        have HB_13 : Hid (Below w.heap.size w w13) := Lib.hid (hch.below HB_12.out HB_12.out.size (fun k hk => by injection hk with hk; omega))
        have HP9_13 : Hid (w13.heap[P9]? = some (.cells #[.int .i64 kd, .slice bA l.length bc, .int .i64 now, .bool near, .int .i64 (v2 0), .int .i64 (v2 1), .int .i64 (v2 2), .int .i64 (v2 3), .int .i64 (v2 4), .int .i64 (v2 5), .int .i64 (v2 6), .int .i64 (v2 7), .int .i64 (v2 8), .int .i64 (v2 9), .int .i64 (v2 10), .int .i64 (v2 11), .int .i64 (v2 12), .int .i64 (v2 13), .int .i64 (v2 14), .int .i64 (v2 15), .int .i64 (v2 16), .slice B nb cb, .int .i64 (v2 18), .int .i64 (v2 19), .int .i64 (v2 20)] 63 (0, 0))) := Lib.hid (hch.blk HP9_12.out (by show (63 + 1 : Nat) ≠ _; decide))
        have HC_13 : Hid (CAt w13 gc (askD s l) A' c') := Lib.hid (hch.cat HC_12.out (by decide) (by decide))
        have HP12_13 : Hid (w13.heap[P12]? = some (.cells #[.int .i64 ((askD s l).id), .int .i64 ((askD s l).seq), .int .i64 ((askD s l).epoch), .bool ((askD s l).asks), .string (str (askD s l).body), .bool ((askD s l).sent), .int .i64 ((askD s l).at_)] 61 (0, 0))) := Lib.hid (hch.blkN HP12_12.out (by intro e; injection e with e; omega))
        clear hch HB_12 HP9_12 HC_12 HP12_12
        have HP7_13 := Lib.hid hnew
        clear hnew HP7_12
        go_upto_region 29 with (first | (refine wpList_load_row rfl 61 (.tmp 12) rfl P12 rfl 61 _ (0, 0) _ K21.out Try.underlying61 rfl (by kernel_rfl) ?_) | (refine wpList_store_row rfl 61 (.tmp 7) (.tmp 118) rfl P7 _ rfl rfl 61 _ HST.out (by kernel_rfl) rfl (by simp [Value.oneCell']) ?_))
        clear K21 HST
        rw [← hw22]
        clear hw22
        go_wp2_with fail
        refine (state_any gc (askD s l) A' c' w13 HC_13.out).mono ?_
        rintro e w14 ⟨rfl, m, hm⟩
        have hb : Below w13.heap.size w13 w14 := by rw [hm]; exact below_dn (Below.refl _ _)
        clear hm
        have HB_14 : Hid (Below w.heap.size w w14) := Lib.hid (HB_13.out.trans (hb.mono HB_13.out.size))
        have HP9_14 : Hid (w14.heap[P9]? = some (.cells #[.int .i64 kd, .slice bA l.length bc, .int .i64 now, .bool near, .int .i64 (v2 0), .int .i64 (v2 1), .int .i64 (v2 2), .int .i64 (v2 3), .int .i64 (v2 4), .int .i64 (v2 5), .int .i64 (v2 6), .int .i64 (v2 7), .int .i64 (v2 8), .int .i64 (v2 9), .int .i64 (v2 10), .int .i64 (v2 11), .int .i64 (v2 12), .int .i64 (v2 13), .int .i64 (v2 14), .int .i64 (v2 15), .int .i64 (v2 16), .slice B nb cb, .int .i64 (v2 18), .int .i64 (v2 19), .int .i64 (v2 20)] 63 (0, 0))) := Lib.hid ((hb.block P9 (ltb HP9_13.out)).trans HP9_13.out)
        have HC_14 : Hid (CAt w14 gc (askD s l) A' c') := Lib.hid (HC_13.out.below hb)
        have HP12_14 : Hid (w14.heap[P12]? = some (.cells #[.int .i64 ((askD s l).id), .int .i64 ((askD s l).seq), .int .i64 ((askD s l).epoch), .bool ((askD s l).asks), .string (str (askD s l).body), .bool ((askD s l).sent), .int .i64 ((askD s l).at_)] 61 (0, 0))) := Lib.hid ((hb.block P12 (ltb HP12_13.out)).trans HP12_13.out)
        have HP7_14 : Hid (w14.heap[P7]? = some (.cells #[.int .i64 ((askD s l).id), .int .i64 ((askD s l).seq), .int .i64 ((askD s l).epoch), .bool ((askD s l).asks), .string (str (askD s l).body), .bool ((askD s l).sent), .int .i64 ((askD s l).at_)] 61 (0, 0))) := Lib.hid ((hb.block P7 (ltb HP7_13.out)).trans HP7_13.out)
        clear hb HB_13 HP9_13 HC_13 HP12_13 HP7_13
        have cc23 : w14.cell? ⟨P7, 1, none⟩ = some (.int .i64 ((askD s l).seq)) := cellb (i := 1) HP7_14.out rfl
        have cc24 : w14.cell? ⟨P7, 2, none⟩ = some (.int .i64 ((askD s l).epoch)) := cellb (i := 2) HP7_14.out rfl
        have cc25 : w14.cell? ⟨P7, 3, none⟩ = some (.bool ((askD s l).asks)) := cellb (i := 3) HP7_14.out rfl
        go_upto_region 12 with fail
        clear cc23 cc24 cc25
        have hk := askD_keep' s l n4 (by omega) n2
        go_wp2_with fail
        go_roundg (len - (j + 1))
        case measure => omega
        case rel => exact ⟨j + 1, (askD s l), A', c', by omega, by omega, rfl, by go_num, hk.1.trans N1.out, hk.2.1, by rw [hk.2.2.1]; exact n3, hk.2.2.2, HC_14, HP7_14, HB_14⟩
      · skip
        by_cases hno : SendNo s now
        · skip
          have HNO := Lib.hid hno
          clear hno
          have cc26 : w9.cell? ⟨P9, 2, none⟩ = some (.int .i64 now) := cellb (i := 2) HP9_9.out rfl
          go_wp2_with fail
          clear cc26
          refine (send_no gc s A c now w9 HC_9.out HNO.out n3).mono ?_
          rintro e w10 ⟨rfl, hb⟩
          have HB_10 : Hid (Below w.heap.size w w10) := Lib.hid (HB_9.out.trans (hb.mono HB_9.out.size))
          have HC_10 : Hid (CAt w10 gc s A c) := Lib.hid (HC_9.out.below hb)
          have HP7_10 : Hid (w10.heap[P7]? = some (.cells #[.int .i64 s.id, .int .i64 s.seq, .int .i64 s.epoch, .bool s.asks, .string (str s.body), .bool s.sent, .int .i64 s.at_] 61 (0, 0))) := Lib.hid ((hb.block P7 (ltb HP7_9.out)).trans HP7_9.out)
          have HP9_10 : Hid (w10.heap[P9]? = some (.cells #[.int .i64 kd, .slice bA l.length bc, .int .i64 now, .bool near, .int .i64 (v2 0), .int .i64 (v2 1), .int .i64 (v2 2), .int .i64 (v2 3), .int .i64 (v2 4), .int .i64 (v2 5), .int .i64 (v2 6), .int .i64 (v2 7), .int .i64 (v2 8), .int .i64 (v2 9), .int .i64 (v2 10), .int .i64 (v2 11), .int .i64 (v2 12), .int .i64 (v2 13), .int .i64 (v2 14), .int .i64 (v2 15), .int .i64 (v2 16), .slice B nb cb, .int .i64 (v2 18), .int .i64 (v2 19), .int .i64 (v2 20)] 63 (0, 0))) := Lib.hid ((hb.block P9 (ltb HP9_9.out)).trans HP9_9.out)
          clear hb HB_9 HC_9 HP7_9 HP9_9
          obtain ⟨P14, hP14⟩ : ∃ x, x = w10.heap.size := ⟨_, rfl⟩
          have loP14 : w.heap.size ≤ P14 := (by have := HB_10.out.size; omega)
          obtain ⟨w11, hw27⟩ : ∃ y, y = w10.alloc (.cells #[.int .i64 0, .int .i64 0, .int .i64 0, .int .i64 0, .int .i64 0, .int .i64 0, .int .i64 0, .int .i64 0, .int .i64 0, .int .i64 0, .int .i64 0, .int .i64 0, .int .i64 0, .int .i64 0, .int .i64 0, .int .i64 0, .int .i64 0, .slice none 0 0, .int .i64 0, .int .i64 0, .int .i64 0] 36) := ⟨_, rfl⟩
          have hal : Below w10.heap.size w10 w11 := by rw [hw27]; exact (Below.refl _ _).alloc (Nat.le_refl _) _
          have hnew : w11.heap[P14]? = some (.cells (mcv (fun _ => 0) (.slice none 0 0)) 36 (0, 0)) := by rw [hw27, hP14]; exact heap_alloc_new _ _
          have HB_11 : Hid (Below w.heap.size w w11) := Lib.hid (HB_10.out.trans (hal.mono HB_10.out.size))
          have HC_11 : Hid (CAt w11 gc s A c) := Lib.hid (HC_10.out.below hal)
          have HP7_11 : Hid (w11.heap[P7]? = some (.cells #[.int .i64 s.id, .int .i64 s.seq, .int .i64 s.epoch, .bool s.asks, .string (str s.body), .bool s.sent, .int .i64 s.at_] 61 (0, 0))) := Lib.hid ((hal.block P7 (ltb HP7_10.out)).trans HP7_10.out)
          have HP9_11 : Hid (w11.heap[P9]? = some (.cells #[.int .i64 kd, .slice bA l.length bc, .int .i64 now, .bool near, .int .i64 (v2 0), .int .i64 (v2 1), .int .i64 (v2 2), .int .i64 (v2 3), .int .i64 (v2 4), .int .i64 (v2 5), .int .i64 (v2 6), .int .i64 (v2 7), .int .i64 (v2 8), .int .i64 (v2 9), .int .i64 (v2 10), .int .i64 (v2 11), .int .i64 (v2 12), .int .i64 (v2 13), .int .i64 (v2 14), .int .i64 (v2 15), .int .i64 (v2 16), .slice B nb cb, .int .i64 (v2 18), .int .i64 (v2 19), .int .i64 (v2 20)] 63 (0, 0))) := Lib.hid ((hal.block P9 (ltb HP9_10.out)).trans HP9_10.out)
          clear hal HB_10 HC_10 HP7_10 HP9_10
          have HP14_11 := Lib.hid hnew
          clear hnew
          go_upto_region 33 with (refine wpList_store_row rfl 36 (.tmp 14) (.tmp 130) rfl w10.heap.size _ rfl rfl 36 _ (heap_alloc_new w10 _) (by kernel_rfl) rfl (by simp [Value.oneCell']) ?_; rw [World.setRow_alloc_new])
          rw [← hw27]
          clear hw27
          rw [← hP14]
          clear hP14
          have K28 := HP7_11
          have cc29 : w11.cell? ⟨P9, 2, none⟩ = some (.int .i64 now) := cellb (i := 2) HP9_11.out rfl
          go_wp2_with (refine wpList_load_row rfl 61 (.tmp 7) rfl P7 rfl 61 _ (0, 0) _ K28.out Try.underlying61 rfl (by kernel_rfl) ?_)
          clear K28 cc29
          refine (rsend_any s now w11 n4).mono ?_
          rintro e w12 ⟨hp1, hp2, hb⟩
          have he := hp1 HNO.out
          subst he
          clear hp1 hp2
          have HB_12 : Hid (Below w.heap.size w w12) := Lib.hid (HB_11.out.trans (hb.mono HB_11.out.size))
          have HC_12 : Hid (CAt w12 gc s A c) := Lib.hid (HC_11.out.below hb)
          have HP7_12 : Hid (w12.heap[P7]? = some (.cells #[.int .i64 s.id, .int .i64 s.seq, .int .i64 s.epoch, .bool s.asks, .string (str s.body), .bool s.sent, .int .i64 s.at_] 61 (0, 0))) := Lib.hid ((hb.block P7 (ltb HP7_11.out)).trans HP7_11.out)
          have HP9_12 : Hid (w12.heap[P9]? = some (.cells #[.int .i64 kd, .slice bA l.length bc, .int .i64 now, .bool near, .int .i64 (v2 0), .int .i64 (v2 1), .int .i64 (v2 2), .int .i64 (v2 3), .int .i64 (v2 4), .int .i64 (v2 5), .int .i64 (v2 6), .int .i64 (v2 7), .int .i64 (v2 8), .int .i64 (v2 9), .int .i64 (v2 10), .int .i64 (v2 11), .int .i64 (v2 12), .int .i64 (v2 13), .int .i64 (v2 14), .int .i64 (v2 15), .int .i64 (v2 16), .slice B nb cb, .int .i64 (v2 18), .int .i64 (v2 19), .int .i64 (v2 20)] 63 (0, 0))) := Lib.hid ((hb.block P9 (ltb HP9_11.out)).trans HP9_11.out)
          have HP14_12 : Hid (w12.heap[P14]? = some (.cells (mcv (fun _ => 0) (.slice none 0 0)) 36 (0, 0))) := Lib.hid ((hb.block P14 (ltb HP14_11.out)).trans HP14_11.out)
          clear hb HB_11 HC_11 HP7_11 HP9_11 HP14_11
          obtain ⟨P16, hP16⟩ : ∃ x, x = w12.heap.size := ⟨_, rfl⟩
          have loP16 : w.heap.size ≤ P16 := (by have := HB_12.out.size; omega)
          have oP16_P7 : P7 < P16 := (by have := ltb HP7_12.out; omega)
          obtain ⟨w13, hw30⟩ : ∃ y, y = w12.alloc (.cells #[.int .i64 s.id, .int .i64 s.seq, .int .i64 s.epoch, .bool s.asks, .string (str s.body), .bool s.sent, .int .i64 s.at_] 61) := ⟨_, rfl⟩
          have hal : Below w12.heap.size w12 w13 := by rw [hw30]; exact (Below.refl _ _).alloc (Nat.le_refl _) _
          have hnew : w13.heap[P16]? = some (.cells #[.int .i64 s.id, .int .i64 s.seq, .int .i64 s.epoch, .bool s.asks, .string (str s.body), .bool s.sent, .int .i64 s.at_] 61 (0, 0)) := by rw [hw30, hP16]; exact heap_alloc_new _ _
          have HB_13 : Hid (Below w.heap.size w w13) := Lib.hid (HB_12.out.trans (hal.mono HB_12.out.size))
          have HC_13 : Hid (CAt w13 gc s A c) := Lib.hid (HC_12.out.below hal)
          have HP7_13 : Hid (w13.heap[P7]? = some (.cells #[.int .i64 s.id, .int .i64 s.seq, .int .i64 s.epoch, .bool s.asks, .string (str s.body), .bool s.sent, .int .i64 s.at_] 61 (0, 0))) := Lib.hid ((hal.block P7 (ltb HP7_12.out)).trans HP7_12.out)
          have HP9_13 : Hid (w13.heap[P9]? = some (.cells #[.int .i64 kd, .slice bA l.length bc, .int .i64 now, .bool near, .int .i64 (v2 0), .int .i64 (v2 1), .int .i64 (v2 2), .int .i64 (v2 3), .int .i64 (v2 4), .int .i64 (v2 5), .int .i64 (v2 6), .int .i64 (v2 7), .int .i64 (v2 8), .int .i64 (v2 9), .int .i64 (v2 10), .int .i64 (v2 11), .int .i64 (v2 12), .int .i64 (v2 13), .int .i64 (v2 14), .int .i64 (v2 15), .int .i64 (v2 16), .slice B nb cb, .int .i64 (v2 18), .int .i64 (v2 19), .int .i64 (v2 20)] 63 (0, 0))) := Lib.hid ((hal.block P9 (ltb HP9_12.out)).trans HP9_12.out)
          have HP14_13 : Hid (w13.heap[P14]? = some (.cells (mcv (fun _ => 0) (.slice none 0 0)) 36 (0, 0))) := Lib.hid ((hal.block P14 (ltb HP14_12.out)).trans HP14_12.out)
          clear hal HB_12 HC_12 HP7_12 HP9_12 HP14_12
          have HP16_13 := Lib.hid hnew
          clear hnew
          obtain ⟨w14, hw31⟩ : ∃ y, y = w13.alloc (.cells #[.int .i64 0, .int .i64 0, .int .i64 0, .int .i64 0, .int .i64 0, .int .i64 0, .int .i64 0, .int .i64 0, .int .i64 0, .int .i64 0, .int .i64 0, .int .i64 0, .int .i64 0, .int .i64 0, .int .i64 0, .int .i64 0, .int .i64 0, .slice none 0 0, .int .i64 0, .int .i64 0, .int .i64 0] 36) := ⟨_, rfl⟩
          have hal : Below w13.heap.size w13 w14 := by rw [hw31]; exact (Below.refl _ _).alloc (Nat.le_refl _) _
          have hnew : w14.heap[(P16 + 1)]? = some (.cells (mcv (fun _ => 0) (.slice none 0 0)) 36 (0, 0)) := by rw [hw31]; exact alloc_at _ _ _ (by simp [hw30, hP16])
          have HB_14 : Hid (Below w.heap.size w w14) := Lib.hid (HB_13.out.trans (hal.mono HB_13.out.size))
          have HC_14 : Hid (CAt w14 gc s A c) := Lib.hid (HC_13.out.below hal)
          have HP7_14 : Hid (w14.heap[P7]? = some (.cells #[.int .i64 s.id, .int .i64 s.seq, .int .i64 s.epoch, .bool s.asks, .string (str s.body), .bool s.sent, .int .i64 s.at_] 61 (0, 0))) := Lib.hid ((hal.block P7 (ltb HP7_13.out)).trans HP7_13.out)
          have HP9_14 : Hid (w14.heap[P9]? = some (.cells #[.int .i64 kd, .slice bA l.length bc, .int .i64 now, .bool near, .int .i64 (v2 0), .int .i64 (v2 1), .int .i64 (v2 2), .int .i64 (v2 3), .int .i64 (v2 4), .int .i64 (v2 5), .int .i64 (v2 6), .int .i64 (v2 7), .int .i64 (v2 8), .int .i64 (v2 9), .int .i64 (v2 10), .int .i64 (v2 11), .int .i64 (v2 12), .int .i64 (v2 13), .int .i64 (v2 14), .int .i64 (v2 15), .int .i64 (v2 16), .slice B nb cb, .int .i64 (v2 18), .int .i64 (v2 19), .int .i64 (v2 20)] 63 (0, 0))) := Lib.hid ((hal.block P9 (ltb HP9_13.out)).trans HP9_13.out)
          have HP14_14 : Hid (w14.heap[P14]? = some (.cells (mcv (fun _ => 0) (.slice none 0 0)) 36 (0, 0))) := Lib.hid ((hal.block P14 (ltb HP14_13.out)).trans HP14_13.out)
          have HP16_14 : Hid (w14.heap[P16]? = some (.cells #[.int .i64 s.id, .int .i64 s.seq, .int .i64 s.epoch, .bool s.asks, .string (str s.body), .bool s.sent, .int .i64 s.at_] 61 (0, 0))) := Lib.hid ((hal.block P16 (ltb HP16_13.out)).trans HP16_13.out)
          clear hal HB_13 HC_13 HP7_13 HP9_13 HP14_13 HP16_13
          have HP17_14 := Lib.hid hnew
          clear hnew
          go_upto_region 34 with (first | (refine wpList_store_row rfl 61 (.tmp 16) (.tmp 137) rfl w12.heap.size _ rfl rfl 61 _ (alloc2_first w12 _ _) (by kernel_rfl) rfl (by simp [Value.oneCell']) ?_; rw [setRow_alloc2_first]) | (refine wpList_store_row rfl 36 (.tmp 17) (.tmp 138) rfl (w12.heap.size + 1) _ rfl rfl 36 _ (alloc2_second w12 _ _) (by kernel_rfl) rfl (by simp [Value.oneCell']) ?_; rw [setRow_alloc2_second]))
          rw [← hw30]
          clear hw30
          rw [← hw31]
          clear hw31
          rw [← hP16]
          clear hP16
          have HST := HP7_14
          have K32 := HP16_14
          obtain ⟨w15, hw33⟩ : ∃ y, y = w14.setRow P7 #[.int .i64 s.id, .int .i64 s.seq, .int .i64 s.epoch, .bool s.asks, .string (str s.body), .bool s.sent, .int .i64 s.at_] := ⟨_, rfl⟩
          have hch := Ch.ofRow HP7_14.out #[.int .i64 s.id, .int .i64 s.seq, .int .i64 s.epoch, .bool s.asks, .string (str s.body), .bool s.sent, .int .i64 s.at_]
          rw [← hw33] at hch
          have hnew : w15.heap[P7]? = some (.cells #[.int .i64 s.id, .int .i64 s.seq, .int .i64 s.epoch, .bool s.asks, .string (str s.body), .bool s.sent, .int .i64 s.at_] 61 (0, 0)) := by rw [hw33]; exact setRow_heap _ _ _ _ _ _ HP7_14.out
          have HB_15 : Hid (Below w.heap.size w w15) := Lib.hid (hch.below HB_14.out HB_14.out.size (fun k hk => by injection hk with hk; omega))
          have HC_15 : Hid (CAt w15 gc s A c) := Lib.hid (hch.cat HC_14.out (by decide) (by decide))
          have HP9_15 : Hid (w15.heap[P9]? = some (.cells #[.int .i64 kd, .slice bA l.length bc, .int .i64 now, .bool near, .int .i64 (v2 0), .int .i64 (v2 1), .int .i64 (v2 2), .int .i64 (v2 3), .int .i64 (v2 4), .int .i64 (v2 5), .int .i64 (v2 6), .int .i64 (v2 7), .int .i64 (v2 8), .int .i64 (v2 9), .int .i64 (v2 10), .int .i64 (v2 11), .int .i64 (v2 12), .int .i64 (v2 13), .int .i64 (v2 14), .int .i64 (v2 15), .int .i64 (v2 16), .slice B nb cb, .int .i64 (v2 18), .int .i64 (v2 19), .int .i64 (v2 20)] 63 (0, 0))) := Lib.hid (hch.blk HP9_14.out (by show (63 + 1 : Nat) ≠ _; decide))
          have HP14_15 : Hid (w15.heap[P14]? = some (.cells (mcv (fun _ => 0) (.slice none 0 0)) 36 (0, 0))) := Lib.hid (hch.blk HP14_14.out (by show (36 + 1 : Nat) ≠ _; decide))
          have HP16_15 : Hid (w15.heap[P16]? = some (.cells #[.int .i64 s.id, .int .i64 s.seq, .int .i64 s.epoch, .bool s.asks, .string (str s.body), .bool s.sent, .int .i64 s.at_] 61 (0, 0))) := Lib.hid (hch.blkN HP16_14.out (by intro e; injection e with e; omega))
          have HP17_15 : Hid (w15.heap[(P16 + 1)]? = some (.cells (mcv (fun _ => 0) (.slice none 0 0)) 36 (0, 0))) := Lib.hid (hch.blk HP17_14.out (by show (36 + 1 : Nat) ≠ _; decide))
          clear hch HB_14 HC_14 HP9_14 HP14_14 HP16_14 HP17_14
          have HP7_15 := Lib.hid hnew
          clear hnew HP7_14
          go_upto_region 35 with (first | (refine wpList_load_row rfl 61 (.tmp 16) rfl P16 rfl 61 _ (0, 0) _ K32.out Try.underlying61 rfl (by kernel_rfl) ?_) | (refine wpList_store_row rfl 61 (.tmp 7) (.tmp 140) rfl P7 _ rfl rfl 61 _ HST.out (by kernel_rfl) rfl (by simp [Value.oneCell']) ?_))
          clear K32 HST
          rw [← hw33]
          clear hw33
          have K34 := HP14_15
          have K35 := HP17_15
          go_wp2_with (first | (refine wpList_load_g rfl 36 (.tmp 14) rfl P14 rfl 36 #[.int .i64 0, .int .i64 0, .int .i64 0, .int .i64 0, .int .i64 0, .int .i64 0, .int .i64 0, .int .i64 0, .int .i64 0, .int .i64 0, .int .i64 0, .int .i64 0, .int .i64 0, .int .i64 0, .int .i64 0, .int .i64 0, .int .i64 0, .slice none 0 0, .int .i64 0, .int .i64 0, .int .i64 0] (0, 0) _ K34.out Try.underlying36 rfl (by kernel_rfl) ?_) | (refine wpList_load_g rfl 36 (.tmp 17) rfl (P16 + 1) rfl 36 #[.int .i64 0, .int .i64 0, .int .i64 0, .int .i64 0, .int .i64 0, .int .i64 0, .int .i64 0, .int .i64 0, .int .i64 0, .int .i64 0, .int .i64 0, .int .i64 0, .int .i64 0, .int .i64 0, .int .i64 0, .int .i64 0, .int .i64 0, .slice none 0 0, .int .i64 0, .int .i64 0, .int .i64 0] (0, 0) _ K35.out Try.underlying36 rfl (by kernel_rfl) ?_))
          clear K34 K35
          refine (same_eq (fun _ => 0) none none 0 0 0 [] w15 (.emp (by omega)) (.emp (by omega)) rfl).mono ?_
          rintro e w16 ⟨rfl, hb⟩
          have HB_16 : Hid (Below w.heap.size w w16) := Lib.hid (HB_15.out.trans (hb.mono HB_15.out.size))
          have HC_16 : Hid (CAt w16 gc s A c) := Lib.hid (HC_15.out.below hb)
          have HP9_16 : Hid (w16.heap[P9]? = some (.cells #[.int .i64 kd, .slice bA l.length bc, .int .i64 now, .bool near, .int .i64 (v2 0), .int .i64 (v2 1), .int .i64 (v2 2), .int .i64 (v2 3), .int .i64 (v2 4), .int .i64 (v2 5), .int .i64 (v2 6), .int .i64 (v2 7), .int .i64 (v2 8), .int .i64 (v2 9), .int .i64 (v2 10), .int .i64 (v2 11), .int .i64 (v2 12), .int .i64 (v2 13), .int .i64 (v2 14), .int .i64 (v2 15), .int .i64 (v2 16), .slice B nb cb, .int .i64 (v2 18), .int .i64 (v2 19), .int .i64 (v2 20)] 63 (0, 0))) := Lib.hid ((hb.block P9 (ltb HP9_15.out)).trans HP9_15.out)
          have HP14_16 : Hid (w16.heap[P14]? = some (.cells (mcv (fun _ => 0) (.slice none 0 0)) 36 (0, 0))) := Lib.hid ((hb.block P14 (ltb HP14_15.out)).trans HP14_15.out)
          have HP16_16 : Hid (w16.heap[P16]? = some (.cells #[.int .i64 s.id, .int .i64 s.seq, .int .i64 s.epoch, .bool s.asks, .string (str s.body), .bool s.sent, .int .i64 s.at_] 61 (0, 0))) := Lib.hid ((hb.block P16 (ltb HP16_15.out)).trans HP16_15.out)
          have HP17_16 : Hid (w16.heap[(P16 + 1)]? = some (.cells (mcv (fun _ => 0) (.slice none 0 0)) 36 (0, 0))) := Lib.hid ((hb.block (P16 + 1) (ltb HP17_15.out)).trans HP17_15.out)
          have HP7_16 : Hid (w16.heap[P7]? = some (.cells #[.int .i64 s.id, .int .i64 s.seq, .int .i64 s.epoch, .bool s.asks, .string (str s.body), .bool s.sent, .int .i64 s.at_] 61 (0, 0))) := Lib.hid ((hb.block P7 (ltb HP7_15.out)).trans HP7_15.out)
          clear hb HB_15 HC_15 HP9_15 HP14_15 HP16_15 HP17_15 HP7_15
          go_wp2_with fail
          refine (state_any gc s A c w16 HC_16.out).mono ?_
          rintro e w17 ⟨rfl, m, hm⟩
          have hb : Below w16.heap.size w16 w17 := by rw [hm]; exact below_dn (Below.refl _ _)
          clear hm
          have HB_17 : Hid (Below w.heap.size w w17) := Lib.hid (HB_16.out.trans (hb.mono HB_16.out.size))
          have HC_17 : Hid (CAt w17 gc s A c) := Lib.hid (HC_16.out.below hb)
          have HP9_17 : Hid (w17.heap[P9]? = some (.cells #[.int .i64 kd, .slice bA l.length bc, .int .i64 now, .bool near, .int .i64 (v2 0), .int .i64 (v2 1), .int .i64 (v2 2), .int .i64 (v2 3), .int .i64 (v2 4), .int .i64 (v2 5), .int .i64 (v2 6), .int .i64 (v2 7), .int .i64 (v2 8), .int .i64 (v2 9), .int .i64 (v2 10), .int .i64 (v2 11), .int .i64 (v2 12), .int .i64 (v2 13), .int .i64 (v2 14), .int .i64 (v2 15), .int .i64 (v2 16), .slice B nb cb, .int .i64 (v2 18), .int .i64 (v2 19), .int .i64 (v2 20)] 63 (0, 0))) := Lib.hid ((hb.block P9 (ltb HP9_16.out)).trans HP9_16.out)
          have HP14_17 : Hid (w17.heap[P14]? = some (.cells (mcv (fun _ => 0) (.slice none 0 0)) 36 (0, 0))) := Lib.hid ((hb.block P14 (ltb HP14_16.out)).trans HP14_16.out)
          have HP16_17 : Hid (w17.heap[P16]? = some (.cells #[.int .i64 s.id, .int .i64 s.seq, .int .i64 s.epoch, .bool s.asks, .string (str s.body), .bool s.sent, .int .i64 s.at_] 61 (0, 0))) := Lib.hid ((hb.block P16 (ltb HP16_16.out)).trans HP16_16.out)
          have HP17_17 : Hid (w17.heap[(P16 + 1)]? = some (.cells (mcv (fun _ => 0) (.slice none 0 0)) 36 (0, 0))) := Lib.hid ((hb.block (P16 + 1) (ltb HP17_16.out)).trans HP17_16.out)
          have HP7_17 : Hid (w17.heap[P7]? = some (.cells #[.int .i64 s.id, .int .i64 s.seq, .int .i64 s.epoch, .bool s.asks, .string (str s.body), .bool s.sent, .int .i64 s.at_] 61 (0, 0))) := Lib.hid ((hb.block P7 (ltb HP7_16.out)).trans HP7_16.out)
          clear hb HB_16 HC_16 HP9_16 HP14_16 HP16_16 HP17_16 HP7_16
          have cc36 : w17.cell? ⟨P7, 1, none⟩ = some (.int .i64 s.seq) := cellb (i := 1) HP7_17.out rfl
          have cc37 : w17.cell? ⟨P7, 2, none⟩ = some (.int .i64 s.epoch) := cellb (i := 2) HP7_17.out rfl
          have cc38 : w17.cell? ⟨P7, 3, none⟩ = some (.bool s.asks) := cellb (i := 3) HP7_17.out rfl
          go_upto_region 12 with fail
          clear cc36 cc37 cc38
          go_wp2_with fail
          go_roundg (len - (j + 1))
          case measure => omega
          case rel => exact ⟨j + 1, s, A, c, by omega, by omega, rfl, by go_num, N1.out, n2, n3, n4, HC_17, HP7_17, HB_17⟩
        · skip
          have HNO := Lib.hid hno
          clear hno
          have cc39 : w9.cell? ⟨P9, 2, none⟩ = some (.int .i64 now) := cellb (i := 2) HP9_9.out rfl
          go_wp2_with fail
          clear cc39
          refine (send_ok gc s A c now w9 HC_9.out HNO.out n4 n3).mono ?_
          rintro e w10 ⟨A', c', rfl, hc, ho, hg⟩
          have hch := Ch.ofChg HC_9.out.blk hg
          clear hg HC_9
          obtain ⟨bo, hbo⟩ : ∃ y, y = w9.heap.size := ⟨_, rfl⟩
          rw [← hbo] at ho
          clear hbo
          have HB_10 : Hid (Below w.heap.size w w10) := Lib.hid (hch.below HB_9.out HB_9.out.size (fun k hk => by injection hk with hk; omega))
          have HP7_10 : Hid (w10.heap[P7]? = some (.cells #[.int .i64 s.id, .int .i64 s.seq, .int .i64 s.epoch, .bool s.asks, .string (str s.body), .bool s.sent, .int .i64 s.at_] 61 (0, 0))) := Lib.hid (hch.blk HP7_9.out (by show (61 + 1 : Nat) ≠ _; decide))
          have HP9_10 : Hid (w10.heap[P9]? = some (.cells #[.int .i64 kd, .slice bA l.length bc, .int .i64 now, .bool near, .int .i64 (v2 0), .int .i64 (v2 1), .int .i64 (v2 2), .int .i64 (v2 3), .int .i64 (v2 4), .int .i64 (v2 5), .int .i64 (v2 6), .int .i64 (v2 7), .int .i64 (v2 8), .int .i64 (v2 9), .int .i64 (v2 10), .int .i64 (v2 11), .int .i64 (v2 12), .int .i64 (v2 13), .int .i64 (v2 14), .int .i64 (v2 15), .int .i64 (v2 16), .slice B nb cb, .int .i64 (v2 18), .int .i64 (v2 19), .int .i64 (v2 20)] 63 (0, 0))) := Lib.hid (hch.blk HP9_9.out (by show (63 + 1 : Nat) ≠ _; decide))
          clear hch HB_9 HP7_9 HP9_9
          have HC_10 : Hid (CAt w10 gc { s with sent := true, at_ := now } A c) := Lib.hid hc
          have HO_10 : Hid (w10.ownsRow bo 5 1 (.slice A' s.body.length c') s.body.length (cells8 s.body)) := Lib.hid ho
          clear hc ho
          obtain ⟨P14, hP14⟩ : ∃ x, x = w10.heap.size := ⟨_, rfl⟩
          have loP14 : w.heap.size ≤ P14 := (by have := HB_10.out.size; omega)
          obtain ⟨w11, hw40⟩ : ∃ y, y = w10.alloc (.cells #[.int .i64 7, .int .i64 s.epoch, .int .i64 0, .int .i64 0, .int .i64 0, .int .i64 0, .int .i64 0, .int .i64 0, .int .i64 0, .int .i64 0, .int .i64 0, .int .i64 0, .int .i64 0, .int .i64 0, .int .i64 0, .int .i64 s.id, .int .i64 s.seq, .slice A' s.body.length c', .int .i64 0, .int .i64 0, .int .i64 0] 36) := ⟨_, rfl⟩
          have hal : Below w10.heap.size w10 w11 := by rw [hw40]; exact (Below.refl _ _).alloc (Nat.le_refl _) _
          have hnew : w11.heap[P14]? = some (.cells #[.int .i64 7, .int .i64 s.epoch, .int .i64 0, .int .i64 0, .int .i64 0, .int .i64 0, .int .i64 0, .int .i64 0, .int .i64 0, .int .i64 0, .int .i64 0, .int .i64 0, .int .i64 0, .int .i64 0, .int .i64 0, .int .i64 s.id, .int .i64 s.seq, .slice A' s.body.length c', .int .i64 0, .int .i64 0, .int .i64 0] 36 (0, 0)) := by rw [hw40, hP14]; exact heap_alloc_new _ _
          have HB_11 : Hid (Below w.heap.size w w11) := Lib.hid (HB_10.out.trans (hal.mono HB_10.out.size))
          have HP7_11 : Hid (w11.heap[P7]? = some (.cells #[.int .i64 s.id, .int .i64 s.seq, .int .i64 s.epoch, .bool s.asks, .string (str s.body), .bool s.sent, .int .i64 s.at_] 61 (0, 0))) := Lib.hid ((hal.block P7 (ltb HP7_10.out)).trans HP7_10.out)
          have HP9_11 : Hid (w11.heap[P9]? = some (.cells #[.int .i64 kd, .slice bA l.length bc, .int .i64 now, .bool near, .int .i64 (v2 0), .int .i64 (v2 1), .int .i64 (v2 2), .int .i64 (v2 3), .int .i64 (v2 4), .int .i64 (v2 5), .int .i64 (v2 6), .int .i64 (v2 7), .int .i64 (v2 8), .int .i64 (v2 9), .int .i64 (v2 10), .int .i64 (v2 11), .int .i64 (v2 12), .int .i64 (v2 13), .int .i64 (v2 14), .int .i64 (v2 15), .int .i64 (v2 16), .slice B nb cb, .int .i64 (v2 18), .int .i64 (v2 19), .int .i64 (v2 20)] 63 (0, 0))) := Lib.hid ((hal.block P9 (ltb HP9_10.out)).trans HP9_10.out)
          have HC_11 : Hid (CAt w11 gc { s with sent := true, at_ := now } A c) := Lib.hid (HC_10.out.below hal)
          have HO_11 : Hid (w11.ownsRow bo 5 1 (.slice A' s.body.length c') s.body.length (cells8 s.body)) := Lib.hid ((Chg.of_below (S := fun _ => False) hal).own HO_10.out (fun _ _ h => h))
          clear hal HB_10 HP7_10 HP9_10 HC_10 HO_10
          have HP14_11 := Lib.hid hnew
          clear hnew
          go_upto_region 33 with (refine wpList_store_row rfl 36 (.tmp 14) (.tmp 130) rfl w10.heap.size _ rfl rfl 36 _ (heap_alloc_new w10 _) (by kernel_rfl) rfl (by simp [Value.oneCell']) ?_; rw [World.setRow_alloc_new])
          rw [← hw40]
          clear hw40
          rw [← hP14]
          clear hP14
          have K41 := HP7_11
          have cc42 : w11.cell? ⟨P9, 2, none⟩ = some (.int .i64 now) := cellb (i := 2) HP9_11.out rfl
          go_wp2_with (refine wpList_load_row rfl 61 (.tmp 7) rfl P7 rfl 61 _ (0, 0) _ K41.out Try.underlying61 rfl (by kernel_rfl) ?_)
          clear K41 cc42
          refine (rsend_any s now w11 n4).mono ?_
          rintro e w12 ⟨hp1, hp2, hb⟩
          obtain ⟨b5, c5, cs5, f5, he, h5, hby5⟩ := hp2 HNO.out
          subst he
          clear hp1 hp2
          have HB_12 : Hid (Below w.heap.size w w12) := Lib.hid (HB_11.out.trans (hb.mono HB_11.out.size))
          have HP7_12 : Hid (w12.heap[P7]? = some (.cells #[.int .i64 s.id, .int .i64 s.seq, .int .i64 s.epoch, .bool s.asks, .string (str s.body), .bool s.sent, .int .i64 s.at_] 61 (0, 0))) := Lib.hid ((hb.block P7 (ltb HP7_11.out)).trans HP7_11.out)
          have HP9_12 : Hid (w12.heap[P9]? = some (.cells #[.int .i64 kd, .slice bA l.length bc, .int .i64 now, .bool near, .int .i64 (v2 0), .int .i64 (v2 1), .int .i64 (v2 2), .int .i64 (v2 3), .int .i64 (v2 4), .int .i64 (v2 5), .int .i64 (v2 6), .int .i64 (v2 7), .int .i64 (v2 8), .int .i64 (v2 9), .int .i64 (v2 10), .int .i64 (v2 11), .int .i64 (v2 12), .int .i64 (v2 13), .int .i64 (v2 14), .int .i64 (v2 15), .int .i64 (v2 16), .slice B nb cb, .int .i64 (v2 18), .int .i64 (v2 19), .int .i64 (v2 20)] 63 (0, 0))) := Lib.hid ((hb.block P9 (ltb HP9_11.out)).trans HP9_11.out)
          have HC_12 : Hid (CAt w12 gc { s with sent := true, at_ := now } A c) := Lib.hid (HC_11.out.below hb)
          have HO_12 : Hid (w12.ownsRow bo 5 1 (.slice A' s.body.length c') s.body.length (cells8 s.body)) := Lib.hid ((Chg.of_below (S := fun _ => False) hb).own HO_11.out (fun _ _ h => h))
          have HP14_12 : Hid (w12.heap[P14]? = some (.cells #[.int .i64 7, .int .i64 s.epoch, .int .i64 0, .int .i64 0, .int .i64 0, .int .i64 0, .int .i64 0, .int .i64 0, .int .i64 0, .int .i64 0, .int .i64 0, .int .i64 0, .int .i64 0, .int .i64 0, .int .i64 0, .int .i64 s.id, .int .i64 s.seq, .slice A' s.body.length c', .int .i64 0, .int .i64 0, .int .i64 0] 36 (0, 0))) := Lib.hid ((hb.block P14 (ltb HP14_11.out)).trans HP14_11.out)
          clear hb HB_11 HP7_11 HP9_11 HC_11 HO_11 HP14_11
          have HP5_12 : Hid (w12.heap[b5]? = some (.cells cs5 5 f5)) := Lib.hid h5
          have HBY5 := Lib.hid hby5
          clear h5 hby5
          obtain ⟨P16, hP16⟩ : ∃ x, x = w12.heap.size := ⟨_, rfl⟩
          have loP16 : w.heap.size ≤ P16 := (by have := HB_12.out.size; omega)
          have oP16_P7 : P7 < P16 := (by have := ltb HP7_12.out; omega)
          obtain ⟨w13, hw43⟩ : ∃ y, y = w12.alloc (.cells #[.int .i64 s.id, .int .i64 s.seq, .int .i64 s.epoch, .bool s.asks, .string (str s.body), .bool true, .int .i64 now] 61) := ⟨_, rfl⟩
          have hal : Below w12.heap.size w12 w13 := by rw [hw43]; exact (Below.refl _ _).alloc (Nat.le_refl _) _
          have hnew : w13.heap[P16]? = some (.cells #[.int .i64 s.id, .int .i64 s.seq, .int .i64 s.epoch, .bool s.asks, .string (str s.body), .bool true, .int .i64 now] 61 (0, 0)) := by rw [hw43, hP16]; exact heap_alloc_new _ _
          have HB_13 : Hid (Below w.heap.size w w13) := Lib.hid (HB_12.out.trans (hal.mono HB_12.out.size))
          have HP7_13 : Hid (w13.heap[P7]? = some (.cells #[.int .i64 s.id, .int .i64 s.seq, .int .i64 s.epoch, .bool s.asks, .string (str s.body), .bool s.sent, .int .i64 s.at_] 61 (0, 0))) := Lib.hid ((hal.block P7 (ltb HP7_12.out)).trans HP7_12.out)
          have HP9_13 : Hid (w13.heap[P9]? = some (.cells #[.int .i64 kd, .slice bA l.length bc, .int .i64 now, .bool near, .int .i64 (v2 0), .int .i64 (v2 1), .int .i64 (v2 2), .int .i64 (v2 3), .int .i64 (v2 4), .int .i64 (v2 5), .int .i64 (v2 6), .int .i64 (v2 7), .int .i64 (v2 8), .int .i64 (v2 9), .int .i64 (v2 10), .int .i64 (v2 11), .int .i64 (v2 12), .int .i64 (v2 13), .int .i64 (v2 14), .int .i64 (v2 15), .int .i64 (v2 16), .slice B nb cb, .int .i64 (v2 18), .int .i64 (v2 19), .int .i64 (v2 20)] 63 (0, 0))) := Lib.hid ((hal.block P9 (ltb HP9_12.out)).trans HP9_12.out)
          have HC_13 : Hid (CAt w13 gc { s with sent := true, at_ := now } A c) := Lib.hid (HC_12.out.below hal)
          have HO_13 : Hid (w13.ownsRow bo 5 1 (.slice A' s.body.length c') s.body.length (cells8 s.body)) := Lib.hid ((Chg.of_below (S := fun _ => False) hal).own HO_12.out (fun _ _ h => h))
          have HP14_13 : Hid (w13.heap[P14]? = some (.cells #[.int .i64 7, .int .i64 s.epoch, .int .i64 0, .int .i64 0, .int .i64 0, .int .i64 0, .int .i64 0, .int .i64 0, .int .i64 0, .int .i64 0, .int .i64 0, .int .i64 0, .int .i64 0, .int .i64 0, .int .i64 0, .int .i64 s.id, .int .i64 s.seq, .slice A' s.body.length c', .int .i64 0, .int .i64 0, .int .i64 0] 36 (0, 0))) := Lib.hid ((hal.block P14 (ltb HP14_12.out)).trans HP14_12.out)
          have HP5_13 : Hid (w13.heap[b5]? = some (.cells cs5 5 f5)) := Lib.hid ((hal.block b5 (ltb HP5_12.out)).trans HP5_12.out)
          clear hal HB_12 HP7_12 HP9_12 HC_12 HO_12 HP14_12 HP5_12
          have HP16_13 := Lib.hid hnew
          clear hnew
          obtain ⟨w14, hw44⟩ : ∃ y, y = w13.alloc (.cells #[.int .i64 7, .int .i64 s.epoch, .int .i64 0, .int .i64 0, .int .i64 0, .int .i64 0, .int .i64 0, .int .i64 0, .int .i64 0, .int .i64 0, .int .i64 0, .int .i64 0, .int .i64 0, .int .i64 0, .int .i64 0, .int .i64 s.id, .int .i64 s.seq, .slice ((some ⟨b5, 0, none⟩)) s.body.length c5, .int .i64 0, .int .i64 0, .int .i64 0] 36) := ⟨_, rfl⟩
          have hal : Below w13.heap.size w13 w14 := by rw [hw44]; exact (Below.refl _ _).alloc (Nat.le_refl _) _
          have hnew : w14.heap[(P16 + 1)]? = some (.cells #[.int .i64 7, .int .i64 s.epoch, .int .i64 0, .int .i64 0, .int .i64 0, .int .i64 0, .int .i64 0, .int .i64 0, .int .i64 0, .int .i64 0, .int .i64 0, .int .i64 0, .int .i64 0, .int .i64 0, .int .i64 0, .int .i64 s.id, .int .i64 s.seq, .slice ((some ⟨b5, 0, none⟩)) s.body.length c5, .int .i64 0, .int .i64 0, .int .i64 0] 36 (0, 0)) := by rw [hw44]; exact alloc_at _ _ _ (by simp [hw43, hP16])
          have HB_14 : Hid (Below w.heap.size w w14) := Lib.hid (HB_13.out.trans (hal.mono HB_13.out.size))
          have HP7_14 : Hid (w14.heap[P7]? = some (.cells #[.int .i64 s.id, .int .i64 s.seq, .int .i64 s.epoch, .bool s.asks, .string (str s.body), .bool s.sent, .int .i64 s.at_] 61 (0, 0))) := Lib.hid ((hal.block P7 (ltb HP7_13.out)).trans HP7_13.out)
          have HP9_14 : Hid (w14.heap[P9]? = some (.cells #[.int .i64 kd, .slice bA l.length bc, .int .i64 now, .bool near, .int .i64 (v2 0), .int .i64 (v2 1), .int .i64 (v2 2), .int .i64 (v2 3), .int .i64 (v2 4), .int .i64 (v2 5), .int .i64 (v2 6), .int .i64 (v2 7), .int .i64 (v2 8), .int .i64 (v2 9), .int .i64 (v2 10), .int .i64 (v2 11), .int .i64 (v2 12), .int .i64 (v2 13), .int .i64 (v2 14), .int .i64 (v2 15), .int .i64 (v2 16), .slice B nb cb, .int .i64 (v2 18), .int .i64 (v2 19), .int .i64 (v2 20)] 63 (0, 0))) := Lib.hid ((hal.block P9 (ltb HP9_13.out)).trans HP9_13.out)
          have HC_14 : Hid (CAt w14 gc { s with sent := true, at_ := now } A c) := Lib.hid (HC_13.out.below hal)
          have HO_14 : Hid (w14.ownsRow bo 5 1 (.slice A' s.body.length c') s.body.length (cells8 s.body)) := Lib.hid ((Chg.of_below (S := fun _ => False) hal).own HO_13.out (fun _ _ h => h))
          have HP14_14 : Hid (w14.heap[P14]? = some (.cells #[.int .i64 7, .int .i64 s.epoch, .int .i64 0, .int .i64 0, .int .i64 0, .int .i64 0, .int .i64 0, .int .i64 0, .int .i64 0, .int .i64 0, .int .i64 0, .int .i64 0, .int .i64 0, .int .i64 0, .int .i64 0, .int .i64 s.id, .int .i64 s.seq, .slice A' s.body.length c', .int .i64 0, .int .i64 0, .int .i64 0] 36 (0, 0))) := Lib.hid ((hal.block P14 (ltb HP14_13.out)).trans HP14_13.out)
          have HP5_14 : Hid (w14.heap[b5]? = some (.cells cs5 5 f5)) := Lib.hid ((hal.block b5 (ltb HP5_13.out)).trans HP5_13.out)
          have HP16_14 : Hid (w14.heap[P16]? = some (.cells #[.int .i64 s.id, .int .i64 s.seq, .int .i64 s.epoch, .bool s.asks, .string (str s.body), .bool true, .int .i64 now] 61 (0, 0))) := Lib.hid ((hal.block P16 (ltb HP16_13.out)).trans HP16_13.out)
          clear hal HB_13 HP7_13 HP9_13 HC_13 HO_13 HP14_13 HP5_13 HP16_13
          have HP17_14 := Lib.hid hnew
          clear hnew
          go_upto_region 34 with (first | (refine wpList_store_row rfl 61 (.tmp 16) (.tmp 137) rfl w12.heap.size _ rfl rfl 61 _ (alloc2_first w12 _ _) (by kernel_rfl) rfl (by simp [Value.oneCell']) ?_; rw [setRow_alloc2_first]) | (refine wpList_store_row rfl 36 (.tmp 17) (.tmp 138) rfl (w12.heap.size + 1) _ rfl rfl 36 _ (alloc2_second w12 _ _) (by kernel_rfl) rfl (by simp [Value.oneCell']) ?_; rw [setRow_alloc2_second]))
          rw [← hw43]
          clear hw43
          rw [← hw44]
          clear hw44
          rw [← hP16]
          clear hP16
          have HST := HP7_14
          have K45 := HP16_14
          obtain ⟨w15, hw46⟩ : ∃ y, y = w14.setRow P7 #[.int .i64 s.id, .int .i64 s.seq, .int .i64 s.epoch, .bool s.asks, .string (str s.body), .bool true, .int .i64 now] := ⟨_, rfl⟩
          have hch := Ch.ofRow HP7_14.out #[.int .i64 s.id, .int .i64 s.seq, .int .i64 s.epoch, .bool s.asks, .string (str s.body), .bool true, .int .i64 now]
          rw [← hw46] at hch
          have hnew : w15.heap[P7]? = some (.cells #[.int .i64 s.id, .int .i64 s.seq, .int .i64 s.epoch, .bool s.asks, .string (str s.body), .bool true, .int .i64 now] 61 (0, 0)) := by rw [hw46]; exact setRow_heap _ _ _ _ _ _ HP7_14.out
          have HB_15 : Hid (Below w.heap.size w w15) := Lib.hid (hch.below HB_14.out HB_14.out.size (fun k hk => by injection hk with hk; omega))
          have HP9_15 : Hid (w15.heap[P9]? = some (.cells #[.int .i64 kd, .slice bA l.length bc, .int .i64 now, .bool near, .int .i64 (v2 0), .int .i64 (v2 1), .int .i64 (v2 2), .int .i64 (v2 3), .int .i64 (v2 4), .int .i64 (v2 5), .int .i64 (v2 6), .int .i64 (v2 7), .int .i64 (v2 8), .int .i64 (v2 9), .int .i64 (v2 10), .int .i64 (v2 11), .int .i64 (v2 12), .int .i64 (v2 13), .int .i64 (v2 14), .int .i64 (v2 15), .int .i64 (v2 16), .slice B nb cb, .int .i64 (v2 18), .int .i64 (v2 19), .int .i64 (v2 20)] 63 (0, 0))) := Lib.hid (hch.blk HP9_14.out (by show (63 + 1 : Nat) ≠ _; decide))
          have HC_15 : Hid (CAt w15 gc { s with sent := true, at_ := now } A c) := Lib.hid (hch.cat HC_14.out (by decide) (by decide))
          have HO_15 : Hid (w15.ownsRow bo 5 1 (.slice A' s.body.length c') s.body.length (cells8 s.body)) := Lib.hid (hch.own HO_14.out (by decide))
          have HP14_15 : Hid (w15.heap[P14]? = some (.cells #[.int .i64 7, .int .i64 s.epoch, .int .i64 0, .int .i64 0, .int .i64 0, .int .i64 0, .int .i64 0, .int .i64 0, .int .i64 0, .int .i64 0, .int .i64 0, .int .i64 0, .int .i64 0, .int .i64 0, .int .i64 0, .int .i64 s.id, .int .i64 s.seq, .slice A' s.body.length c', .int .i64 0, .int .i64 0, .int .i64 0] 36 (0, 0))) := Lib.hid (hch.blk HP14_14.out (by show (36 + 1 : Nat) ≠ _; decide))
          have HP5_15 : Hid (w15.heap[b5]? = some (.cells cs5 5 f5)) := Lib.hid (hch.blk HP5_14.out (by show (5 + 1 : Nat) ≠ _; decide))
          have HP16_15 : Hid (w15.heap[P16]? = some (.cells #[.int .i64 s.id, .int .i64 s.seq, .int .i64 s.epoch, .bool s.asks, .string (str s.body), .bool true, .int .i64 now] 61 (0, 0))) := Lib.hid (hch.blkN HP16_14.out (by intro e; injection e with e; omega))
          have HP17_15 : Hid (w15.heap[(P16 + 1)]? = some (.cells #[.int .i64 7, .int .i64 s.epoch, .int .i64 0, .int .i64 0, .int .i64 0, .int .i64 0, .int .i64 0, .int .i64 0, .int .i64 0, .int .i64 0, .int .i64 0, .int .i64 0, .int .i64 0, .int .i64 0, .int .i64 0, .int .i64 s.id, .int .i64 s.seq, .slice ((some ⟨b5, 0, none⟩)) s.body.length c5, .int .i64 0, .int .i64 0, .int .i64 0] 36 (0, 0))) := Lib.hid (hch.blk HP17_14.out (by show (36 + 1 : Nat) ≠ _; decide))
          clear hch HB_14 HP9_14 HC_14 HO_14 HP14_14 HP5_14 HP16_14 HP17_14
          have HP7_15 := Lib.hid hnew
          clear hnew HP7_14
          go_upto_region 35 with (first | (refine wpList_load_row rfl 61 (.tmp 16) rfl P16 rfl 61 _ (0, 0) _ K45.out Try.underlying61 rfl (by kernel_rfl) ?_) | (refine wpList_store_row rfl 61 (.tmp 7) (.tmp 140) rfl P7 _ rfl rfl 61 _ HST.out (by kernel_rfl) rfl (by simp [Value.oneCell']) ?_))
          clear K45 HST
          rw [← hw46]
          clear hw46
          have K47 := HP14_15
          have K48 := HP17_15
          go_wp2_with (first | (refine wpList_load_g rfl 36 (.tmp 14) rfl P14 rfl 36 _ (0, 0) _ K47.out Try.underlying36 rfl (by kernel_rfl) ?_) | (refine wpList_load_g rfl 36 (.tmp 17) rfl (P16 + 1) rfl 36 _ (0, 0) _ K48.out Try.underlying36 rfl (by kernel_rfl) ?_))
          clear K47 K48
          refine (same_eq (askV s.epoch s.id s.seq) A' (some ⟨b5, 0, none⟩) s.body.length c' c5 s.body w15 (bytesIn_of_own HO_15.out).2 (HBY5.out w15 HP5_15.out) rfl).mono ?_
          rintro e w16 ⟨rfl, hb⟩
          have HB_16 : Hid (Below w.heap.size w w16) := Lib.hid (HB_15.out.trans (hb.mono HB_15.out.size))
          have HP9_16 : Hid (w16.heap[P9]? = some (.cells #[.int .i64 kd, .slice bA l.length bc, .int .i64 now, .bool near, .int .i64 (v2 0), .int .i64 (v2 1), .int .i64 (v2 2), .int .i64 (v2 3), .int .i64 (v2 4), .int .i64 (v2 5), .int .i64 (v2 6), .int .i64 (v2 7), .int .i64 (v2 8), .int .i64 (v2 9), .int .i64 (v2 10), .int .i64 (v2 11), .int .i64 (v2 12), .int .i64 (v2 13), .int .i64 (v2 14), .int .i64 (v2 15), .int .i64 (v2 16), .slice B nb cb, .int .i64 (v2 18), .int .i64 (v2 19), .int .i64 (v2 20)] 63 (0, 0))) := Lib.hid ((hb.block P9 (ltb HP9_15.out)).trans HP9_15.out)
          have HC_16 : Hid (CAt w16 gc { s with sent := true, at_ := now } A c) := Lib.hid (HC_15.out.below hb)
          have HO_16 : Hid (w16.ownsRow bo 5 1 (.slice A' s.body.length c') s.body.length (cells8 s.body)) := Lib.hid ((Chg.of_below (S := fun _ => False) hb).own HO_15.out (fun _ _ h => h))
          have HP14_16 : Hid (w16.heap[P14]? = some (.cells #[.int .i64 7, .int .i64 s.epoch, .int .i64 0, .int .i64 0, .int .i64 0, .int .i64 0, .int .i64 0, .int .i64 0, .int .i64 0, .int .i64 0, .int .i64 0, .int .i64 0, .int .i64 0, .int .i64 0, .int .i64 0, .int .i64 s.id, .int .i64 s.seq, .slice A' s.body.length c', .int .i64 0, .int .i64 0, .int .i64 0] 36 (0, 0))) := Lib.hid ((hb.block P14 (ltb HP14_15.out)).trans HP14_15.out)
          have HP5_16 : Hid (w16.heap[b5]? = some (.cells cs5 5 f5)) := Lib.hid ((hb.block b5 (ltb HP5_15.out)).trans HP5_15.out)
          have HP16_16 : Hid (w16.heap[P16]? = some (.cells #[.int .i64 s.id, .int .i64 s.seq, .int .i64 s.epoch, .bool s.asks, .string (str s.body), .bool true, .int .i64 now] 61 (0, 0))) := Lib.hid ((hb.block P16 (ltb HP16_15.out)).trans HP16_15.out)
          have HP17_16 : Hid (w16.heap[(P16 + 1)]? = some (.cells #[.int .i64 7, .int .i64 s.epoch, .int .i64 0, .int .i64 0, .int .i64 0, .int .i64 0, .int .i64 0, .int .i64 0, .int .i64 0, .int .i64 0, .int .i64 0, .int .i64 0, .int .i64 0, .int .i64 0, .int .i64 0, .int .i64 s.id, .int .i64 s.seq, .slice ((some ⟨b5, 0, none⟩)) s.body.length c5, .int .i64 0, .int .i64 0, .int .i64 0] 36 (0, 0))) := Lib.hid ((hb.block (P16 + 1) (ltb HP17_15.out)).trans HP17_15.out)
          have HP7_16 : Hid (w16.heap[P7]? = some (.cells #[.int .i64 s.id, .int .i64 s.seq, .int .i64 s.epoch, .bool s.asks, .string (str s.body), .bool true, .int .i64 now] 61 (0, 0))) := Lib.hid ((hb.block P7 (ltb HP7_15.out)).trans HP7_15.out)
          clear hb HB_15 HP9_15 HC_15 HO_15 HP14_15 HP5_15 HP16_15 HP17_15 HP7_15
          go_wp2_with fail
          refine (state_any gc { s with sent := true, at_ := now } A c w16 HC_16.out).mono ?_
          rintro e w17 ⟨rfl, m, hm⟩
          have hb : Below w16.heap.size w16 w17 := by rw [hm]; exact below_dn (Below.refl _ _)
          clear hm
          have HB_17 : Hid (Below w.heap.size w w17) := Lib.hid (HB_16.out.trans (hb.mono HB_16.out.size))
          have HP9_17 : Hid (w17.heap[P9]? = some (.cells #[.int .i64 kd, .slice bA l.length bc, .int .i64 now, .bool near, .int .i64 (v2 0), .int .i64 (v2 1), .int .i64 (v2 2), .int .i64 (v2 3), .int .i64 (v2 4), .int .i64 (v2 5), .int .i64 (v2 6), .int .i64 (v2 7), .int .i64 (v2 8), .int .i64 (v2 9), .int .i64 (v2 10), .int .i64 (v2 11), .int .i64 (v2 12), .int .i64 (v2 13), .int .i64 (v2 14), .int .i64 (v2 15), .int .i64 (v2 16), .slice B nb cb, .int .i64 (v2 18), .int .i64 (v2 19), .int .i64 (v2 20)] 63 (0, 0))) := Lib.hid ((hb.block P9 (ltb HP9_16.out)).trans HP9_16.out)
          have HC_17 : Hid (CAt w17 gc { s with sent := true, at_ := now } A c) := Lib.hid (HC_16.out.below hb)
          have HO_17 : Hid (w17.ownsRow bo 5 1 (.slice A' s.body.length c') s.body.length (cells8 s.body)) := Lib.hid ((Chg.of_below (S := fun _ => False) hb).own HO_16.out (fun _ _ h => h))
          have HP14_17 : Hid (w17.heap[P14]? = some (.cells #[.int .i64 7, .int .i64 s.epoch, .int .i64 0, .int .i64 0, .int .i64 0, .int .i64 0, .int .i64 0, .int .i64 0, .int .i64 0, .int .i64 0, .int .i64 0, .int .i64 0, .int .i64 0, .int .i64 0, .int .i64 0, .int .i64 s.id, .int .i64 s.seq, .slice A' s.body.length c', .int .i64 0, .int .i64 0, .int .i64 0] 36 (0, 0))) := Lib.hid ((hb.block P14 (ltb HP14_16.out)).trans HP14_16.out)
          have HP5_17 : Hid (w17.heap[b5]? = some (.cells cs5 5 f5)) := Lib.hid ((hb.block b5 (ltb HP5_16.out)).trans HP5_16.out)
          have HP16_17 : Hid (w17.heap[P16]? = some (.cells #[.int .i64 s.id, .int .i64 s.seq, .int .i64 s.epoch, .bool s.asks, .string (str s.body), .bool true, .int .i64 now] 61 (0, 0))) := Lib.hid ((hb.block P16 (ltb HP16_16.out)).trans HP16_16.out)
          have HP17_17 : Hid (w17.heap[(P16 + 1)]? = some (.cells #[.int .i64 7, .int .i64 s.epoch, .int .i64 0, .int .i64 0, .int .i64 0, .int .i64 0, .int .i64 0, .int .i64 0, .int .i64 0, .int .i64 0, .int .i64 0, .int .i64 0, .int .i64 0, .int .i64 0, .int .i64 0, .int .i64 s.id, .int .i64 s.seq, .slice ((some ⟨b5, 0, none⟩)) s.body.length c5, .int .i64 0, .int .i64 0, .int .i64 0] 36 (0, 0))) := Lib.hid ((hb.block (P16 + 1) (ltb HP17_16.out)).trans HP17_16.out)
          have HP7_17 : Hid (w17.heap[P7]? = some (.cells #[.int .i64 s.id, .int .i64 s.seq, .int .i64 s.epoch, .bool s.asks, .string (str s.body), .bool true, .int .i64 now] 61 (0, 0))) := Lib.hid ((hb.block P7 (ltb HP7_16.out)).trans HP7_16.out)
          clear hb HB_16 HP9_16 HC_16 HO_16 HP14_16 HP5_16 HP16_16 HP17_16 HP7_16
          have cc49 : w17.cell? ⟨P7, 1, none⟩ = some (.int .i64 s.seq) := cellb (i := 1) HP7_17.out rfl
          have cc50 : w17.cell? ⟨P7, 2, none⟩ = some (.int .i64 s.epoch) := cellb (i := 2) HP7_17.out rfl
          have cc51 : w17.cell? ⟨P7, 3, none⟩ = some (.bool s.asks) := cellb (i := 3) HP7_17.out rfl
          go_upto_region 12 with fail
          clear cc49 cc50 cc51
          go_wp2_with fail
          go_roundg (len - (j + 1))
          case measure => omega
          case rel => exact ⟨j + 1, { s with sent := true, at_ := now }, A, c, by omega, by omega, rfl, by go_num, N1.out, n2, by show now < 1099511627776; have := HNW.out; have hs := HNO.out; unfold SendNo at hs; omega, n4, HC_17, HP7_17, HB_17⟩
      · skip
        by_cases hno : SendNo s now
        · skip
          have HNO := Lib.hid hno
          clear hno
          have cc52 : w9.cell? ⟨P9, 2, none⟩ = some (.int .i64 now) := cellb (i := 2) HP9_9.out rfl
          go_wp2_with fail
          clear cc52
          refine (send_no gc s A c now w9 HC_9.out HNO.out n3).mono ?_
          rintro e w10 ⟨rfl, hb⟩
          have HB_10 : Hid (Below w.heap.size w w10) := Lib.hid (HB_9.out.trans (hb.mono HB_9.out.size))
          have HC_10 : Hid (CAt w10 gc s A c) := Lib.hid (HC_9.out.below hb)
          have HP7_10 : Hid (w10.heap[P7]? = some (.cells #[.int .i64 s.id, .int .i64 s.seq, .int .i64 s.epoch, .bool s.asks, .string (str s.body), .bool s.sent, .int .i64 s.at_] 61 (0, 0))) := Lib.hid ((hb.block P7 (ltb HP7_9.out)).trans HP7_9.out)
          have HP9_10 : Hid (w10.heap[P9]? = some (.cells #[.int .i64 kd, .slice bA l.length bc, .int .i64 now, .bool near, .int .i64 (v2 0), .int .i64 (v2 1), .int .i64 (v2 2), .int .i64 (v2 3), .int .i64 (v2 4), .int .i64 (v2 5), .int .i64 (v2 6), .int .i64 (v2 7), .int .i64 (v2 8), .int .i64 (v2 9), .int .i64 (v2 10), .int .i64 (v2 11), .int .i64 (v2 12), .int .i64 (v2 13), .int .i64 (v2 14), .int .i64 (v2 15), .int .i64 (v2 16), .slice B nb cb, .int .i64 (v2 18), .int .i64 (v2 19), .int .i64 (v2 20)] 63 (0, 0))) := Lib.hid ((hb.block P9 (ltb HP9_9.out)).trans HP9_9.out)
          clear hb HB_9 HC_9 HP7_9 HP9_9
          obtain ⟨P14, hP14⟩ : ∃ x, x = w10.heap.size := ⟨_, rfl⟩
          have loP14 : w.heap.size ≤ P14 := (by have := HB_10.out.size; omega)
          obtain ⟨w11, hw53⟩ : ∃ y, y = w10.alloc (.cells #[.int .i64 0, .int .i64 0, .int .i64 0, .int .i64 0, .int .i64 0, .int .i64 0, .int .i64 0, .int .i64 0, .int .i64 0, .int .i64 0, .int .i64 0, .int .i64 0, .int .i64 0, .int .i64 0, .int .i64 0, .int .i64 0, .int .i64 0, .slice none 0 0, .int .i64 0, .int .i64 0, .int .i64 0] 36) := ⟨_, rfl⟩
          have hal : Below w10.heap.size w10 w11 := by rw [hw53]; exact (Below.refl _ _).alloc (Nat.le_refl _) _
          have hnew : w11.heap[P14]? = some (.cells (mcv (fun _ => 0) (.slice none 0 0)) 36 (0, 0)) := by rw [hw53, hP14]; exact heap_alloc_new _ _
          have HB_11 : Hid (Below w.heap.size w w11) := Lib.hid (HB_10.out.trans (hal.mono HB_10.out.size))
          have HC_11 : Hid (CAt w11 gc s A c) := Lib.hid (HC_10.out.below hal)
          have HP7_11 : Hid (w11.heap[P7]? = some (.cells #[.int .i64 s.id, .int .i64 s.seq, .int .i64 s.epoch, .bool s.asks, .string (str s.body), .bool s.sent, .int .i64 s.at_] 61 (0, 0))) := Lib.hid ((hal.block P7 (ltb HP7_10.out)).trans HP7_10.out)
          have HP9_11 : Hid (w11.heap[P9]? = some (.cells #[.int .i64 kd, .slice bA l.length bc, .int .i64 now, .bool near, .int .i64 (v2 0), .int .i64 (v2 1), .int .i64 (v2 2), .int .i64 (v2 3), .int .i64 (v2 4), .int .i64 (v2 5), .int .i64 (v2 6), .int .i64 (v2 7), .int .i64 (v2 8), .int .i64 (v2 9), .int .i64 (v2 10), .int .i64 (v2 11), .int .i64 (v2 12), .int .i64 (v2 13), .int .i64 (v2 14), .int .i64 (v2 15), .int .i64 (v2 16), .slice B nb cb, .int .i64 (v2 18), .int .i64 (v2 19), .int .i64 (v2 20)] 63 (0, 0))) := Lib.hid ((hal.block P9 (ltb HP9_10.out)).trans HP9_10.out)
          clear hal HB_10 HC_10 HP7_10 HP9_10
          have HP14_11 := Lib.hid hnew
          clear hnew
          go_upto_region 33 with (refine wpList_store_row rfl 36 (.tmp 14) (.tmp 130) rfl w10.heap.size _ rfl rfl 36 _ (heap_alloc_new w10 _) (by kernel_rfl) rfl (by simp [Value.oneCell']) ?_; rw [World.setRow_alloc_new])
          rw [← hw53]
          clear hw53
          rw [← hP14]
          clear hP14
          have K54 := HP7_11
          have cc55 : w11.cell? ⟨P9, 2, none⟩ = some (.int .i64 now) := cellb (i := 2) HP9_11.out rfl
          go_wp2_with (refine wpList_load_row rfl 61 (.tmp 7) rfl P7 rfl 61 _ (0, 0) _ K54.out Try.underlying61 rfl (by kernel_rfl) ?_)
          clear K54 cc55
          refine (rsend_any s now w11 n4).mono ?_
          rintro e w12 ⟨hp1, hp2, hb⟩
          have he := hp1 HNO.out
          subst he
          clear hp1 hp2
          have HB_12 : Hid (Below w.heap.size w w12) := Lib.hid (HB_11.out.trans (hb.mono HB_11.out.size))
          have HC_12 : Hid (CAt w12 gc s A c) := Lib.hid (HC_11.out.below hb)
          have HP7_12 : Hid (w12.heap[P7]? = some (.cells #[.int .i64 s.id, .int .i64 s.seq, .int .i64 s.epoch, .bool s.asks, .string (str s.body), .bool s.sent, .int .i64 s.at_] 61 (0, 0))) := Lib.hid ((hb.block P7 (ltb HP7_11.out)).trans HP7_11.out)
          have HP9_12 : Hid (w12.heap[P9]? = some (.cells #[.int .i64 kd, .slice bA l.length bc, .int .i64 now, .bool near, .int .i64 (v2 0), .int .i64 (v2 1), .int .i64 (v2 2), .int .i64 (v2 3), .int .i64 (v2 4), .int .i64 (v2 5), .int .i64 (v2 6), .int .i64 (v2 7), .int .i64 (v2 8), .int .i64 (v2 9), .int .i64 (v2 10), .int .i64 (v2 11), .int .i64 (v2 12), .int .i64 (v2 13), .int .i64 (v2 14), .int .i64 (v2 15), .int .i64 (v2 16), .slice B nb cb, .int .i64 (v2 18), .int .i64 (v2 19), .int .i64 (v2 20)] 63 (0, 0))) := Lib.hid ((hb.block P9 (ltb HP9_11.out)).trans HP9_11.out)
          have HP14_12 : Hid (w12.heap[P14]? = some (.cells (mcv (fun _ => 0) (.slice none 0 0)) 36 (0, 0))) := Lib.hid ((hb.block P14 (ltb HP14_11.out)).trans HP14_11.out)
          clear hb HB_11 HC_11 HP7_11 HP9_11 HP14_11
          obtain ⟨P16, hP16⟩ : ∃ x, x = w12.heap.size := ⟨_, rfl⟩
          have loP16 : w.heap.size ≤ P16 := (by have := HB_12.out.size; omega)
          have oP16_P7 : P7 < P16 := (by have := ltb HP7_12.out; omega)
          obtain ⟨w13, hw56⟩ : ∃ y, y = w12.alloc (.cells #[.int .i64 s.id, .int .i64 s.seq, .int .i64 s.epoch, .bool s.asks, .string (str s.body), .bool s.sent, .int .i64 s.at_] 61) := ⟨_, rfl⟩
          have hal : Below w12.heap.size w12 w13 := by rw [hw56]; exact (Below.refl _ _).alloc (Nat.le_refl _) _
          have hnew : w13.heap[P16]? = some (.cells #[.int .i64 s.id, .int .i64 s.seq, .int .i64 s.epoch, .bool s.asks, .string (str s.body), .bool s.sent, .int .i64 s.at_] 61 (0, 0)) := by rw [hw56, hP16]; exact heap_alloc_new _ _
          have HB_13 : Hid (Below w.heap.size w w13) := Lib.hid (HB_12.out.trans (hal.mono HB_12.out.size))
          have HC_13 : Hid (CAt w13 gc s A c) := Lib.hid (HC_12.out.below hal)
          have HP7_13 : Hid (w13.heap[P7]? = some (.cells #[.int .i64 s.id, .int .i64 s.seq, .int .i64 s.epoch, .bool s.asks, .string (str s.body), .bool s.sent, .int .i64 s.at_] 61 (0, 0))) := Lib.hid ((hal.block P7 (ltb HP7_12.out)).trans HP7_12.out)
          have HP9_13 : Hid (w13.heap[P9]? = some (.cells #[.int .i64 kd, .slice bA l.length bc, .int .i64 now, .bool near, .int .i64 (v2 0), .int .i64 (v2 1), .int .i64 (v2 2), .int .i64 (v2 3), .int .i64 (v2 4), .int .i64 (v2 5), .int .i64 (v2 6), .int .i64 (v2 7), .int .i64 (v2 8), .int .i64 (v2 9), .int .i64 (v2 10), .int .i64 (v2 11), .int .i64 (v2 12), .int .i64 (v2 13), .int .i64 (v2 14), .int .i64 (v2 15), .int .i64 (v2 16), .slice B nb cb, .int .i64 (v2 18), .int .i64 (v2 19), .int .i64 (v2 20)] 63 (0, 0))) := Lib.hid ((hal.block P9 (ltb HP9_12.out)).trans HP9_12.out)
          have HP14_13 : Hid (w13.heap[P14]? = some (.cells (mcv (fun _ => 0) (.slice none 0 0)) 36 (0, 0))) := Lib.hid ((hal.block P14 (ltb HP14_12.out)).trans HP14_12.out)
          clear hal HB_12 HC_12 HP7_12 HP9_12 HP14_12
          have HP16_13 := Lib.hid hnew
          clear hnew
          obtain ⟨w14, hw57⟩ : ∃ y, y = w13.alloc (.cells #[.int .i64 0, .int .i64 0, .int .i64 0, .int .i64 0, .int .i64 0, .int .i64 0, .int .i64 0, .int .i64 0, .int .i64 0, .int .i64 0, .int .i64 0, .int .i64 0, .int .i64 0, .int .i64 0, .int .i64 0, .int .i64 0, .int .i64 0, .slice none 0 0, .int .i64 0, .int .i64 0, .int .i64 0] 36) := ⟨_, rfl⟩
          have hal : Below w13.heap.size w13 w14 := by rw [hw57]; exact (Below.refl _ _).alloc (Nat.le_refl _) _
          have hnew : w14.heap[(P16 + 1)]? = some (.cells (mcv (fun _ => 0) (.slice none 0 0)) 36 (0, 0)) := by rw [hw57]; exact alloc_at _ _ _ (by simp [hw56, hP16])
          have HB_14 : Hid (Below w.heap.size w w14) := Lib.hid (HB_13.out.trans (hal.mono HB_13.out.size))
          have HC_14 : Hid (CAt w14 gc s A c) := Lib.hid (HC_13.out.below hal)
          have HP7_14 : Hid (w14.heap[P7]? = some (.cells #[.int .i64 s.id, .int .i64 s.seq, .int .i64 s.epoch, .bool s.asks, .string (str s.body), .bool s.sent, .int .i64 s.at_] 61 (0, 0))) := Lib.hid ((hal.block P7 (ltb HP7_13.out)).trans HP7_13.out)
          have HP9_14 : Hid (w14.heap[P9]? = some (.cells #[.int .i64 kd, .slice bA l.length bc, .int .i64 now, .bool near, .int .i64 (v2 0), .int .i64 (v2 1), .int .i64 (v2 2), .int .i64 (v2 3), .int .i64 (v2 4), .int .i64 (v2 5), .int .i64 (v2 6), .int .i64 (v2 7), .int .i64 (v2 8), .int .i64 (v2 9), .int .i64 (v2 10), .int .i64 (v2 11), .int .i64 (v2 12), .int .i64 (v2 13), .int .i64 (v2 14), .int .i64 (v2 15), .int .i64 (v2 16), .slice B nb cb, .int .i64 (v2 18), .int .i64 (v2 19), .int .i64 (v2 20)] 63 (0, 0))) := Lib.hid ((hal.block P9 (ltb HP9_13.out)).trans HP9_13.out)
          have HP14_14 : Hid (w14.heap[P14]? = some (.cells (mcv (fun _ => 0) (.slice none 0 0)) 36 (0, 0))) := Lib.hid ((hal.block P14 (ltb HP14_13.out)).trans HP14_13.out)
          have HP16_14 : Hid (w14.heap[P16]? = some (.cells #[.int .i64 s.id, .int .i64 s.seq, .int .i64 s.epoch, .bool s.asks, .string (str s.body), .bool s.sent, .int .i64 s.at_] 61 (0, 0))) := Lib.hid ((hal.block P16 (ltb HP16_13.out)).trans HP16_13.out)
          clear hal HB_13 HC_13 HP7_13 HP9_13 HP14_13 HP16_13
          have HP17_14 := Lib.hid hnew
          clear hnew
          go_upto_region 34 with (first | (refine wpList_store_row rfl 61 (.tmp 16) (.tmp 137) rfl w12.heap.size _ rfl rfl 61 _ (alloc2_first w12 _ _) (by kernel_rfl) rfl (by simp [Value.oneCell']) ?_; rw [setRow_alloc2_first]) | (refine wpList_store_row rfl 36 (.tmp 17) (.tmp 138) rfl (w12.heap.size + 1) _ rfl rfl 36 _ (alloc2_second w12 _ _) (by kernel_rfl) rfl (by simp [Value.oneCell']) ?_; rw [setRow_alloc2_second]))
          rw [← hw56]
          clear hw56
          rw [← hw57]
          clear hw57
          rw [← hP16]
          clear hP16
          have HST := HP7_14
          have K58 := HP16_14
          obtain ⟨w15, hw59⟩ : ∃ y, y = w14.setRow P7 #[.int .i64 s.id, .int .i64 s.seq, .int .i64 s.epoch, .bool s.asks, .string (str s.body), .bool s.sent, .int .i64 s.at_] := ⟨_, rfl⟩
          have hch := Ch.ofRow HP7_14.out #[.int .i64 s.id, .int .i64 s.seq, .int .i64 s.epoch, .bool s.asks, .string (str s.body), .bool s.sent, .int .i64 s.at_]
          rw [← hw59] at hch
          have hnew : w15.heap[P7]? = some (.cells #[.int .i64 s.id, .int .i64 s.seq, .int .i64 s.epoch, .bool s.asks, .string (str s.body), .bool s.sent, .int .i64 s.at_] 61 (0, 0)) := by rw [hw59]; exact setRow_heap _ _ _ _ _ _ HP7_14.out
          have HB_15 : Hid (Below w.heap.size w w15) := Lib.hid (hch.below HB_14.out HB_14.out.size (fun k hk => by injection hk with hk; omega))
          have HC_15 : Hid (CAt w15 gc s A c) := Lib.hid (hch.cat HC_14.out (by decide) (by decide))
          have HP9_15 : Hid (w15.heap[P9]? = some (.cells #[.int .i64 kd, .slice bA l.length bc, .int .i64 now, .bool near, .int .i64 (v2 0), .int .i64 (v2 1), .int .i64 (v2 2), .int .i64 (v2 3), .int .i64 (v2 4), .int .i64 (v2 5), .int .i64 (v2 6), .int .i64 (v2 7), .int .i64 (v2 8), .int .i64 (v2 9), .int .i64 (v2 10), .int .i64 (v2 11), .int .i64 (v2 12), .int .i64 (v2 13), .int .i64 (v2 14), .int .i64 (v2 15), .int .i64 (v2 16), .slice B nb cb, .int .i64 (v2 18), .int .i64 (v2 19), .int .i64 (v2 20)] 63 (0, 0))) := Lib.hid (hch.blk HP9_14.out (by show (63 + 1 : Nat) ≠ _; decide))
          have HP14_15 : Hid (w15.heap[P14]? = some (.cells (mcv (fun _ => 0) (.slice none 0 0)) 36 (0, 0))) := Lib.hid (hch.blk HP14_14.out (by show (36 + 1 : Nat) ≠ _; decide))
          have HP16_15 : Hid (w15.heap[P16]? = some (.cells #[.int .i64 s.id, .int .i64 s.seq, .int .i64 s.epoch, .bool s.asks, .string (str s.body), .bool s.sent, .int .i64 s.at_] 61 (0, 0))) := Lib.hid (hch.blkN HP16_14.out (by intro e; injection e with e; omega))
          have HP17_15 : Hid (w15.heap[(P16 + 1)]? = some (.cells (mcv (fun _ => 0) (.slice none 0 0)) 36 (0, 0))) := Lib.hid (hch.blk HP17_14.out (by show (36 + 1 : Nat) ≠ _; decide))
          clear hch HB_14 HC_14 HP9_14 HP14_14 HP16_14 HP17_14
          have HP7_15 := Lib.hid hnew
          clear hnew HP7_14
          go_upto_region 35 with (first | (refine wpList_load_row rfl 61 (.tmp 16) rfl P16 rfl 61 _ (0, 0) _ K58.out Try.underlying61 rfl (by kernel_rfl) ?_) | (refine wpList_store_row rfl 61 (.tmp 7) (.tmp 140) rfl P7 _ rfl rfl 61 _ HST.out (by kernel_rfl) rfl (by simp [Value.oneCell']) ?_))
          clear K58 HST
          rw [← hw59]
          clear hw59
          have K60 := HP14_15
          have K61 := HP17_15
          go_wp2_with (first | (refine wpList_load_g rfl 36 (.tmp 14) rfl P14 rfl 36 #[.int .i64 0, .int .i64 0, .int .i64 0, .int .i64 0, .int .i64 0, .int .i64 0, .int .i64 0, .int .i64 0, .int .i64 0, .int .i64 0, .int .i64 0, .int .i64 0, .int .i64 0, .int .i64 0, .int .i64 0, .int .i64 0, .int .i64 0, .slice none 0 0, .int .i64 0, .int .i64 0, .int .i64 0] (0, 0) _ K60.out Try.underlying36 rfl (by kernel_rfl) ?_) | (refine wpList_load_g rfl 36 (.tmp 17) rfl (P16 + 1) rfl 36 #[.int .i64 0, .int .i64 0, .int .i64 0, .int .i64 0, .int .i64 0, .int .i64 0, .int .i64 0, .int .i64 0, .int .i64 0, .int .i64 0, .int .i64 0, .int .i64 0, .int .i64 0, .int .i64 0, .int .i64 0, .int .i64 0, .int .i64 0, .slice none 0 0, .int .i64 0, .int .i64 0, .int .i64 0] (0, 0) _ K61.out Try.underlying36 rfl (by kernel_rfl) ?_))
          clear K60 K61
          refine (same_eq (fun _ => 0) none none 0 0 0 [] w15 (.emp (by omega)) (.emp (by omega)) rfl).mono ?_
          rintro e w16 ⟨rfl, hb⟩
          have HB_16 : Hid (Below w.heap.size w w16) := Lib.hid (HB_15.out.trans (hb.mono HB_15.out.size))
          have HC_16 : Hid (CAt w16 gc s A c) := Lib.hid (HC_15.out.below hb)
          have HP9_16 : Hid (w16.heap[P9]? = some (.cells #[.int .i64 kd, .slice bA l.length bc, .int .i64 now, .bool near, .int .i64 (v2 0), .int .i64 (v2 1), .int .i64 (v2 2), .int .i64 (v2 3), .int .i64 (v2 4), .int .i64 (v2 5), .int .i64 (v2 6), .int .i64 (v2 7), .int .i64 (v2 8), .int .i64 (v2 9), .int .i64 (v2 10), .int .i64 (v2 11), .int .i64 (v2 12), .int .i64 (v2 13), .int .i64 (v2 14), .int .i64 (v2 15), .int .i64 (v2 16), .slice B nb cb, .int .i64 (v2 18), .int .i64 (v2 19), .int .i64 (v2 20)] 63 (0, 0))) := Lib.hid ((hb.block P9 (ltb HP9_15.out)).trans HP9_15.out)
          have HP14_16 : Hid (w16.heap[P14]? = some (.cells (mcv (fun _ => 0) (.slice none 0 0)) 36 (0, 0))) := Lib.hid ((hb.block P14 (ltb HP14_15.out)).trans HP14_15.out)
          have HP16_16 : Hid (w16.heap[P16]? = some (.cells #[.int .i64 s.id, .int .i64 s.seq, .int .i64 s.epoch, .bool s.asks, .string (str s.body), .bool s.sent, .int .i64 s.at_] 61 (0, 0))) := Lib.hid ((hb.block P16 (ltb HP16_15.out)).trans HP16_15.out)
          have HP17_16 : Hid (w16.heap[(P16 + 1)]? = some (.cells (mcv (fun _ => 0) (.slice none 0 0)) 36 (0, 0))) := Lib.hid ((hb.block (P16 + 1) (ltb HP17_15.out)).trans HP17_15.out)
          have HP7_16 : Hid (w16.heap[P7]? = some (.cells #[.int .i64 s.id, .int .i64 s.seq, .int .i64 s.epoch, .bool s.asks, .string (str s.body), .bool s.sent, .int .i64 s.at_] 61 (0, 0))) := Lib.hid ((hb.block P7 (ltb HP7_15.out)).trans HP7_15.out)
          clear hb HB_15 HC_15 HP9_15 HP14_15 HP16_15 HP17_15 HP7_15
          go_wp2_with fail
          refine (state_any gc s A c w16 HC_16.out).mono ?_
          rintro e w17 ⟨rfl, m, hm⟩
          have hb : Below w16.heap.size w16 w17 := by rw [hm]; exact below_dn (Below.refl _ _)
          clear hm
          have HB_17 : Hid (Below w.heap.size w w17) := Lib.hid (HB_16.out.trans (hb.mono HB_16.out.size))
          have HC_17 : Hid (CAt w17 gc s A c) := Lib.hid (HC_16.out.below hb)
          have HP9_17 : Hid (w17.heap[P9]? = some (.cells #[.int .i64 kd, .slice bA l.length bc, .int .i64 now, .bool near, .int .i64 (v2 0), .int .i64 (v2 1), .int .i64 (v2 2), .int .i64 (v2 3), .int .i64 (v2 4), .int .i64 (v2 5), .int .i64 (v2 6), .int .i64 (v2 7), .int .i64 (v2 8), .int .i64 (v2 9), .int .i64 (v2 10), .int .i64 (v2 11), .int .i64 (v2 12), .int .i64 (v2 13), .int .i64 (v2 14), .int .i64 (v2 15), .int .i64 (v2 16), .slice B nb cb, .int .i64 (v2 18), .int .i64 (v2 19), .int .i64 (v2 20)] 63 (0, 0))) := Lib.hid ((hb.block P9 (ltb HP9_16.out)).trans HP9_16.out)
          have HP14_17 : Hid (w17.heap[P14]? = some (.cells (mcv (fun _ => 0) (.slice none 0 0)) 36 (0, 0))) := Lib.hid ((hb.block P14 (ltb HP14_16.out)).trans HP14_16.out)
          have HP16_17 : Hid (w17.heap[P16]? = some (.cells #[.int .i64 s.id, .int .i64 s.seq, .int .i64 s.epoch, .bool s.asks, .string (str s.body), .bool s.sent, .int .i64 s.at_] 61 (0, 0))) := Lib.hid ((hb.block P16 (ltb HP16_16.out)).trans HP16_16.out)
          have HP17_17 : Hid (w17.heap[(P16 + 1)]? = some (.cells (mcv (fun _ => 0) (.slice none 0 0)) 36 (0, 0))) := Lib.hid ((hb.block (P16 + 1) (ltb HP17_16.out)).trans HP17_16.out)
          have HP7_17 : Hid (w17.heap[P7]? = some (.cells #[.int .i64 s.id, .int .i64 s.seq, .int .i64 s.epoch, .bool s.asks, .string (str s.body), .bool s.sent, .int .i64 s.at_] 61 (0, 0))) := Lib.hid ((hb.block P7 (ltb HP7_16.out)).trans HP7_16.out)
          clear hb HB_16 HC_16 HP9_16 HP14_16 HP16_16 HP17_16 HP7_16
          have cc62 : w17.cell? ⟨P7, 1, none⟩ = some (.int .i64 s.seq) := cellb (i := 1) HP7_17.out rfl
          have cc63 : w17.cell? ⟨P7, 2, none⟩ = some (.int .i64 s.epoch) := cellb (i := 2) HP7_17.out rfl
          have cc64 : w17.cell? ⟨P7, 3, none⟩ = some (.bool s.asks) := cellb (i := 3) HP7_17.out rfl
          go_upto_region 12 with fail
          clear cc62 cc63 cc64
          go_wp2_with fail
          go_roundg (len - (j + 1))
          case measure => omega
          case rel => exact ⟨j + 1, s, A, c, by omega, by omega, rfl, by go_num, N1.out, n2, n3, n4, HC_17, HP7_17, HB_17⟩
        · skip
          have HNO := Lib.hid hno
          clear hno
          have cc65 : w9.cell? ⟨P9, 2, none⟩ = some (.int .i64 now) := cellb (i := 2) HP9_9.out rfl
          go_wp2_with fail
          clear cc65
          refine (send_ok gc s A c now w9 HC_9.out HNO.out n4 n3).mono ?_
          rintro e w10 ⟨A', c', rfl, hc, ho, hg⟩
          have hch := Ch.ofChg HC_9.out.blk hg
          clear hg HC_9
          obtain ⟨bo, hbo⟩ : ∃ y, y = w9.heap.size := ⟨_, rfl⟩
          rw [← hbo] at ho
          clear hbo
          have HB_10 : Hid (Below w.heap.size w w10) := Lib.hid (hch.below HB_9.out HB_9.out.size (fun k hk => by injection hk with hk; omega))
          have HP7_10 : Hid (w10.heap[P7]? = some (.cells #[.int .i64 s.id, .int .i64 s.seq, .int .i64 s.epoch, .bool s.asks, .string (str s.body), .bool s.sent, .int .i64 s.at_] 61 (0, 0))) := Lib.hid (hch.blk HP7_9.out (by show (61 + 1 : Nat) ≠ _; decide))
          have HP9_10 : Hid (w10.heap[P9]? = some (.cells #[.int .i64 kd, .slice bA l.length bc, .int .i64 now, .bool near, .int .i64 (v2 0), .int .i64 (v2 1), .int .i64 (v2 2), .int .i64 (v2 3), .int .i64 (v2 4), .int .i64 (v2 5), .int .i64 (v2 6), .int .i64 (v2 7), .int .i64 (v2 8), .int .i64 (v2 9), .int .i64 (v2 10), .int .i64 (v2 11), .int .i64 (v2 12), .int .i64 (v2 13), .int .i64 (v2 14), .int .i64 (v2 15), .int .i64 (v2 16), .slice B nb cb, .int .i64 (v2 18), .int .i64 (v2 19), .int .i64 (v2 20)] 63 (0, 0))) := Lib.hid (hch.blk HP9_9.out (by show (63 + 1 : Nat) ≠ _; decide))
          clear hch HB_9 HP7_9 HP9_9
          have HC_10 : Hid (CAt w10 gc { s with sent := true, at_ := now } A c) := Lib.hid hc
          have HO_10 : Hid (w10.ownsRow bo 5 1 (.slice A' s.body.length c') s.body.length (cells8 s.body)) := Lib.hid ho
          clear hc ho
          obtain ⟨P14, hP14⟩ : ∃ x, x = w10.heap.size := ⟨_, rfl⟩
          have loP14 : w.heap.size ≤ P14 := (by have := HB_10.out.size; omega)
          obtain ⟨w11, hw66⟩ : ∃ y, y = w10.alloc (.cells #[.int .i64 7, .int .i64 s.epoch, .int .i64 0, .int .i64 0, .int .i64 0, .int .i64 0, .int .i64 0, .int .i64 0, .int .i64 0, .int .i64 0, .int .i64 0, .int .i64 0, .int .i64 0, .int .i64 0, .int .i64 0, .int .i64 s.id, .int .i64 s.seq, .slice A' s.body.length c', .int .i64 0, .int .i64 0, .int .i64 0] 36) := ⟨_, rfl⟩
          have hal : Below w10.heap.size w10 w11 := by rw [hw66]; exact (Below.refl _ _).alloc (Nat.le_refl _) _
          have hnew : w11.heap[P14]? = some (.cells #[.int .i64 7, .int .i64 s.epoch, .int .i64 0, .int .i64 0, .int .i64 0, .int .i64 0, .int .i64 0, .int .i64 0, .int .i64 0, .int .i64 0, .int .i64 0, .int .i64 0, .int .i64 0, .int .i64 0, .int .i64 0, .int .i64 s.id, .int .i64 s.seq, .slice A' s.body.length c', .int .i64 0, .int .i64 0, .int .i64 0] 36 (0, 0)) := by rw [hw66, hP14]; exact heap_alloc_new _ _
          have HB_11 : Hid (Below w.heap.size w w11) := Lib.hid (HB_10.out.trans (hal.mono HB_10.out.size))
          have HP7_11 : Hid (w11.heap[P7]? = some (.cells #[.int .i64 s.id, .int .i64 s.seq, .int .i64 s.epoch, .bool s.asks, .string (str s.body), .bool s.sent, .int .i64 s.at_] 61 (0, 0))) := Lib.hid ((hal.block P7 (ltb HP7_10.out)).trans HP7_10.out)
          have HP9_11 : Hid (w11.heap[P9]? = some (.cells #[.int .i64 kd, .slice bA l.length bc, .int .i64 now, .bool near, .int .i64 (v2 0), .int .i64 (v2 1), .int .i64 (v2 2), .int .i64 (v2 3), .int .i64 (v2 4), .int .i64 (v2 5), .int .i64 (v2 6), .int .i64 (v2 7), .int .i64 (v2 8), .int .i64 (v2 9), .int .i64 (v2 10), .int .i64 (v2 11), .int .i64 (v2 12), .int .i64 (v2 13), .int .i64 (v2 14), .int .i64 (v2 15), .int .i64 (v2 16), .slice B nb cb, .int .i64 (v2 18), .int .i64 (v2 19), .int .i64 (v2 20)] 63 (0, 0))) := Lib.hid ((hal.block P9 (ltb HP9_10.out)).trans HP9_10.out)
          have HC_11 : Hid (CAt w11 gc { s with sent := true, at_ := now } A c) := Lib.hid (HC_10.out.below hal)
          have HO_11 : Hid (w11.ownsRow bo 5 1 (.slice A' s.body.length c') s.body.length (cells8 s.body)) := Lib.hid ((Chg.of_below (S := fun _ => False) hal).own HO_10.out (fun _ _ h => h))
          clear hal HB_10 HP7_10 HP9_10 HC_10 HO_10
          have HP14_11 := Lib.hid hnew
          clear hnew
          go_upto_region 33 with (refine wpList_store_row rfl 36 (.tmp 14) (.tmp 130) rfl w10.heap.size _ rfl rfl 36 _ (heap_alloc_new w10 _) (by kernel_rfl) rfl (by simp [Value.oneCell']) ?_; rw [World.setRow_alloc_new])
          rw [← hw66]
          clear hw66
          rw [← hP14]
          clear hP14
          have K67 := HP7_11
          have cc68 : w11.cell? ⟨P9, 2, none⟩ = some (.int .i64 now) := cellb (i := 2) HP9_11.out rfl
          go_wp2_with (refine wpList_load_row rfl 61 (.tmp 7) rfl P7 rfl 61 _ (0, 0) _ K67.out Try.underlying61 rfl (by kernel_rfl) ?_)
          clear K67 cc68
          refine (rsend_any s now w11 n4).mono ?_
          rintro e w12 ⟨hp1, hp2, hb⟩
          obtain ⟨b5, c5, cs5, f5, he, h5, hby5⟩ := hp2 HNO.out
          subst he
          clear hp1 hp2
          have HB_12 : Hid (Below w.heap.size w w12) := Lib.hid (HB_11.out.trans (hb.mono HB_11.out.size))
          have HP7_12 : Hid (w12.heap[P7]? = some (.cells #[.int .i64 s.id, .int .i64 s.seq, .int .i64 s.epoch, .bool s.asks, .string (str s.body), .bool s.sent, .int .i64 s.at_] 61 (0, 0))) := Lib.hid ((hb.block P7 (ltb HP7_11.out)).trans HP7_11.out)
          have HP9_12 : Hid (w12.heap[P9]? = some (.cells #[.int .i64 kd, .slice bA l.length bc, .int .i64 now, .bool near, .int .i64 (v2 0), .int .i64 (v2 1), .int .i64 (v2 2), .int .i64 (v2 3), .int .i64 (v2 4), .int .i64 (v2 5), .int .i64 (v2 6), .int .i64 (v2 7), .int .i64 (v2 8), .int .i64 (v2 9), .int .i64 (v2 10), .int .i64 (v2 11), .int .i64 (v2 12), .int .i64 (v2 13), .int .i64 (v2 14), .int .i64 (v2 15), .int .i64 (v2 16), .slice B nb cb, .int .i64 (v2 18), .int .i64 (v2 19), .int .i64 (v2 20)] 63 (0, 0))) := Lib.hid ((hb.block P9 (ltb HP9_11.out)).trans HP9_11.out)
          have HC_12 : Hid (CAt w12 gc { s with sent := true, at_ := now } A c) := Lib.hid (HC_11.out.below hb)
          have HO_12 : Hid (w12.ownsRow bo 5 1 (.slice A' s.body.length c') s.body.length (cells8 s.body)) := Lib.hid ((Chg.of_below (S := fun _ => False) hb).own HO_11.out (fun _ _ h => h))
          have HP14_12 : Hid (w12.heap[P14]? = some (.cells #[.int .i64 7, .int .i64 s.epoch, .int .i64 0, .int .i64 0, .int .i64 0, .int .i64 0, .int .i64 0, .int .i64 0, .int .i64 0, .int .i64 0, .int .i64 0, .int .i64 0, .int .i64 0, .int .i64 0, .int .i64 0, .int .i64 s.id, .int .i64 s.seq, .slice A' s.body.length c', .int .i64 0, .int .i64 0, .int .i64 0] 36 (0, 0))) := Lib.hid ((hb.block P14 (ltb HP14_11.out)).trans HP14_11.out)
          clear hb HB_11 HP7_11 HP9_11 HC_11 HO_11 HP14_11
          have HP5_12 : Hid (w12.heap[b5]? = some (.cells cs5 5 f5)) := Lib.hid h5
          have HBY5 := Lib.hid hby5
          clear h5 hby5
          obtain ⟨P16, hP16⟩ : ∃ x, x = w12.heap.size := ⟨_, rfl⟩
          have loP16 : w.heap.size ≤ P16 := (by have := HB_12.out.size; omega)
          have oP16_P7 : P7 < P16 := (by have := ltb HP7_12.out; omega)
          obtain ⟨w13, hw69⟩ : ∃ y, y = w12.alloc (.cells #[.int .i64 s.id, .int .i64 s.seq, .int .i64 s.epoch, .bool s.asks, .string (str s.body), .bool true, .int .i64 now] 61) := ⟨_, rfl⟩
          have hal : Below w12.heap.size w12 w13 := by rw [hw69]; exact (Below.refl _ _).alloc (Nat.le_refl _) _
          have hnew : w13.heap[P16]? = some (.cells #[.int .i64 s.id, .int .i64 s.seq, .int .i64 s.epoch, .bool s.asks, .string (str s.body), .bool true, .int .i64 now] 61 (0, 0)) := by rw [hw69, hP16]; exact heap_alloc_new _ _
          have HB_13 : Hid (Below w.heap.size w w13) := Lib.hid (HB_12.out.trans (hal.mono HB_12.out.size))
          have HP7_13 : Hid (w13.heap[P7]? = some (.cells #[.int .i64 s.id, .int .i64 s.seq, .int .i64 s.epoch, .bool s.asks, .string (str s.body), .bool s.sent, .int .i64 s.at_] 61 (0, 0))) := Lib.hid ((hal.block P7 (ltb HP7_12.out)).trans HP7_12.out)
          have HP9_13 : Hid (w13.heap[P9]? = some (.cells #[.int .i64 kd, .slice bA l.length bc, .int .i64 now, .bool near, .int .i64 (v2 0), .int .i64 (v2 1), .int .i64 (v2 2), .int .i64 (v2 3), .int .i64 (v2 4), .int .i64 (v2 5), .int .i64 (v2 6), .int .i64 (v2 7), .int .i64 (v2 8), .int .i64 (v2 9), .int .i64 (v2 10), .int .i64 (v2 11), .int .i64 (v2 12), .int .i64 (v2 13), .int .i64 (v2 14), .int .i64 (v2 15), .int .i64 (v2 16), .slice B nb cb, .int .i64 (v2 18), .int .i64 (v2 19), .int .i64 (v2 20)] 63 (0, 0))) := Lib.hid ((hal.block P9 (ltb HP9_12.out)).trans HP9_12.out)
          have HC_13 : Hid (CAt w13 gc { s with sent := true, at_ := now } A c) := Lib.hid (HC_12.out.below hal)
          have HO_13 : Hid (w13.ownsRow bo 5 1 (.slice A' s.body.length c') s.body.length (cells8 s.body)) := Lib.hid ((Chg.of_below (S := fun _ => False) hal).own HO_12.out (fun _ _ h => h))
          have HP14_13 : Hid (w13.heap[P14]? = some (.cells #[.int .i64 7, .int .i64 s.epoch, .int .i64 0, .int .i64 0, .int .i64 0, .int .i64 0, .int .i64 0, .int .i64 0, .int .i64 0, .int .i64 0, .int .i64 0, .int .i64 0, .int .i64 0, .int .i64 0, .int .i64 0, .int .i64 s.id, .int .i64 s.seq, .slice A' s.body.length c', .int .i64 0, .int .i64 0, .int .i64 0] 36 (0, 0))) := Lib.hid ((hal.block P14 (ltb HP14_12.out)).trans HP14_12.out)
          have HP5_13 : Hid (w13.heap[b5]? = some (.cells cs5 5 f5)) := Lib.hid ((hal.block b5 (ltb HP5_12.out)).trans HP5_12.out)
          clear hal HB_12 HP7_12 HP9_12 HC_12 HO_12 HP14_12 HP5_12
          have HP16_13 := Lib.hid hnew
          clear hnew
          obtain ⟨w14, hw70⟩ : ∃ y, y = w13.alloc (.cells #[.int .i64 7, .int .i64 s.epoch, .int .i64 0, .int .i64 0, .int .i64 0, .int .i64 0, .int .i64 0, .int .i64 0, .int .i64 0, .int .i64 0, .int .i64 0, .int .i64 0, .int .i64 0, .int .i64 0, .int .i64 0, .int .i64 s.id, .int .i64 s.seq, .slice ((some ⟨b5, 0, none⟩)) s.body.length c5, .int .i64 0, .int .i64 0, .int .i64 0] 36) := ⟨_, rfl⟩
          have hal : Below w13.heap.size w13 w14 := by rw [hw70]; exact (Below.refl _ _).alloc (Nat.le_refl _) _
          have hnew : w14.heap[(P16 + 1)]? = some (.cells #[.int .i64 7, .int .i64 s.epoch, .int .i64 0, .int .i64 0, .int .i64 0, .int .i64 0, .int .i64 0, .int .i64 0, .int .i64 0, .int .i64 0, .int .i64 0, .int .i64 0, .int .i64 0, .int .i64 0, .int .i64 0, .int .i64 s.id, .int .i64 s.seq, .slice ((some ⟨b5, 0, none⟩)) s.body.length c5, .int .i64 0, .int .i64 0, .int .i64 0] 36 (0, 0)) := by rw [hw70]; exact alloc_at _ _ _ (by simp [hw69, hP16])
          have HB_14 : Hid (Below w.heap.size w w14) := Lib.hid (HB_13.out.trans (hal.mono HB_13.out.size))
          have HP7_14 : Hid (w14.heap[P7]? = some (.cells #[.int .i64 s.id, .int .i64 s.seq, .int .i64 s.epoch, .bool s.asks, .string (str s.body), .bool s.sent, .int .i64 s.at_] 61 (0, 0))) := Lib.hid ((hal.block P7 (ltb HP7_13.out)).trans HP7_13.out)
          have HP9_14 : Hid (w14.heap[P9]? = some (.cells #[.int .i64 kd, .slice bA l.length bc, .int .i64 now, .bool near, .int .i64 (v2 0), .int .i64 (v2 1), .int .i64 (v2 2), .int .i64 (v2 3), .int .i64 (v2 4), .int .i64 (v2 5), .int .i64 (v2 6), .int .i64 (v2 7), .int .i64 (v2 8), .int .i64 (v2 9), .int .i64 (v2 10), .int .i64 (v2 11), .int .i64 (v2 12), .int .i64 (v2 13), .int .i64 (v2 14), .int .i64 (v2 15), .int .i64 (v2 16), .slice B nb cb, .int .i64 (v2 18), .int .i64 (v2 19), .int .i64 (v2 20)] 63 (0, 0))) := Lib.hid ((hal.block P9 (ltb HP9_13.out)).trans HP9_13.out)
          have HC_14 : Hid (CAt w14 gc { s with sent := true, at_ := now } A c) := Lib.hid (HC_13.out.below hal)
          have HO_14 : Hid (w14.ownsRow bo 5 1 (.slice A' s.body.length c') s.body.length (cells8 s.body)) := Lib.hid ((Chg.of_below (S := fun _ => False) hal).own HO_13.out (fun _ _ h => h))
          have HP14_14 : Hid (w14.heap[P14]? = some (.cells #[.int .i64 7, .int .i64 s.epoch, .int .i64 0, .int .i64 0, .int .i64 0, .int .i64 0, .int .i64 0, .int .i64 0, .int .i64 0, .int .i64 0, .int .i64 0, .int .i64 0, .int .i64 0, .int .i64 0, .int .i64 0, .int .i64 s.id, .int .i64 s.seq, .slice A' s.body.length c', .int .i64 0, .int .i64 0, .int .i64 0] 36 (0, 0))) := Lib.hid ((hal.block P14 (ltb HP14_13.out)).trans HP14_13.out)
          have HP5_14 : Hid (w14.heap[b5]? = some (.cells cs5 5 f5)) := Lib.hid ((hal.block b5 (ltb HP5_13.out)).trans HP5_13.out)
          have HP16_14 : Hid (w14.heap[P16]? = some (.cells #[.int .i64 s.id, .int .i64 s.seq, .int .i64 s.epoch, .bool s.asks, .string (str s.body), .bool true, .int .i64 now] 61 (0, 0))) := Lib.hid ((hal.block P16 (ltb HP16_13.out)).trans HP16_13.out)
          clear hal HB_13 HP7_13 HP9_13 HC_13 HO_13 HP14_13 HP5_13 HP16_13
          have HP17_14 := Lib.hid hnew
          clear hnew
          go_upto_region 34 with (first | (refine wpList_store_row rfl 61 (.tmp 16) (.tmp 137) rfl w12.heap.size _ rfl rfl 61 _ (alloc2_first w12 _ _) (by kernel_rfl) rfl (by simp [Value.oneCell']) ?_; rw [setRow_alloc2_first]) | (refine wpList_store_row rfl 36 (.tmp 17) (.tmp 138) rfl (w12.heap.size + 1) _ rfl rfl 36 _ (alloc2_second w12 _ _) (by kernel_rfl) rfl (by simp [Value.oneCell']) ?_; rw [setRow_alloc2_second]))
          rw [← hw69]
          clear hw69
          rw [← hw70]
          clear hw70
          rw [← hP16]
          clear hP16
          have HST := HP7_14
          have K71 := HP16_14
          obtain ⟨w15, hw72⟩ : ∃ y, y = w14.setRow P7 #[.int .i64 s.id, .int .i64 s.seq, .int .i64 s.epoch, .bool s.asks, .string (str s.body), .bool true, .int .i64 now] := ⟨_, rfl⟩
          have hch := Ch.ofRow HP7_14.out #[.int .i64 s.id, .int .i64 s.seq, .int .i64 s.epoch, .bool s.asks, .string (str s.body), .bool true, .int .i64 now]
          rw [← hw72] at hch
          have hnew : w15.heap[P7]? = some (.cells #[.int .i64 s.id, .int .i64 s.seq, .int .i64 s.epoch, .bool s.asks, .string (str s.body), .bool true, .int .i64 now] 61 (0, 0)) := by rw [hw72]; exact setRow_heap _ _ _ _ _ _ HP7_14.out
          have HB_15 : Hid (Below w.heap.size w w15) := Lib.hid (hch.below HB_14.out HB_14.out.size (fun k hk => by injection hk with hk; omega))
          have HP9_15 : Hid (w15.heap[P9]? = some (.cells #[.int .i64 kd, .slice bA l.length bc, .int .i64 now, .bool near, .int .i64 (v2 0), .int .i64 (v2 1), .int .i64 (v2 2), .int .i64 (v2 3), .int .i64 (v2 4), .int .i64 (v2 5), .int .i64 (v2 6), .int .i64 (v2 7), .int .i64 (v2 8), .int .i64 (v2 9), .int .i64 (v2 10), .int .i64 (v2 11), .int .i64 (v2 12), .int .i64 (v2 13), .int .i64 (v2 14), .int .i64 (v2 15), .int .i64 (v2 16), .slice B nb cb, .int .i64 (v2 18), .int .i64 (v2 19), .int .i64 (v2 20)] 63 (0, 0))) := Lib.hid (hch.blk HP9_14.out (by show (63 + 1 : Nat) ≠ _; decide))
          have HC_15 : Hid (CAt w15 gc { s with sent := true, at_ := now } A c) := Lib.hid (hch.cat HC_14.out (by decide) (by decide))
          have HO_15 : Hid (w15.ownsRow bo 5 1 (.slice A' s.body.length c') s.body.length (cells8 s.body)) := Lib.hid (hch.own HO_14.out (by decide))
          have HP14_15 : Hid (w15.heap[P14]? = some (.cells #[.int .i64 7, .int .i64 s.epoch, .int .i64 0, .int .i64 0, .int .i64 0, .int .i64 0, .int .i64 0, .int .i64 0, .int .i64 0, .int .i64 0, .int .i64 0, .int .i64 0, .int .i64 0, .int .i64 0, .int .i64 0, .int .i64 s.id, .int .i64 s.seq, .slice A' s.body.length c', .int .i64 0, .int .i64 0, .int .i64 0] 36 (0, 0))) := Lib.hid (hch.blk HP14_14.out (by show (36 + 1 : Nat) ≠ _; decide))
          have HP5_15 : Hid (w15.heap[b5]? = some (.cells cs5 5 f5)) := Lib.hid (hch.blk HP5_14.out (by show (5 + 1 : Nat) ≠ _; decide))
          have HP16_15 : Hid (w15.heap[P16]? = some (.cells #[.int .i64 s.id, .int .i64 s.seq, .int .i64 s.epoch, .bool s.asks, .string (str s.body), .bool true, .int .i64 now] 61 (0, 0))) := Lib.hid (hch.blkN HP16_14.out (by intro e; injection e with e; omega))
          have HP17_15 : Hid (w15.heap[(P16 + 1)]? = some (.cells #[.int .i64 7, .int .i64 s.epoch, .int .i64 0, .int .i64 0, .int .i64 0, .int .i64 0, .int .i64 0, .int .i64 0, .int .i64 0, .int .i64 0, .int .i64 0, .int .i64 0, .int .i64 0, .int .i64 0, .int .i64 0, .int .i64 s.id, .int .i64 s.seq, .slice ((some ⟨b5, 0, none⟩)) s.body.length c5, .int .i64 0, .int .i64 0, .int .i64 0] 36 (0, 0))) := Lib.hid (hch.blk HP17_14.out (by show (36 + 1 : Nat) ≠ _; decide))
          clear hch HB_14 HP9_14 HC_14 HO_14 HP14_14 HP5_14 HP16_14 HP17_14
          have HP7_15 := Lib.hid hnew
          clear hnew HP7_14
          go_upto_region 35 with (first | (refine wpList_load_row rfl 61 (.tmp 16) rfl P16 rfl 61 _ (0, 0) _ K71.out Try.underlying61 rfl (by kernel_rfl) ?_) | (refine wpList_store_row rfl 61 (.tmp 7) (.tmp 140) rfl P7 _ rfl rfl 61 _ HST.out (by kernel_rfl) rfl (by simp [Value.oneCell']) ?_))
          clear K71 HST
          rw [← hw72]
          clear hw72
          have K73 := HP14_15
          have K74 := HP17_15
          go_wp2_with (first | (refine wpList_load_g rfl 36 (.tmp 14) rfl P14 rfl 36 _ (0, 0) _ K73.out Try.underlying36 rfl (by kernel_rfl) ?_) | (refine wpList_load_g rfl 36 (.tmp 17) rfl (P16 + 1) rfl 36 _ (0, 0) _ K74.out Try.underlying36 rfl (by kernel_rfl) ?_))
          clear K73 K74
          refine (same_eq (askV s.epoch s.id s.seq) A' (some ⟨b5, 0, none⟩) s.body.length c' c5 s.body w15 (bytesIn_of_own HO_15.out).2 (HBY5.out w15 HP5_15.out) rfl).mono ?_
          rintro e w16 ⟨rfl, hb⟩
          have HB_16 : Hid (Below w.heap.size w w16) := Lib.hid (HB_15.out.trans (hb.mono HB_15.out.size))
          have HP9_16 : Hid (w16.heap[P9]? = some (.cells #[.int .i64 kd, .slice bA l.length bc, .int .i64 now, .bool near, .int .i64 (v2 0), .int .i64 (v2 1), .int .i64 (v2 2), .int .i64 (v2 3), .int .i64 (v2 4), .int .i64 (v2 5), .int .i64 (v2 6), .int .i64 (v2 7), .int .i64 (v2 8), .int .i64 (v2 9), .int .i64 (v2 10), .int .i64 (v2 11), .int .i64 (v2 12), .int .i64 (v2 13), .int .i64 (v2 14), .int .i64 (v2 15), .int .i64 (v2 16), .slice B nb cb, .int .i64 (v2 18), .int .i64 (v2 19), .int .i64 (v2 20)] 63 (0, 0))) := Lib.hid ((hb.block P9 (ltb HP9_15.out)).trans HP9_15.out)
          have HC_16 : Hid (CAt w16 gc { s with sent := true, at_ := now } A c) := Lib.hid (HC_15.out.below hb)
          have HO_16 : Hid (w16.ownsRow bo 5 1 (.slice A' s.body.length c') s.body.length (cells8 s.body)) := Lib.hid ((Chg.of_below (S := fun _ => False) hb).own HO_15.out (fun _ _ h => h))
          have HP14_16 : Hid (w16.heap[P14]? = some (.cells #[.int .i64 7, .int .i64 s.epoch, .int .i64 0, .int .i64 0, .int .i64 0, .int .i64 0, .int .i64 0, .int .i64 0, .int .i64 0, .int .i64 0, .int .i64 0, .int .i64 0, .int .i64 0, .int .i64 0, .int .i64 0, .int .i64 s.id, .int .i64 s.seq, .slice A' s.body.length c', .int .i64 0, .int .i64 0, .int .i64 0] 36 (0, 0))) := Lib.hid ((hb.block P14 (ltb HP14_15.out)).trans HP14_15.out)
          have HP5_16 : Hid (w16.heap[b5]? = some (.cells cs5 5 f5)) := Lib.hid ((hb.block b5 (ltb HP5_15.out)).trans HP5_15.out)
          have HP16_16 : Hid (w16.heap[P16]? = some (.cells #[.int .i64 s.id, .int .i64 s.seq, .int .i64 s.epoch, .bool s.asks, .string (str s.body), .bool true, .int .i64 now] 61 (0, 0))) := Lib.hid ((hb.block P16 (ltb HP16_15.out)).trans HP16_15.out)
          have HP17_16 : Hid (w16.heap[(P16 + 1)]? = some (.cells #[.int .i64 7, .int .i64 s.epoch, .int .i64 0, .int .i64 0, .int .i64 0, .int .i64 0, .int .i64 0, .int .i64 0, .int .i64 0, .int .i64 0, .int .i64 0, .int .i64 0, .int .i64 0, .int .i64 0, .int .i64 0, .int .i64 s.id, .int .i64 s.seq, .slice ((some ⟨b5, 0, none⟩)) s.body.length c5, .int .i64 0, .int .i64 0, .int .i64 0] 36 (0, 0))) := Lib.hid ((hb.block (P16 + 1) (ltb HP17_15.out)).trans HP17_15.out)
          have HP7_16 : Hid (w16.heap[P7]? = some (.cells #[.int .i64 s.id, .int .i64 s.seq, .int .i64 s.epoch, .bool s.asks, .string (str s.body), .bool true, .int .i64 now] 61 (0, 0))) := Lib.hid ((hb.block P7 (ltb HP7_15.out)).trans HP7_15.out)
          clear hb HB_15 HP9_15 HC_15 HO_15 HP14_15 HP5_15 HP16_15 HP17_15 HP7_15
          go_wp2_with fail
          refine (state_any gc { s with sent := true, at_ := now } A c w16 HC_16.out).mono ?_
          rintro e w17 ⟨rfl, m, hm⟩
          have hb : Below w16.heap.size w16 w17 := by rw [hm]; exact below_dn (Below.refl _ _)
          clear hm
          have HB_17 : Hid (Below w.heap.size w w17) := Lib.hid (HB_16.out.trans (hb.mono HB_16.out.size))
          have HP9_17 : Hid (w17.heap[P9]? = some (.cells #[.int .i64 kd, .slice bA l.length bc, .int .i64 now, .bool near, .int .i64 (v2 0), .int .i64 (v2 1), .int .i64 (v2 2), .int .i64 (v2 3), .int .i64 (v2 4), .int .i64 (v2 5), .int .i64 (v2 6), .int .i64 (v2 7), .int .i64 (v2 8), .int .i64 (v2 9), .int .i64 (v2 10), .int .i64 (v2 11), .int .i64 (v2 12), .int .i64 (v2 13), .int .i64 (v2 14), .int .i64 (v2 15), .int .i64 (v2 16), .slice B nb cb, .int .i64 (v2 18), .int .i64 (v2 19), .int .i64 (v2 20)] 63 (0, 0))) := Lib.hid ((hb.block P9 (ltb HP9_16.out)).trans HP9_16.out)
          have HC_17 : Hid (CAt w17 gc { s with sent := true, at_ := now } A c) := Lib.hid (HC_16.out.below hb)
          have HO_17 : Hid (w17.ownsRow bo 5 1 (.slice A' s.body.length c') s.body.length (cells8 s.body)) := Lib.hid ((Chg.of_below (S := fun _ => False) hb).own HO_16.out (fun _ _ h => h))
          have HP14_17 : Hid (w17.heap[P14]? = some (.cells #[.int .i64 7, .int .i64 s.epoch, .int .i64 0, .int .i64 0, .int .i64 0, .int .i64 0, .int .i64 0, .int .i64 0, .int .i64 0, .int .i64 0, .int .i64 0, .int .i64 0, .int .i64 0, .int .i64 0, .int .i64 0, .int .i64 s.id, .int .i64 s.seq, .slice A' s.body.length c', .int .i64 0, .int .i64 0, .int .i64 0] 36 (0, 0))) := Lib.hid ((hb.block P14 (ltb HP14_16.out)).trans HP14_16.out)
          have HP5_17 : Hid (w17.heap[b5]? = some (.cells cs5 5 f5)) := Lib.hid ((hb.block b5 (ltb HP5_16.out)).trans HP5_16.out)
          have HP16_17 : Hid (w17.heap[P16]? = some (.cells #[.int .i64 s.id, .int .i64 s.seq, .int .i64 s.epoch, .bool s.asks, .string (str s.body), .bool true, .int .i64 now] 61 (0, 0))) := Lib.hid ((hb.block P16 (ltb HP16_16.out)).trans HP16_16.out)
          have HP17_17 : Hid (w17.heap[(P16 + 1)]? = some (.cells #[.int .i64 7, .int .i64 s.epoch, .int .i64 0, .int .i64 0, .int .i64 0, .int .i64 0, .int .i64 0, .int .i64 0, .int .i64 0, .int .i64 0, .int .i64 0, .int .i64 0, .int .i64 0, .int .i64 0, .int .i64 0, .int .i64 s.id, .int .i64 s.seq, .slice ((some ⟨b5, 0, none⟩)) s.body.length c5, .int .i64 0, .int .i64 0, .int .i64 0] 36 (0, 0))) := Lib.hid ((hb.block (P16 + 1) (ltb HP17_16.out)).trans HP17_16.out)
          have HP7_17 : Hid (w17.heap[P7]? = some (.cells #[.int .i64 s.id, .int .i64 s.seq, .int .i64 s.epoch, .bool s.asks, .string (str s.body), .bool true, .int .i64 now] 61 (0, 0))) := Lib.hid ((hb.block P7 (ltb HP7_16.out)).trans HP7_16.out)
          clear hb HB_16 HP9_16 HC_16 HO_16 HP14_16 HP5_16 HP16_16 HP17_16 HP7_16
          have cc75 : w17.cell? ⟨P7, 1, none⟩ = some (.int .i64 s.seq) := cellb (i := 1) HP7_17.out rfl
          have cc76 : w17.cell? ⟨P7, 2, none⟩ = some (.int .i64 s.epoch) := cellb (i := 2) HP7_17.out rfl
          have cc77 : w17.cell? ⟨P7, 3, none⟩ = some (.bool s.asks) := cellb (i := 3) HP7_17.out rfl
          go_upto_region 12 with fail
          clear cc75 cc76 cc77
          go_wp2_with fail
          go_roundg (len - (j + 1))
          case measure => omega
          case rel => exact ⟨j + 1, { s with sent := true, at_ := now }, A, c, by omega, by omega, rfl, by go_num, N1.out, n2, by show now < 1099511627776; have := HNW.out; have hs := HNO.out; unfold SendNo at hs; omega, n4, HC_17, HP7_17, HB_17⟩
      · skip
        have HM78 : Hid (w9.rangeAt P9 4 [.int .i64 (v2 0), .int .i64 (v2 1), .int .i64 (v2 2), .int .i64 (v2 3), .int .i64 (v2 4), .int .i64 (v2 5), .int .i64 (v2 6), .int .i64 (v2 7), .int .i64 (v2 8), .int .i64 (v2 9), .int .i64 (v2 10), .int .i64 (v2 11), .int .i64 (v2 12), .int .i64 (v2 13), .int .i64 (v2 14), .int .i64 (v2 15), .int .i64 (v2 16), .slice B nb cb, .int .i64 (v2 18), .int .i64 (v2 19), .int .i64 (v2 20)]) := Lib.hid (mid_of [.int .i64 kd, .slice bA l.length bc, .int .i64 now, .bool near] [.int .i64 (v2 0), .int .i64 (v2 1), .int .i64 (v2 2), .int .i64 (v2 3), .int .i64 (v2 4), .int .i64 (v2 5), .int .i64 (v2 6), .int .i64 (v2 7), .int .i64 (v2 8), .int .i64 (v2 9), .int .i64 (v2 10), .int .i64 (v2 11), .int .i64 (v2 12), .int .i64 (v2 13), .int .i64 (v2 14), .int .i64 (v2 15), .int .i64 (v2 16), .slice B nb cb, .int .i64 (v2 18), .int .i64 (v2 19), .int .i64 (v2 20)] [] HP9_9.out rfl)
        go_wp2_with (refine wpList_load_mid rfl 36 (.tmp 83) rfl P9 4 rfl [.int .i64 (v2 0), .int .i64 (v2 1), .int .i64 (v2 2), .int .i64 (v2 3), .int .i64 (v2 4), .int .i64 (v2 5), .int .i64 (v2 6), .int .i64 (v2 7), .int .i64 (v2 8), .int .i64 (v2 9), .int .i64 (v2 10), .int .i64 (v2 11), .int .i64 (v2 12), .int .i64 (v2 13), .int .i64 (v2 14), .int .i64 (v2 15), .int .i64 (v2 16), .slice B nb cb, .int .i64 (v2 18), .int .i64 (v2 19), .int .i64 (v2 20)] _ HM78.out Try.underlying36 rfl (by kernel_rfl) ?_)
        clear HM78
        refine (hear_c gc s A c v2 B nb cb w9 HC_9.out).mono ?_
        rintro e w10 ⟨k, s', a1, a2, a3, hh, rfl, hc, hg⟩
        have hch := Ch.ofChg HC_9.out.blk hg
        have HHB := Lib.hid hh
        clear hh hg HC_9
        have HB_10 : Hid (Below w.heap.size w w10) := Lib.hid (hch.below HB_9.out HB_9.out.size (fun k hk => by injection hk with hk; omega))
        have HP7_10 : Hid (w10.heap[P7]? = some (.cells #[.int .i64 s.id, .int .i64 s.seq, .int .i64 s.epoch, .bool s.asks, .string (str s.body), .bool s.sent, .int .i64 s.at_] 61 (0, 0))) := Lib.hid (hch.blk HP7_9.out (by show (61 + 1 : Nat) ≠ _; decide))
        have HP9_10 : Hid (w10.heap[P9]? = some (.cells #[.int .i64 kd, .slice bA l.length bc, .int .i64 now, .bool near, .int .i64 (v2 0), .int .i64 (v2 1), .int .i64 (v2 2), .int .i64 (v2 3), .int .i64 (v2 4), .int .i64 (v2 5), .int .i64 (v2 6), .int .i64 (v2 7), .int .i64 (v2 8), .int .i64 (v2 9), .int .i64 (v2 10), .int .i64 (v2 11), .int .i64 (v2 12), .int .i64 (v2 13), .int .i64 (v2 14), .int .i64 (v2 15), .int .i64 (v2 16), .slice B nb cb, .int .i64 (v2 18), .int .i64 (v2 19), .int .i64 (v2 20)] 63 (0, 0))) := Lib.hid (hch.blk HP9_9.out (by show (63 + 1 : Nat) ≠ _; decide))
        clear hch HB_9 HP7_9 HP9_9
        have HC_10 : Hid (CAt w10 gc s' A c) := Lib.hid hc
        clear hc
        obtain ⟨P19, hP19⟩ : ∃ x, x = w10.heap.size := ⟨_, rfl⟩
        have loP19 : w.heap.size ≤ P19 := (by have := HB_10.out.size; omega)
        obtain ⟨w11, hw79⟩ : ∃ y, y = w10.alloc (.cells #[.int .i64 a1, .int .i64 a2, .int .i64 a3] 34) := ⟨_, rfl⟩
        have hal : Below w10.heap.size w10 w11 := by rw [hw79]; exact (Below.refl _ _).alloc (Nat.le_refl _) _
        have hnew : w11.heap[P19]? = some (.cells #[.int .i64 a1, .int .i64 a2, .int .i64 a3] 34 (0, 0)) := by rw [hw79, hP19]; exact heap_alloc_new _ _
        have HB_11 : Hid (Below w.heap.size w w11) := Lib.hid (HB_10.out.trans (hal.mono HB_10.out.size))
        have HP7_11 : Hid (w11.heap[P7]? = some (.cells #[.int .i64 s.id, .int .i64 s.seq, .int .i64 s.epoch, .bool s.asks, .string (str s.body), .bool s.sent, .int .i64 s.at_] 61 (0, 0))) := Lib.hid ((hal.block P7 (ltb HP7_10.out)).trans HP7_10.out)
        have HP9_11 : Hid (w11.heap[P9]? = some (.cells #[.int .i64 kd, .slice bA l.length bc, .int .i64 now, .bool near, .int .i64 (v2 0), .int .i64 (v2 1), .int .i64 (v2 2), .int .i64 (v2 3), .int .i64 (v2 4), .int .i64 (v2 5), .int .i64 (v2 6), .int .i64 (v2 7), .int .i64 (v2 8), .int .i64 (v2 9), .int .i64 (v2 10), .int .i64 (v2 11), .int .i64 (v2 12), .int .i64 (v2 13), .int .i64 (v2 14), .int .i64 (v2 15), .int .i64 (v2 16), .slice B nb cb, .int .i64 (v2 18), .int .i64 (v2 19), .int .i64 (v2 20)] 63 (0, 0))) := Lib.hid ((hal.block P9 (ltb HP9_10.out)).trans HP9_10.out)
        have HC_11 : Hid (CAt w11 gc s' A c) := Lib.hid (HC_10.out.below hal)
        clear hal HB_10 HP7_10 HP9_10 HC_10
        have HP19_11 := Lib.hid hnew
        clear hnew
        go_upto_region 22 with (refine wpList_store_row rfl 34 (.tmp 19) (.tmp 86) rfl w10.heap.size _ rfl rfl 34 _ (heap_alloc_new w10 _) (by kernel_rfl) rfl (by simp [Value.oneCell']) ?_; rw [World.setRow_alloc_new])
        rw [← hw79]
        clear hw79
        rw [← hP19]
        clear hP19
        have K80 := HP7_11
        have HM81 : Hid (w11.rangeAt P9 4 [.int .i64 (v2 0), .int .i64 (v2 1), .int .i64 (v2 2), .int .i64 (v2 3), .int .i64 (v2 4), .int .i64 (v2 5), .int .i64 (v2 6), .int .i64 (v2 7), .int .i64 (v2 8), .int .i64 (v2 9), .int .i64 (v2 10), .int .i64 (v2 11), .int .i64 (v2 12), .int .i64 (v2 13), .int .i64 (v2 14), .int .i64 (v2 15), .int .i64 (v2 16), .slice B nb cb, .int .i64 (v2 18), .int .i64 (v2 19), .int .i64 (v2 20)]) := Lib.hid (mid_of [.int .i64 kd, .slice bA l.length bc, .int .i64 now, .bool near] [.int .i64 (v2 0), .int .i64 (v2 1), .int .i64 (v2 2), .int .i64 (v2 3), .int .i64 (v2 4), .int .i64 (v2 5), .int .i64 (v2 6), .int .i64 (v2 7), .int .i64 (v2 8), .int .i64 (v2 9), .int .i64 (v2 10), .int .i64 (v2 11), .int .i64 (v2 12), .int .i64 (v2 13), .int .i64 (v2 14), .int .i64 (v2 15), .int .i64 (v2 16), .slice B nb cb, .int .i64 (v2 18), .int .i64 (v2 19), .int .i64 (v2 20)] [] HP9_11.out rfl)
        go_wp2_with (first | (refine wpList_load_row rfl 61 (.tmp 7) rfl P7 rfl 61 _ (0, 0) _ K80.out Try.underlying61 rfl (by kernel_rfl) ?_) | (refine wpList_load_mid rfl 36 (.tmp 90) rfl P9 4 rfl [.int .i64 (v2 0), .int .i64 (v2 1), .int .i64 (v2 2), .int .i64 (v2 3), .int .i64 (v2 4), .int .i64 (v2 5), .int .i64 (v2 6), .int .i64 (v2 7), .int .i64 (v2 8), .int .i64 (v2 9), .int .i64 (v2 10), .int .i64 (v2 11), .int .i64 (v2 12), .int .i64 (v2 13), .int .i64 (v2 14), .int .i64 (v2 15), .int .i64 (v2 16), .slice B nb cb, .int .i64 (v2 18), .int .i64 (v2 19), .int .i64 (v2 20)] _ HM81.out Try.underlying36 rfl (by kernel_rfl) ?_))
        clear K80 HM81
        refine (rhear_c s v2 B nb cb w11 k s' a1 a2 a3 HHB.out).mono ?_
        rintro e w12 ⟨rfl, hb⟩
        have HB_12 : Hid (Below w.heap.size w w12) := Lib.hid (HB_11.out.trans (hb.mono HB_11.out.size))
        have HP7_12 : Hid (w12.heap[P7]? = some (.cells #[.int .i64 s.id, .int .i64 s.seq, .int .i64 s.epoch, .bool s.asks, .string (str s.body), .bool s.sent, .int .i64 s.at_] 61 (0, 0))) := Lib.hid ((hb.block P7 (ltb HP7_11.out)).trans HP7_11.out)
        have HP9_12 : Hid (w12.heap[P9]? = some (.cells #[.int .i64 kd, .slice bA l.length bc, .int .i64 now, .bool near, .int .i64 (v2 0), .int .i64 (v2 1), .int .i64 (v2 2), .int .i64 (v2 3), .int .i64 (v2 4), .int .i64 (v2 5), .int .i64 (v2 6), .int .i64 (v2 7), .int .i64 (v2 8), .int .i64 (v2 9), .int .i64 (v2 10), .int .i64 (v2 11), .int .i64 (v2 12), .int .i64 (v2 13), .int .i64 (v2 14), .int .i64 (v2 15), .int .i64 (v2 16), .slice B nb cb, .int .i64 (v2 18), .int .i64 (v2 19), .int .i64 (v2 20)] 63 (0, 0))) := Lib.hid ((hb.block P9 (ltb HP9_11.out)).trans HP9_11.out)
        have HC_12 : Hid (CAt w12 gc s' A c) := Lib.hid (HC_11.out.below hb)
        have HP19_12 : Hid (w12.heap[P19]? = some (.cells #[.int .i64 a1, .int .i64 a2, .int .i64 a3] 34 (0, 0))) := Lib.hid ((hb.block P19 (ltb HP19_11.out)).trans HP19_11.out)
        clear hb HB_11 HP7_11 HP9_11 HC_11 HP19_11
        obtain ⟨P21, hP21⟩ : ∃ x, x = w12.heap.size := ⟨_, rfl⟩
        have loP21 : w.heap.size ≤ P21 := (by have := HB_12.out.size; omega)
        have oP21_P7 : P7 < P21 := (by have := ltb HP7_12.out; omega)
        obtain ⟨w13, hw82⟩ : ∃ y, y = w12.alloc (.cells #[.int .i64 s'.id, .int .i64 s'.seq, .int .i64 s'.epoch, .bool s'.asks, .string (str s'.body), .bool s'.sent, .int .i64 s'.at_] 61) := ⟨_, rfl⟩
        have hal : Below w12.heap.size w12 w13 := by rw [hw82]; exact (Below.refl _ _).alloc (Nat.le_refl _) _
        have hnew : w13.heap[P21]? = some (.cells #[.int .i64 s'.id, .int .i64 s'.seq, .int .i64 s'.epoch, .bool s'.asks, .string (str s'.body), .bool s'.sent, .int .i64 s'.at_] 61 (0, 0)) := by rw [hw82, hP21]; exact heap_alloc_new _ _
        have HB_13 : Hid (Below w.heap.size w w13) := Lib.hid (HB_12.out.trans (hal.mono HB_12.out.size))
        have HP7_13 : Hid (w13.heap[P7]? = some (.cells #[.int .i64 s.id, .int .i64 s.seq, .int .i64 s.epoch, .bool s.asks, .string (str s.body), .bool s.sent, .int .i64 s.at_] 61 (0, 0))) := Lib.hid ((hal.block P7 (ltb HP7_12.out)).trans HP7_12.out)
        have HP9_13 : Hid (w13.heap[P9]? = some (.cells #[.int .i64 kd, .slice bA l.length bc, .int .i64 now, .bool near, .int .i64 (v2 0), .int .i64 (v2 1), .int .i64 (v2 2), .int .i64 (v2 3), .int .i64 (v2 4), .int .i64 (v2 5), .int .i64 (v2 6), .int .i64 (v2 7), .int .i64 (v2 8), .int .i64 (v2 9), .int .i64 (v2 10), .int .i64 (v2 11), .int .i64 (v2 12), .int .i64 (v2 13), .int .i64 (v2 14), .int .i64 (v2 15), .int .i64 (v2 16), .slice B nb cb, .int .i64 (v2 18), .int .i64 (v2 19), .int .i64 (v2 20)] 63 (0, 0))) := Lib.hid ((hal.block P9 (ltb HP9_12.out)).trans HP9_12.out)
        have HC_13 : Hid (CAt w13 gc s' A c) := Lib.hid (HC_12.out.below hal)
        have HP19_13 : Hid (w13.heap[P19]? = some (.cells #[.int .i64 a1, .int .i64 a2, .int .i64 a3] 34 (0, 0))) := Lib.hid ((hal.block P19 (ltb HP19_12.out)).trans HP19_12.out)
        clear hal HB_12 HP7_12 HP9_12 HC_12 HP19_12
        have HP21_13 := Lib.hid hnew
        clear hnew
        obtain ⟨w14, hw83⟩ : ∃ y, y = w13.alloc (.cells #[.int .i64 a1, .int .i64 a2, .int .i64 a3] 34) := ⟨_, rfl⟩
        have hal : Below w13.heap.size w13 w14 := by rw [hw83]; exact (Below.refl _ _).alloc (Nat.le_refl _) _
        have hnew : w14.heap[(P21 + 1)]? = some (.cells #[.int .i64 a1, .int .i64 a2, .int .i64 a3] 34 (0, 0)) := by rw [hw83]; exact alloc_at _ _ _ (by simp [hw82, hP21])
        have HB_14 : Hid (Below w.heap.size w w14) := Lib.hid (HB_13.out.trans (hal.mono HB_13.out.size))
        have HP7_14 : Hid (w14.heap[P7]? = some (.cells #[.int .i64 s.id, .int .i64 s.seq, .int .i64 s.epoch, .bool s.asks, .string (str s.body), .bool s.sent, .int .i64 s.at_] 61 (0, 0))) := Lib.hid ((hal.block P7 (ltb HP7_13.out)).trans HP7_13.out)
        have HP9_14 : Hid (w14.heap[P9]? = some (.cells #[.int .i64 kd, .slice bA l.length bc, .int .i64 now, .bool near, .int .i64 (v2 0), .int .i64 (v2 1), .int .i64 (v2 2), .int .i64 (v2 3), .int .i64 (v2 4), .int .i64 (v2 5), .int .i64 (v2 6), .int .i64 (v2 7), .int .i64 (v2 8), .int .i64 (v2 9), .int .i64 (v2 10), .int .i64 (v2 11), .int .i64 (v2 12), .int .i64 (v2 13), .int .i64 (v2 14), .int .i64 (v2 15), .int .i64 (v2 16), .slice B nb cb, .int .i64 (v2 18), .int .i64 (v2 19), .int .i64 (v2 20)] 63 (0, 0))) := Lib.hid ((hal.block P9 (ltb HP9_13.out)).trans HP9_13.out)
        have HC_14 : Hid (CAt w14 gc s' A c) := Lib.hid (HC_13.out.below hal)
        have HP19_14 : Hid (w14.heap[P19]? = some (.cells #[.int .i64 a1, .int .i64 a2, .int .i64 a3] 34 (0, 0))) := Lib.hid ((hal.block P19 (ltb HP19_13.out)).trans HP19_13.out)
        have HP21_14 : Hid (w14.heap[P21]? = some (.cells #[.int .i64 s'.id, .int .i64 s'.seq, .int .i64 s'.epoch, .bool s'.asks, .string (str s'.body), .bool s'.sent, .int .i64 s'.at_] 61 (0, 0))) := Lib.hid ((hal.block P21 (ltb HP21_13.out)).trans HP21_13.out)
        clear hal HB_13 HP7_13 HP9_13 HC_13 HP19_13 HP21_13
        have HP22_14 := Lib.hid hnew
        clear hnew
        go_upto_region 23 with (first | (refine wpList_store_row rfl 61 (.tmp 21) (.tmp 93) rfl w12.heap.size _ rfl rfl 61 _ (alloc2_first w12 _ _) (by kernel_rfl) rfl (by simp [Value.oneCell']) ?_; rw [setRow_alloc2_first]) | (refine wpList_store_row rfl 34 (.tmp 22) (.tmp 94) rfl (w12.heap.size + 1) _ rfl rfl 34 _ (alloc2_second w12 _ _) (by kernel_rfl) rfl (by simp [Value.oneCell']) ?_; rw [setRow_alloc2_second]))
        rw [← hw82]
        clear hw82
        rw [← hw83]
        clear hw83
        rw [← hP21]
        clear hP21
        have HST := HP7_14
        have K84 := HP21_14
        obtain ⟨w15, hw85⟩ : ∃ y, y = w14.setRow P7 #[.int .i64 s'.id, .int .i64 s'.seq, .int .i64 s'.epoch, .bool s'.asks, .string (str s'.body), .bool s'.sent, .int .i64 s'.at_] := ⟨_, rfl⟩
        have hch := Ch.ofRow HP7_14.out #[.int .i64 s'.id, .int .i64 s'.seq, .int .i64 s'.epoch, .bool s'.asks, .string (str s'.body), .bool s'.sent, .int .i64 s'.at_]
        rw [← hw85] at hch
        have hnew : w15.heap[P7]? = some (.cells #[.int .i64 s'.id, .int .i64 s'.seq, .int .i64 s'.epoch, .bool s'.asks, .string (str s'.body), .bool s'.sent, .int .i64 s'.at_] 61 (0, 0)) := by rw [hw85]; exact setRow_heap _ _ _ _ _ _ HP7_14.out
        have HB_15 : Hid (Below w.heap.size w w15) := Lib.hid (hch.below HB_14.out HB_14.out.size (fun k hk => by injection hk with hk; omega))
        have HP9_15 : Hid (w15.heap[P9]? = some (.cells #[.int .i64 kd, .slice bA l.length bc, .int .i64 now, .bool near, .int .i64 (v2 0), .int .i64 (v2 1), .int .i64 (v2 2), .int .i64 (v2 3), .int .i64 (v2 4), .int .i64 (v2 5), .int .i64 (v2 6), .int .i64 (v2 7), .int .i64 (v2 8), .int .i64 (v2 9), .int .i64 (v2 10), .int .i64 (v2 11), .int .i64 (v2 12), .int .i64 (v2 13), .int .i64 (v2 14), .int .i64 (v2 15), .int .i64 (v2 16), .slice B nb cb, .int .i64 (v2 18), .int .i64 (v2 19), .int .i64 (v2 20)] 63 (0, 0))) := Lib.hid (hch.blk HP9_14.out (by show (63 + 1 : Nat) ≠ _; decide))
        have HC_15 : Hid (CAt w15 gc s' A c) := Lib.hid (hch.cat HC_14.out (by decide) (by decide))
        have HP19_15 : Hid (w15.heap[P19]? = some (.cells #[.int .i64 a1, .int .i64 a2, .int .i64 a3] 34 (0, 0))) := Lib.hid (hch.blk HP19_14.out (by show (34 + 1 : Nat) ≠ _; decide))
        have HP21_15 : Hid (w15.heap[P21]? = some (.cells #[.int .i64 s'.id, .int .i64 s'.seq, .int .i64 s'.epoch, .bool s'.asks, .string (str s'.body), .bool s'.sent, .int .i64 s'.at_] 61 (0, 0))) := Lib.hid (hch.blkN HP21_14.out (by intro e; injection e with e; omega))
        have HP22_15 : Hid (w15.heap[(P21 + 1)]? = some (.cells #[.int .i64 a1, .int .i64 a2, .int .i64 a3] 34 (0, 0))) := Lib.hid (hch.blk HP22_14.out (by show (34 + 1 : Nat) ≠ _; decide))
        clear hch HB_14 HP9_14 HC_14 HP19_14 HP21_14 HP22_14
        have HP7_15 := Lib.hid hnew
        clear hnew HP7_14
        go_upto_region 24 with (first | (refine wpList_load_row rfl 61 (.tmp 21) rfl P21 rfl 61 _ (0, 0) _ K84.out Try.underlying61 rfl (by kernel_rfl) ?_) | (refine wpList_store_row rfl 61 (.tmp 7) (.tmp 96) rfl P7 _ rfl rfl 61 _ HST.out (by kernel_rfl) rfl (by simp [Value.oneCell']) ?_))
        clear K84 HST
        rw [← hw85]
        clear hw85
        have qr := fun w => eq_rep3 a1 a2 a3 w
        have qk : (k == k) = true := by simp
        have K86 := HP19_15
        have K87 := HP22_15
        go_wp2_with (first | (refine wpList_load_g rfl 34 (.tmp 19) rfl P19 rfl 34 _ (0, 0) _ K86.out Try.underlying34 rfl (by kernel_rfl) ?_) | (refine wpList_load_g rfl 34 (.tmp 22) rfl (P21 + 1) rfl 34 _ (0, 0) _ K87.out Try.underlying34 rfl (by kernel_rfl) ?_))
        clear K86 K87
        refine (state_any gc s' A c w15 HC_15.out).mono ?_
        rintro e w16 ⟨rfl, m, hm⟩
        have hb : Below w15.heap.size w15 w16 := by rw [hm]; exact below_dn (Below.refl _ _)
        clear hm
        have HB_16 : Hid (Below w.heap.size w w16) := Lib.hid (HB_15.out.trans (hb.mono HB_15.out.size))
        have HP9_16 : Hid (w16.heap[P9]? = some (.cells #[.int .i64 kd, .slice bA l.length bc, .int .i64 now, .bool near, .int .i64 (v2 0), .int .i64 (v2 1), .int .i64 (v2 2), .int .i64 (v2 3), .int .i64 (v2 4), .int .i64 (v2 5), .int .i64 (v2 6), .int .i64 (v2 7), .int .i64 (v2 8), .int .i64 (v2 9), .int .i64 (v2 10), .int .i64 (v2 11), .int .i64 (v2 12), .int .i64 (v2 13), .int .i64 (v2 14), .int .i64 (v2 15), .int .i64 (v2 16), .slice B nb cb, .int .i64 (v2 18), .int .i64 (v2 19), .int .i64 (v2 20)] 63 (0, 0))) := Lib.hid ((hb.block P9 (ltb HP9_15.out)).trans HP9_15.out)
        have HC_16 : Hid (CAt w16 gc s' A c) := Lib.hid (HC_15.out.below hb)
        have HP19_16 : Hid (w16.heap[P19]? = some (.cells #[.int .i64 a1, .int .i64 a2, .int .i64 a3] 34 (0, 0))) := Lib.hid ((hb.block P19 (ltb HP19_15.out)).trans HP19_15.out)
        have HP21_16 : Hid (w16.heap[P21]? = some (.cells #[.int .i64 s'.id, .int .i64 s'.seq, .int .i64 s'.epoch, .bool s'.asks, .string (str s'.body), .bool s'.sent, .int .i64 s'.at_] 61 (0, 0))) := Lib.hid ((hb.block P21 (ltb HP21_15.out)).trans HP21_15.out)
        have HP22_16 : Hid (w16.heap[(P21 + 1)]? = some (.cells #[.int .i64 a1, .int .i64 a2, .int .i64 a3] 34 (0, 0))) := Lib.hid ((hb.block (P21 + 1) (ltb HP22_15.out)).trans HP22_15.out)
        have HP7_16 : Hid (w16.heap[P7]? = some (.cells #[.int .i64 s'.id, .int .i64 s'.seq, .int .i64 s'.epoch, .bool s'.asks, .string (str s'.body), .bool s'.sent, .int .i64 s'.at_] 61 (0, 0))) := Lib.hid ((hb.block P7 (ltb HP7_15.out)).trans HP7_15.out)
        clear hb HB_15 HP9_15 HC_15 HP19_15 HP21_15 HP22_15 HP7_15
        have cc88 : w16.cell? ⟨P7, 1, none⟩ = some (.int .i64 s'.seq) := cellb (i := 1) HP7_16.out rfl
        have cc89 : w16.cell? ⟨P7, 2, none⟩ = some (.int .i64 s'.epoch) := cellb (i := 2) HP7_16.out rfl
        have cc90 : w16.cell? ⟨P7, 3, none⟩ = some (.bool s'.asks) := cellb (i := 3) HP7_16.out rfl
        go_upto_region 12 with fail
        clear cc88 cc89 cc90
        go_wp2_with fail
        go_roundg (len - (j + 1))
        case measure => omega
        case rel => exact ⟨j + 1, s', A, c, by omega, by omega, rfl, by go_num, by rw [(hearB_keep HHB.out).1]; exact N1.out, by rw [(hearB_keep HHB.out).2.1]; exact n2, by rw [(hearB_keep HHB.out).2.2.1]; exact n3, by rw [(hearB_keep HHB.out).2.2.2]; exact n4, HC_16, HP7_16, HB_16⟩
theorem law_asks (id : Int) (A0 : Option Addr) (len cap : Nat) (gs : List Ay) (w : World) (hlen : len = gs.length) (hp : ActsIn w w.heap.size A0 gs) :
    Calls Try.prog 5 #[.int .i64 id, .slice A0 len cap] w fun e w' => e = .returned (.bool true) ∧ Below w.heap.size w w' := by
  by_cases h1 : 1 ≤ id
  · by_cases h2 : id ≤ 16
    · exact asks_in id A0 len cap gs w h1 h2 hlen hp
    · exact asks_out id A0 len cap w (.inr (by omega))
  · exact asks_out id A0 len cap w (.inl (by omega))
end Go.Proofs.Ytlcbpodjmafoeaa
