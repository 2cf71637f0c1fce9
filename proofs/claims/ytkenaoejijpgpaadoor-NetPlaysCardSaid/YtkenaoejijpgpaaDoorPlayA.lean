/- An act over both: sending, peeking. -/
import Derived.Test.YtkenaoejijpgpaaDoorPlayD
import Derived.Test.YtkenaoejijpgpaaDoorHeldW
namespace Go.Proofs.YtkenaoejijpgpaaDoor
open Go.RowKit

set_option maxRecDepth 100000 in
set_option maxHeartbeats 4000000 in
theorem done_0F (kd ix to_ bit : Int) (Ab : Option Addr) (nb cb : Nat) (bs : List UInt8) {w : World} {S B N Lc n c : Nat} {LA A : Option Addr} {l : List Pv} (h : Both w S B N LA Lc A n c l) (hSB : S ≤ B) (hby : BytesIn w S Ab cb bs) (hnb : nb = bs.length) (hbs : nb ≤ 1000) (hno : ¬ (0 ≤ ix ∧ ix < (n : Int))) (hk : bits .and .i64 kd 7 = 0) :
    Calls Tryd.prog 24 #[.pointer (some ⟨N, 0, none⟩), .slice A n c, .agg #[.int .i64 kd, .int .i64 ix, .int .i64 to_, .int .i64 bit, .slice Ab nb cb]] w fun e w' => DoneTo w S B N e w' := by
  obtain ⟨X, hX⟩ : ∃ x, x = w.heap.size := ⟨_, rfl⟩
  obtain ⟨w0, hw0⟩ : ∃ y, y = w.alloc (.cells #[.int .i64 kd, .int .i64 ix, .int .i64 to_, .int .i64 bit, .slice Ab nb cb] 51) := ⟨_, rfl⟩
  have hal : Below w.heap.size w w0 := by rw [hw0]; exact (Below.refl _ _).alloc (Nat.le_refl _) _
  have hx : w0.heap[X]? = some (.cells #[.int .i64 kd, .int .i64 ix, .int .i64 to_, .int .i64 bit, .slice Ab nb cb] 51 (0, 0)) := by rw [hw0, hX]; exact heap_alloc_new w _
  have hSw : S ≤ w.heap.size := Nat.le_trans hSB h.size
  have H0 := Lib.hid (h.below hal)
  have HX0 := Lib.hid hx
  have HB0 := Lib.hid (hal.mono hSw)
  have HY0 := Lib.hid (hby.below (hal.mono hSw) (Nat.le_refl _))
  have HNB := Lib.hid hnb
  have HL := Lib.hid h.len
  have HW := Lib.hid hw0
  have HXW := Lib.hid hX
  have hs0 : S ≤ w0.heap.size := Nat.le_trans hSw hal.size
  have hXs : X < w0.heap.size := ltb hx
  have hSX : S ≤ X := by omega
  have hn1000 : n ≤ 1000 := by have := h.good.1; have := h.len; omega
  have x0 := cellb (i := 0) hx rfl
  have x1 := cellb (i := 1) hx rfl
  have x2 := cellb (i := 2) hx rfl
  have x3 := cellb (i := 3) hx rfl
  have x4 := cellb (i := 4) hx rfl
  clear hw0 hal hx h hby hnb hX hSw
  go_enter Tryd.func24, Tryd.ntmps24
  go_upto_region 1 with fail
  rw [← HXW.out, ← HW.out]
  clear HW HXW
  by_cases hge : 0 ≤ ix
  · have hlt : ¬ ix < (n : Int) := fun h => hno ⟨hge, h⟩
    go_wp2_with fail
    clear x0 x1 x2 x3 x4
    by_cases hf : l.length < 1000
    · refine (send_any w0 H0.out.net hf to_ Ab nb cb bs (HY0.out.more hs0) HNB.out (by omega)).mono ?_
      rintro e w1 ⟨LA1, Lc1, PA, Pc, rfl, hn, hc⟩
      have HX1 := Lib.hid (hc.kp _ _ HX0.out (by show (51 + 1 : Nat) ≠ _; decide) (by show (51 + 1 : Nat) ≠ _; decide))
      have HN1 := Lib.hid hn
      have HR1 := Lib.hid (H0.out.row.nch hc)
      have HB1 := Lib.hid (HB0.out.trans (hc.low.mono hSB))
      have HY1 := Lib.hid (HY0.out.below (hc.low.mono hSB) (Nat.le_refl _))
      have hs1 : S ≤ w1.heap.size := Nat.le_trans hs0 hc.size
      have hG : Hid (GoodL (l ++ [⟨to_, PA, Pc, bs⟩])) := Lib.hid ⟨by rw [List.length_append]; exact hf, fun p hp => by
        rw [List.mem_append, List.mem_singleton] at hp
        rcases hp with hp | rfl
        · exact H0.out.good.2 p hp
        · show bs.length ≤ 1000; rw [← HNB.out]; exact hbs⟩
      clear hn hc HX0 HB0 HY0
      have x2 := cellb (i := 2) HX1.out rfl
      have x4 := cellb (i := 4) HX1.out rfl
      have z := zc (HY1.out) HNB.out
      go_wp2_with fail
      clear x2 x4 z
      refine (put_any A n c S _ to_ bs w1 HR1.out hs1 (by have := HL.out; omega)).mono ?_
      rintro e w2 ⟨A2, n2, c2, rfl, hr, hb⟩
      have HF : Hid (Both w2 S B N LA1 Lc1 A2 n2 c2 (l ++ [⟨to_, PA, Pc, bs⟩])) := Lib.hid ⟨HN1.out.below hb, by rw [List.map_append]; exact hr, hG.out⟩
      have HB2 := Lib.hid (HB1.out.trans (hb.mono hs1))
      clear hr hb
      go_wp2_with fail
      refine bodyPost_ret (v := .tuple #[.slice A2 n2 c2, .bool true]) (by simp [results, Tryd.results24, go_sem]) rfl ?_
      exact HF.out.same HB2.out
    · refine (send_full w0 H0.out.net (by omega) to_ Ab nb cb).mono ?_
      rintro e w1 ⟨rfl, rfl⟩
      have HX1 := HX0
      have HY1 := HY0
      have HR1 := Lib.hid H0.out.row
      have x2 := cellb (i := 2) HX1.out rfl
      have x4 := cellb (i := 4) HX1.out rfl
      have z := zc (HY1.out) HNB.out
      go_wp2_with fail
      clear x2 x4 z
      refine (put_full A n c S _ to_ bs w0 HR1.out (by have := HL.out; omega)).mono ?_
      rintro e w2 ⟨A2, n2, c2, rfl, hr, hb⟩
      have HF : Hid (Both w2 S B N LA Lc A2 n2 c2 l) := Lib.hid ⟨H0.out.net.below hb, hr, H0.out.good⟩
      have HB2 := Lib.hid (HB0.out.trans (hb.mono hs0))
      clear hr hb
      go_wp2_with fail
      refine bodyPost_ret (v := .tuple #[.slice A2 n2 c2, .bool true]) (by simp [results, Tryd.results24, go_sem]) rfl ?_
      exact HF.out.same HB2.out
  · skip
    go_wp2_with fail
    clear x0 x1 x2 x3 x4
    by_cases hf : l.length < 1000
    · refine (send_any w0 H0.out.net hf to_ Ab nb cb bs (HY0.out.more hs0) HNB.out (by omega)).mono ?_
      rintro e w1 ⟨LA1, Lc1, PA, Pc, rfl, hn, hc⟩
      have HX1 := Lib.hid (hc.kp _ _ HX0.out (by show (51 + 1 : Nat) ≠ _; decide) (by show (51 + 1 : Nat) ≠ _; decide))
      have HN1 := Lib.hid hn
      have HR1 := Lib.hid (H0.out.row.nch hc)
      have HB1 := Lib.hid (HB0.out.trans (hc.low.mono hSB))
      have HY1 := Lib.hid (HY0.out.below (hc.low.mono hSB) (Nat.le_refl _))
      have hs1 : S ≤ w1.heap.size := Nat.le_trans hs0 hc.size
      have hG : Hid (GoodL (l ++ [⟨to_, PA, Pc, bs⟩])) := Lib.hid ⟨by rw [List.length_append]; exact hf, fun p hp => by
        rw [List.mem_append, List.mem_singleton] at hp
        rcases hp with hp | rfl
        · exact H0.out.good.2 p hp
        · show bs.length ≤ 1000; rw [← HNB.out]; exact hbs⟩
      clear hn hc HX0 HB0 HY0
      have x2 := cellb (i := 2) HX1.out rfl
      have x4 := cellb (i := 4) HX1.out rfl
      have z := zc (HY1.out) HNB.out
      go_wp2_with fail
      clear x2 x4 z
      refine (put_any A n c S _ to_ bs w1 HR1.out hs1 (by have := HL.out; omega)).mono ?_
      rintro e w2 ⟨A2, n2, c2, rfl, hr, hb⟩
      have HF : Hid (Both w2 S B N LA1 Lc1 A2 n2 c2 (l ++ [⟨to_, PA, Pc, bs⟩])) := Lib.hid ⟨HN1.out.below hb, by rw [List.map_append]; exact hr, hG.out⟩
      have HB2 := Lib.hid (HB1.out.trans (hb.mono hs1))
      clear hr hb
      go_wp2_with fail
      refine bodyPost_ret (v := .tuple #[.slice A2 n2 c2, .bool true]) (by simp [results, Tryd.results24, go_sem]) rfl ?_
      exact HF.out.same HB2.out
    · refine (send_full w0 H0.out.net (by omega) to_ Ab nb cb).mono ?_
      rintro e w1 ⟨rfl, rfl⟩
      have HX1 := HX0
      have HY1 := HY0
      have HR1 := Lib.hid H0.out.row
      have x2 := cellb (i := 2) HX1.out rfl
      have x4 := cellb (i := 4) HX1.out rfl
      have z := zc (HY1.out) HNB.out
      go_wp2_with fail
      clear x2 x4 z
      refine (put_full A n c S _ to_ bs w0 HR1.out (by have := HL.out; omega)).mono ?_
      rintro e w2 ⟨A2, n2, c2, rfl, hr, hb⟩
      have HF : Hid (Both w2 S B N LA Lc A2 n2 c2 l) := Lib.hid ⟨H0.out.net.below hb, hr, H0.out.good⟩
      have HB2 := Lib.hid (HB0.out.trans (hb.mono hs0))
      clear hr hb
      go_wp2_with fail
      refine bodyPost_ret (v := .tuple #[.slice A2 n2 c2, .bool true]) (by simp [results, Tryd.results24, go_sem]) rfl ?_
      exact HF.out.same HB2.out
set_option maxRecDepth 100000 in
set_option maxHeartbeats 4000000 in
theorem done_0T (kd  to_ bit : Int) (j : Nat) (Ab : Option Addr) (nb cb : Nat) (bs : List UInt8) {w : World} {S B N Lc n c : Nat} {LA A : Option Addr} {l : List Pv} (h : Both w S B N LA Lc A n c l) (hSB : S ≤ B) (hby : BytesIn w S Ab cb bs) (hnb : nb = bs.length) (hbs : nb ≤ 1000) (hj : j < n) (hk : bits .and .i64 kd 7 = 0) :
    Calls Tryd.prog 24 #[.pointer (some ⟨N, 0, none⟩), .slice A n c, .agg #[.int .i64 kd, .int .i64 j, .int .i64 to_, .int .i64 bit, .slice Ab nb cb]] w fun e w' => DoneTo w S B N e w' := by
  obtain ⟨X, hX⟩ : ∃ x, x = w.heap.size := ⟨_, rfl⟩
  obtain ⟨w0, hw0⟩ : ∃ y, y = w.alloc (.cells #[.int .i64 kd, .int .i64 j, .int .i64 to_, .int .i64 bit, .slice Ab nb cb] 51) := ⟨_, rfl⟩
  have hal : Below w.heap.size w w0 := by rw [hw0]; exact (Below.refl _ _).alloc (Nat.le_refl _) _
  have hx : w0.heap[X]? = some (.cells #[.int .i64 kd, .int .i64 j, .int .i64 to_, .int .i64 bit, .slice Ab nb cb] 51 (0, 0)) := by rw [hw0, hX]; exact heap_alloc_new w _
  have hSw : S ≤ w.heap.size := Nat.le_trans hSB h.size
  have H0 := Lib.hid (h.below hal)
  have HX0 := Lib.hid hx
  have HB0 := Lib.hid (hal.mono hSw)
  have HY0 := Lib.hid (hby.below (hal.mono hSw) (Nat.le_refl _))
  have HNB := Lib.hid hnb
  have HL := Lib.hid h.len
  have HW := Lib.hid hw0
  have HXW := Lib.hid hX
  have hs0 : S ≤ w0.heap.size := Nat.le_trans hSw hal.size
  have hXs : X < w0.heap.size := ltb hx
  have hSX : S ≤ X := by omega
  have hn1000 : n ≤ 1000 := by have := h.good.1; have := h.len; omega
  have x0 := cellb (i := 0) hx rfl
  have x1 := cellb (i := 1) hx rfl
  have x2 := cellb (i := 2) hx rfl
  have x3 := cellb (i := 3) hx rfl
  have x4 := cellb (i := 4) hx rfl
  clear hw0 hal hx h hby hnb hX hSw
  go_enter Tryd.func24, Tryd.ntmps24
  go_upto_region 1 with fail
  rw [← HXW.out, ← HW.out]
  clear HW HXW
  have hj0 : (0 : Int) ≤ (j : Int) := by omega
  have hjn : (j : Int) < (n : Int) := by omega
  go_wp2_with fail
  clear x0 x1 x2 x3 x4
  by_cases hf : l.length < 1000
  · refine (send_any w0 H0.out.net hf to_ Ab nb cb bs (HY0.out.more hs0) HNB.out (by omega)).mono ?_
    rintro e w1 ⟨LA1, Lc1, PA, Pc, rfl, hn, hc⟩
    have HX1 := Lib.hid (hc.kp _ _ HX0.out (by show (51 + 1 : Nat) ≠ _; decide) (by show (51 + 1 : Nat) ≠ _; decide))
    have HN1 := Lib.hid hn
    have HR1 := Lib.hid (H0.out.row.nch hc)
    have HB1 := Lib.hid (HB0.out.trans (hc.low.mono hSB))
    have HY1 := Lib.hid (HY0.out.below (hc.low.mono hSB) (Nat.le_refl _))
    have hs1 : S ≤ w1.heap.size := Nat.le_trans hs0 hc.size
    have hG : Hid (GoodL (l ++ [⟨to_, PA, Pc, bs⟩])) := Lib.hid ⟨by rw [List.length_append]; exact hf, fun p hp => by
      rw [List.mem_append, List.mem_singleton] at hp
      rcases hp with hp | rfl
      · exact H0.out.good.2 p hp
      · show bs.length ≤ 1000; rw [← HNB.out]; exact hbs⟩
    clear hn hc HX0 HB0 HY0
    have x2 := cellb (i := 2) HX1.out rfl
    have x4 := cellb (i := 4) HX1.out rfl
    have z := zc (HY1.out) HNB.out
    go_wp2_with fail
    clear x2 x4 z
    refine (put_any A n c S _ to_ bs w1 HR1.out hs1 (by have := HL.out; omega)).mono ?_
    rintro e w2 ⟨A2, n2, c2, rfl, hr, hb⟩
    have HF : Hid (Both w2 S B N LA1 Lc1 A2 n2 c2 (l ++ [⟨to_, PA, Pc, bs⟩])) := Lib.hid ⟨HN1.out.below hb, by rw [List.map_append]; exact hr, hG.out⟩
    have HB2 := Lib.hid (HB1.out.trans (hb.mono hs1))
    clear hr hb
    go_wp2_with fail
    refine bodyPost_ret (v := .tuple #[.slice A2 n2 c2, .bool true]) (by simp [results, Tryd.results24, go_sem]) rfl ?_
    exact HF.out.same HB2.out
  · refine (send_full w0 H0.out.net (by omega) to_ Ab nb cb).mono ?_
    rintro e w1 ⟨rfl, rfl⟩
    have HX1 := HX0
    have HY1 := HY0
    have HR1 := Lib.hid H0.out.row
    have x2 := cellb (i := 2) HX1.out rfl
    have x4 := cellb (i := 4) HX1.out rfl
    have z := zc (HY1.out) HNB.out
    go_wp2_with fail
    clear x2 x4 z
    refine (put_full A n c S _ to_ bs w0 HR1.out (by have := HL.out; omega)).mono ?_
    rintro e w2 ⟨A2, n2, c2, rfl, hr, hb⟩
    have HF : Hid (Both w2 S B N LA Lc A2 n2 c2 l) := Lib.hid ⟨H0.out.net.below hb, hr, H0.out.good⟩
    have HB2 := Lib.hid (HB0.out.trans (hb.mono hs0))
    clear hr hb
    go_wp2_with fail
    refine bodyPost_ret (v := .tuple #[.slice A2 n2 c2, .bool true]) (by simp [results, Tryd.results24, go_sem]) rfl ?_
    exact HF.out.same HB2.out
set_option maxRecDepth 100000 in
set_option maxHeartbeats 4000000 in
theorem done_1F (kd ix to_ bit : Int) (Ab : Option Addr) (nb cb : Nat) (bs : List UInt8) {w : World} {S B N Lc n c : Nat} {LA A : Option Addr} {l : List Pv} (h : Both w S B N LA Lc A n c l) (hSB : S ≤ B) (hby : BytesIn w S Ab cb bs) (hnb : nb = bs.length) (hbs : nb ≤ 1000) (hno : ¬ (0 ≤ ix ∧ ix < (n : Int))) (hk : bits .and .i64 kd 7 = 1) :
    Calls Tryd.prog 24 #[.pointer (some ⟨N, 0, none⟩), .slice A n c, .agg #[.int .i64 kd, .int .i64 ix, .int .i64 to_, .int .i64 bit, .slice Ab nb cb]] w fun e w' => DoneTo w S B N e w' := by
  obtain ⟨X, hX⟩ : ∃ x, x = w.heap.size := ⟨_, rfl⟩
  obtain ⟨w0, hw0⟩ : ∃ y, y = w.alloc (.cells #[.int .i64 kd, .int .i64 ix, .int .i64 to_, .int .i64 bit, .slice Ab nb cb] 51) := ⟨_, rfl⟩
  have hal : Below w.heap.size w w0 := by rw [hw0]; exact (Below.refl _ _).alloc (Nat.le_refl _) _
  have hx : w0.heap[X]? = some (.cells #[.int .i64 kd, .int .i64 ix, .int .i64 to_, .int .i64 bit, .slice Ab nb cb] 51 (0, 0)) := by rw [hw0, hX]; exact heap_alloc_new w _
  have hSw : S ≤ w.heap.size := Nat.le_trans hSB h.size
  have H0 := Lib.hid (h.below hal)
  have HX0 := Lib.hid hx
  have HB0 := Lib.hid (hal.mono hSw)
  have HY0 := Lib.hid (hby.below (hal.mono hSw) (Nat.le_refl _))
  have HNB := Lib.hid hnb
  have HL := Lib.hid h.len
  have HW := Lib.hid hw0
  have HXW := Lib.hid hX
  have hs0 : S ≤ w0.heap.size := Nat.le_trans hSw hal.size
  have hXs : X < w0.heap.size := ltb hx
  have hSX : S ≤ X := by omega
  have hn1000 : n ≤ 1000 := by have := h.good.1; have := h.len; omega
  have x0 := cellb (i := 0) hx rfl
  have x1 := cellb (i := 1) hx rfl
  have x2 := cellb (i := 2) hx rfl
  have x3 := cellb (i := 3) hx rfl
  have x4 := cellb (i := 4) hx rfl
  clear hw0 hal hx h hby hnb hX hSw
  go_enter Tryd.func24, Tryd.ntmps24
  go_upto_region 1 with fail
  rw [← HXW.out, ← HW.out]
  clear HW HXW
  by_cases hge : 0 ≤ ix
  · have hlt : ¬ ix < (n : Int) := fun h => hno ⟨hge, h⟩
    go_wp2_with fail
    clear x0 x1 x2 x3 x4
    by_cases hf : l.length < 1000
    · refine (send_any w0 H0.out.net hf to_ Ab nb cb bs (HY0.out.more hs0) HNB.out (by omega)).mono ?_
      rintro e w1 ⟨LA1, Lc1, PA, Pc, rfl, hn, hc⟩
      have HX1 := Lib.hid (hc.kp _ _ HX0.out (by show (51 + 1 : Nat) ≠ _; decide) (by show (51 + 1 : Nat) ≠ _; decide))
      have HN1 := Lib.hid hn
      have HR1 := Lib.hid (H0.out.row.nch hc)
      have HB1 := Lib.hid (HB0.out.trans (hc.low.mono hSB))
      have HY1 := Lib.hid (HY0.out.below (hc.low.mono hSB) (Nat.le_refl _))
      have hs1 : S ≤ w1.heap.size := Nat.le_trans hs0 hc.size
      have hG : Hid (GoodL (l ++ [⟨to_, PA, Pc, bs⟩])) := Lib.hid ⟨by rw [List.length_append]; exact hf, fun p hp => by
        rw [List.mem_append, List.mem_singleton] at hp
        rcases hp with hp | rfl
        · exact H0.out.good.2 p hp
        · show bs.length ≤ 1000; rw [← HNB.out]; exact hbs⟩
      clear hn hc HX0 HB0 HY0
      have x2 := cellb (i := 2) HX1.out rfl
      have x4 := cellb (i := 4) HX1.out rfl
      have z := zc (HY1.out) HNB.out
      go_wp2_with fail
      clear x2 x4 z
      refine (put_any A n c S _ to_ bs w1 HR1.out hs1 (by have := HL.out; omega)).mono ?_
      rintro e w2 ⟨A2, n2, c2, rfl, hr, hb⟩
      have HF : Hid (Both w2 S B N LA1 Lc1 A2 n2 c2 (l ++ [⟨to_, PA, Pc, bs⟩])) := Lib.hid ⟨HN1.out.below hb, by rw [List.map_append]; exact hr, hG.out⟩
      have HB2 := Lib.hid (HB1.out.trans (hb.mono hs1))
      clear hr hb
      go_wp2_with fail
      refine bodyPost_ret (v := .tuple #[.slice A2 n2 c2, .bool true]) (by simp [results, Tryd.results24, go_sem]) rfl ?_
      exact HF.out.same HB2.out
    · refine (send_full w0 H0.out.net (by omega) to_ Ab nb cb).mono ?_
      rintro e w1 ⟨rfl, rfl⟩
      have HX1 := HX0
      have HY1 := HY0
      have HR1 := Lib.hid H0.out.row
      have x2 := cellb (i := 2) HX1.out rfl
      have x4 := cellb (i := 4) HX1.out rfl
      have z := zc (HY1.out) HNB.out
      go_wp2_with fail
      clear x2 x4 z
      refine (put_full A n c S _ to_ bs w0 HR1.out (by have := HL.out; omega)).mono ?_
      rintro e w2 ⟨A2, n2, c2, rfl, hr, hb⟩
      have HF : Hid (Both w2 S B N LA Lc A2 n2 c2 l) := Lib.hid ⟨H0.out.net.below hb, hr, H0.out.good⟩
      have HB2 := Lib.hid (HB0.out.trans (hb.mono hs0))
      clear hr hb
      go_wp2_with fail
      refine bodyPost_ret (v := .tuple #[.slice A2 n2 c2, .bool true]) (by simp [results, Tryd.results24, go_sem]) rfl ?_
      exact HF.out.same HB2.out
  · skip
    go_wp2_with fail
    clear x0 x1 x2 x3 x4
    by_cases hf : l.length < 1000
    · refine (send_any w0 H0.out.net hf to_ Ab nb cb bs (HY0.out.more hs0) HNB.out (by omega)).mono ?_
      rintro e w1 ⟨LA1, Lc1, PA, Pc, rfl, hn, hc⟩
      have HX1 := Lib.hid (hc.kp _ _ HX0.out (by show (51 + 1 : Nat) ≠ _; decide) (by show (51 + 1 : Nat) ≠ _; decide))
      have HN1 := Lib.hid hn
      have HR1 := Lib.hid (H0.out.row.nch hc)
      have HB1 := Lib.hid (HB0.out.trans (hc.low.mono hSB))
      have HY1 := Lib.hid (HY0.out.below (hc.low.mono hSB) (Nat.le_refl _))
      have hs1 : S ≤ w1.heap.size := Nat.le_trans hs0 hc.size
      have hG : Hid (GoodL (l ++ [⟨to_, PA, Pc, bs⟩])) := Lib.hid ⟨by rw [List.length_append]; exact hf, fun p hp => by
        rw [List.mem_append, List.mem_singleton] at hp
        rcases hp with hp | rfl
        · exact H0.out.good.2 p hp
        · show bs.length ≤ 1000; rw [← HNB.out]; exact hbs⟩
      clear hn hc HX0 HB0 HY0
      have x2 := cellb (i := 2) HX1.out rfl
      have x4 := cellb (i := 4) HX1.out rfl
      have z := zc (HY1.out) HNB.out
      go_wp2_with fail
      clear x2 x4 z
      refine (put_any A n c S _ to_ bs w1 HR1.out hs1 (by have := HL.out; omega)).mono ?_
      rintro e w2 ⟨A2, n2, c2, rfl, hr, hb⟩
      have HF : Hid (Both w2 S B N LA1 Lc1 A2 n2 c2 (l ++ [⟨to_, PA, Pc, bs⟩])) := Lib.hid ⟨HN1.out.below hb, by rw [List.map_append]; exact hr, hG.out⟩
      have HB2 := Lib.hid (HB1.out.trans (hb.mono hs1))
      clear hr hb
      go_wp2_with fail
      refine bodyPost_ret (v := .tuple #[.slice A2 n2 c2, .bool true]) (by simp [results, Tryd.results24, go_sem]) rfl ?_
      exact HF.out.same HB2.out
    · refine (send_full w0 H0.out.net (by omega) to_ Ab nb cb).mono ?_
      rintro e w1 ⟨rfl, rfl⟩
      have HX1 := HX0
      have HY1 := HY0
      have HR1 := Lib.hid H0.out.row
      have x2 := cellb (i := 2) HX1.out rfl
      have x4 := cellb (i := 4) HX1.out rfl
      have z := zc (HY1.out) HNB.out
      go_wp2_with fail
      clear x2 x4 z
      refine (put_full A n c S _ to_ bs w0 HR1.out (by have := HL.out; omega)).mono ?_
      rintro e w2 ⟨A2, n2, c2, rfl, hr, hb⟩
      have HF : Hid (Both w2 S B N LA Lc A2 n2 c2 l) := Lib.hid ⟨H0.out.net.below hb, hr, H0.out.good⟩
      have HB2 := Lib.hid (HB0.out.trans (hb.mono hs0))
      clear hr hb
      go_wp2_with fail
      refine bodyPost_ret (v := .tuple #[.slice A2 n2 c2, .bool true]) (by simp [results, Tryd.results24, go_sem]) rfl ?_
      exact HF.out.same HB2.out
set_option maxRecDepth 100000 in
set_option maxHeartbeats 4000000 in
theorem done_1T (kd  to_ bit : Int) (j : Nat) (Ab : Option Addr) (nb cb : Nat) (bs : List UInt8) {w : World} {S B N Lc n c : Nat} {LA A : Option Addr} {l : List Pv} (h : Both w S B N LA Lc A n c l) (hSB : S ≤ B) (hby : BytesIn w S Ab cb bs) (hnb : nb = bs.length) (hbs : nb ≤ 1000) (hj : j < n) (hk : bits .and .i64 kd 7 = 1) :
    Calls Tryd.prog 24 #[.pointer (some ⟨N, 0, none⟩), .slice A n c, .agg #[.int .i64 kd, .int .i64 j, .int .i64 to_, .int .i64 bit, .slice Ab nb cb]] w fun e w' => DoneTo w S B N e w' := by
  obtain ⟨X, hX⟩ : ∃ x, x = w.heap.size := ⟨_, rfl⟩
  obtain ⟨w0, hw0⟩ : ∃ y, y = w.alloc (.cells #[.int .i64 kd, .int .i64 j, .int .i64 to_, .int .i64 bit, .slice Ab nb cb] 51) := ⟨_, rfl⟩
  have hal : Below w.heap.size w w0 := by rw [hw0]; exact (Below.refl _ _).alloc (Nat.le_refl _) _
  have hx : w0.heap[X]? = some (.cells #[.int .i64 kd, .int .i64 j, .int .i64 to_, .int .i64 bit, .slice Ab nb cb] 51 (0, 0)) := by rw [hw0, hX]; exact heap_alloc_new w _
  have hSw : S ≤ w.heap.size := Nat.le_trans hSB h.size
  have H0 := Lib.hid (h.below hal)
  have HX0 := Lib.hid hx
  have HB0 := Lib.hid (hal.mono hSw)
  have HY0 := Lib.hid (hby.below (hal.mono hSw) (Nat.le_refl _))
  have HNB := Lib.hid hnb
  have HL := Lib.hid h.len
  have HW := Lib.hid hw0
  have HXW := Lib.hid hX
  have hs0 : S ≤ w0.heap.size := Nat.le_trans hSw hal.size
  have hXs : X < w0.heap.size := ltb hx
  have hSX : S ≤ X := by omega
  have hn1000 : n ≤ 1000 := by have := h.good.1; have := h.len; omega
  have x0 := cellb (i := 0) hx rfl
  have x1 := cellb (i := 1) hx rfl
  have x2 := cellb (i := 2) hx rfl
  have x3 := cellb (i := 3) hx rfl
  have x4 := cellb (i := 4) hx rfl
  clear hw0 hal hx h hby hnb hX hSw
  go_enter Tryd.func24, Tryd.ntmps24
  go_upto_region 1 with fail
  rw [← HXW.out, ← HW.out]
  clear HW HXW
  have hj0 : (0 : Int) ≤ (j : Int) := by omega
  have hjn : (j : Int) < (n : Int) := by omega
  go_wp2_with fail
  clear x0 x1 x2 x3 x4
  by_cases hf : l.length < 1000
  · refine (send_any w0 H0.out.net hf to_ Ab nb cb bs (HY0.out.more hs0) HNB.out (by omega)).mono ?_
    rintro e w1 ⟨LA1, Lc1, PA, Pc, rfl, hn, hc⟩
    have HX1 := Lib.hid (hc.kp _ _ HX0.out (by show (51 + 1 : Nat) ≠ _; decide) (by show (51 + 1 : Nat) ≠ _; decide))
    have HN1 := Lib.hid hn
    have HR1 := Lib.hid (H0.out.row.nch hc)
    have HB1 := Lib.hid (HB0.out.trans (hc.low.mono hSB))
    have HY1 := Lib.hid (HY0.out.below (hc.low.mono hSB) (Nat.le_refl _))
    have hs1 : S ≤ w1.heap.size := Nat.le_trans hs0 hc.size
    have hG : Hid (GoodL (l ++ [⟨to_, PA, Pc, bs⟩])) := Lib.hid ⟨by rw [List.length_append]; exact hf, fun p hp => by
      rw [List.mem_append, List.mem_singleton] at hp
      rcases hp with hp | rfl
      · exact H0.out.good.2 p hp
      · show bs.length ≤ 1000; rw [← HNB.out]; exact hbs⟩
    clear hn hc HX0 HB0 HY0
    have x2 := cellb (i := 2) HX1.out rfl
    have x4 := cellb (i := 4) HX1.out rfl
    have z := zc (HY1.out) HNB.out
    go_wp2_with fail
    clear x2 x4 z
    refine (put_any A n c S _ to_ bs w1 HR1.out hs1 (by have := HL.out; omega)).mono ?_
    rintro e w2 ⟨A2, n2, c2, rfl, hr, hb⟩
    have HF : Hid (Both w2 S B N LA1 Lc1 A2 n2 c2 (l ++ [⟨to_, PA, Pc, bs⟩])) := Lib.hid ⟨HN1.out.below hb, by rw [List.map_append]; exact hr, hG.out⟩
    have HB2 := Lib.hid (HB1.out.trans (hb.mono hs1))
    clear hr hb
    go_wp2_with fail
    refine bodyPost_ret (v := .tuple #[.slice A2 n2 c2, .bool true]) (by simp [results, Tryd.results24, go_sem]) rfl ?_
    exact HF.out.same HB2.out
  · refine (send_full w0 H0.out.net (by omega) to_ Ab nb cb).mono ?_
    rintro e w1 ⟨rfl, rfl⟩
    have HX1 := HX0
    have HY1 := HY0
    have HR1 := Lib.hid H0.out.row
    have x2 := cellb (i := 2) HX1.out rfl
    have x4 := cellb (i := 4) HX1.out rfl
    have z := zc (HY1.out) HNB.out
    go_wp2_with fail
    clear x2 x4 z
    refine (put_full A n c S _ to_ bs w0 HR1.out (by have := HL.out; omega)).mono ?_
    rintro e w2 ⟨A2, n2, c2, rfl, hr, hb⟩
    have HF : Hid (Both w2 S B N LA Lc A2 n2 c2 l) := Lib.hid ⟨H0.out.net.below hb, hr, H0.out.good⟩
    have HB2 := Lib.hid (HB0.out.trans (hb.mono hs0))
    clear hr hb
    go_wp2_with fail
    refine bodyPost_ret (v := .tuple #[.slice A2 n2 c2, .bool true]) (by simp [results, Tryd.results24, go_sem]) rfl ?_
    exact HF.out.same HB2.out
set_option maxRecDepth 100000 in
set_option maxHeartbeats 4000000 in
theorem done_2F (kd ix to_ bit : Int) (Ab : Option Addr) (nb cb : Nat) (bs : List UInt8) {w : World} {S B N Lc n c : Nat} {LA A : Option Addr} {l : List Pv} (h : Both w S B N LA Lc A n c l) (hSB : S ≤ B) (hby : BytesIn w S Ab cb bs) (hnb : nb = bs.length) (hbs : nb ≤ 1000) (hno : ¬ (0 ≤ ix ∧ ix < (n : Int))) (hk : bits .and .i64 kd 7 = 2) :
    Calls Tryd.prog 24 #[.pointer (some ⟨N, 0, none⟩), .slice A n c, .agg #[.int .i64 kd, .int .i64 ix, .int .i64 to_, .int .i64 bit, .slice Ab nb cb]] w fun e w' => DoneTo w S B N e w' := by
  obtain ⟨X, hX⟩ : ∃ x, x = w.heap.size := ⟨_, rfl⟩
  obtain ⟨w0, hw0⟩ : ∃ y, y = w.alloc (.cells #[.int .i64 kd, .int .i64 ix, .int .i64 to_, .int .i64 bit, .slice Ab nb cb] 51) := ⟨_, rfl⟩
  have hal : Below w.heap.size w w0 := by rw [hw0]; exact (Below.refl _ _).alloc (Nat.le_refl _) _
  have hx : w0.heap[X]? = some (.cells #[.int .i64 kd, .int .i64 ix, .int .i64 to_, .int .i64 bit, .slice Ab nb cb] 51 (0, 0)) := by rw [hw0, hX]; exact heap_alloc_new w _
  have hSw : S ≤ w.heap.size := Nat.le_trans hSB h.size
  have H0 := Lib.hid (h.below hal)
  have HX0 := Lib.hid hx
  have HB0 := Lib.hid (hal.mono hSw)
  have HY0 := Lib.hid (hby.below (hal.mono hSw) (Nat.le_refl _))
  have HNB := Lib.hid hnb
  have HL := Lib.hid h.len
  have HW := Lib.hid hw0
  have HXW := Lib.hid hX
  have hs0 : S ≤ w0.heap.size := Nat.le_trans hSw hal.size
  have hXs : X < w0.heap.size := ltb hx
  have hSX : S ≤ X := by omega
  have hn1000 : n ≤ 1000 := by have := h.good.1; have := h.len; omega
  have x0 := cellb (i := 0) hx rfl
  have x1 := cellb (i := 1) hx rfl
  have x2 := cellb (i := 2) hx rfl
  have x3 := cellb (i := 3) hx rfl
  have x4 := cellb (i := 4) hx rfl
  clear hw0 hal hx h hby hnb hX hSw
  go_enter Tryd.func24, Tryd.ntmps24
  go_upto_region 1 with fail
  rw [← HXW.out, ← HW.out]
  clear HW HXW
  by_cases hge : 0 ≤ ix
  · have hlt : ¬ ix < (n : Int) := fun h => hno ⟨hge, h⟩
    go_wp2_with fail
    clear x0 x1 x2 x3 x4
    by_cases hf : l.length < 1000
    · refine (send_any w0 H0.out.net hf to_ Ab nb cb bs (HY0.out.more hs0) HNB.out (by omega)).mono ?_
      rintro e w1 ⟨LA1, Lc1, PA, Pc, rfl, hn, hc⟩
      have HX1 := Lib.hid (hc.kp _ _ HX0.out (by show (51 + 1 : Nat) ≠ _; decide) (by show (51 + 1 : Nat) ≠ _; decide))
      have HN1 := Lib.hid hn
      have HR1 := Lib.hid (H0.out.row.nch hc)
      have HB1 := Lib.hid (HB0.out.trans (hc.low.mono hSB))
      have HY1 := Lib.hid (HY0.out.below (hc.low.mono hSB) (Nat.le_refl _))
      have hs1 : S ≤ w1.heap.size := Nat.le_trans hs0 hc.size
      have hG : Hid (GoodL (l ++ [⟨to_, PA, Pc, bs⟩])) := Lib.hid ⟨by rw [List.length_append]; exact hf, fun p hp => by
        rw [List.mem_append, List.mem_singleton] at hp
        rcases hp with hp | rfl
        · exact H0.out.good.2 p hp
        · show bs.length ≤ 1000; rw [← HNB.out]; exact hbs⟩
      clear hn hc HX0 HB0 HY0
      have x2 := cellb (i := 2) HX1.out rfl
      have x4 := cellb (i := 4) HX1.out rfl
      have z := zc (HY1.out) HNB.out
      go_wp2_with fail
      clear x2 x4 z
      refine (put_any A n c S _ to_ bs w1 HR1.out hs1 (by have := HL.out; omega)).mono ?_
      rintro e w2 ⟨A2, n2, c2, rfl, hr, hb⟩
      have HF : Hid (Both w2 S B N LA1 Lc1 A2 n2 c2 (l ++ [⟨to_, PA, Pc, bs⟩])) := Lib.hid ⟨HN1.out.below hb, by rw [List.map_append]; exact hr, hG.out⟩
      have HB2 := Lib.hid (HB1.out.trans (hb.mono hs1))
      clear hr hb
      go_wp2_with fail
      refine bodyPost_ret (v := .tuple #[.slice A2 n2 c2, .bool true]) (by simp [results, Tryd.results24, go_sem]) rfl ?_
      exact HF.out.same HB2.out
    · refine (send_full w0 H0.out.net (by omega) to_ Ab nb cb).mono ?_
      rintro e w1 ⟨rfl, rfl⟩
      have HX1 := HX0
      have HY1 := HY0
      have HR1 := Lib.hid H0.out.row
      have x2 := cellb (i := 2) HX1.out rfl
      have x4 := cellb (i := 4) HX1.out rfl
      have z := zc (HY1.out) HNB.out
      go_wp2_with fail
      clear x2 x4 z
      refine (put_full A n c S _ to_ bs w0 HR1.out (by have := HL.out; omega)).mono ?_
      rintro e w2 ⟨A2, n2, c2, rfl, hr, hb⟩
      have HF : Hid (Both w2 S B N LA Lc A2 n2 c2 l) := Lib.hid ⟨H0.out.net.below hb, hr, H0.out.good⟩
      have HB2 := Lib.hid (HB0.out.trans (hb.mono hs0))
      clear hr hb
      go_wp2_with fail
      refine bodyPost_ret (v := .tuple #[.slice A2 n2 c2, .bool true]) (by simp [results, Tryd.results24, go_sem]) rfl ?_
      exact HF.out.same HB2.out
  · skip
    go_wp2_with fail
    clear x0 x1 x2 x3 x4
    by_cases hf : l.length < 1000
    · refine (send_any w0 H0.out.net hf to_ Ab nb cb bs (HY0.out.more hs0) HNB.out (by omega)).mono ?_
      rintro e w1 ⟨LA1, Lc1, PA, Pc, rfl, hn, hc⟩
      have HX1 := Lib.hid (hc.kp _ _ HX0.out (by show (51 + 1 : Nat) ≠ _; decide) (by show (51 + 1 : Nat) ≠ _; decide))
      have HN1 := Lib.hid hn
      have HR1 := Lib.hid (H0.out.row.nch hc)
      have HB1 := Lib.hid (HB0.out.trans (hc.low.mono hSB))
      have HY1 := Lib.hid (HY0.out.below (hc.low.mono hSB) (Nat.le_refl _))
      have hs1 : S ≤ w1.heap.size := Nat.le_trans hs0 hc.size
      have hG : Hid (GoodL (l ++ [⟨to_, PA, Pc, bs⟩])) := Lib.hid ⟨by rw [List.length_append]; exact hf, fun p hp => by
        rw [List.mem_append, List.mem_singleton] at hp
        rcases hp with hp | rfl
        · exact H0.out.good.2 p hp
        · show bs.length ≤ 1000; rw [← HNB.out]; exact hbs⟩
      clear hn hc HX0 HB0 HY0
      have x2 := cellb (i := 2) HX1.out rfl
      have x4 := cellb (i := 4) HX1.out rfl
      have z := zc (HY1.out) HNB.out
      go_wp2_with fail
      clear x2 x4 z
      refine (put_any A n c S _ to_ bs w1 HR1.out hs1 (by have := HL.out; omega)).mono ?_
      rintro e w2 ⟨A2, n2, c2, rfl, hr, hb⟩
      have HF : Hid (Both w2 S B N LA1 Lc1 A2 n2 c2 (l ++ [⟨to_, PA, Pc, bs⟩])) := Lib.hid ⟨HN1.out.below hb, by rw [List.map_append]; exact hr, hG.out⟩
      have HB2 := Lib.hid (HB1.out.trans (hb.mono hs1))
      clear hr hb
      go_wp2_with fail
      refine bodyPost_ret (v := .tuple #[.slice A2 n2 c2, .bool true]) (by simp [results, Tryd.results24, go_sem]) rfl ?_
      exact HF.out.same HB2.out
    · refine (send_full w0 H0.out.net (by omega) to_ Ab nb cb).mono ?_
      rintro e w1 ⟨rfl, rfl⟩
      have HX1 := HX0
      have HY1 := HY0
      have HR1 := Lib.hid H0.out.row
      have x2 := cellb (i := 2) HX1.out rfl
      have x4 := cellb (i := 4) HX1.out rfl
      have z := zc (HY1.out) HNB.out
      go_wp2_with fail
      clear x2 x4 z
      refine (put_full A n c S _ to_ bs w0 HR1.out (by have := HL.out; omega)).mono ?_
      rintro e w2 ⟨A2, n2, c2, rfl, hr, hb⟩
      have HF : Hid (Both w2 S B N LA Lc A2 n2 c2 l) := Lib.hid ⟨H0.out.net.below hb, hr, H0.out.good⟩
      have HB2 := Lib.hid (HB0.out.trans (hb.mono hs0))
      clear hr hb
      go_wp2_with fail
      refine bodyPost_ret (v := .tuple #[.slice A2 n2 c2, .bool true]) (by simp [results, Tryd.results24, go_sem]) rfl ?_
      exact HF.out.same HB2.out
set_option maxRecDepth 100000 in
set_option maxHeartbeats 4000000 in
theorem done_2T (kd  to_ bit : Int) (j : Nat) (Ab : Option Addr) (nb cb : Nat) (bs : List UInt8) {w : World} {S B N Lc n c : Nat} {LA A : Option Addr} {l : List Pv} (h : Both w S B N LA Lc A n c l) (hSB : S ≤ B) (hby : BytesIn w S Ab cb bs) (hnb : nb = bs.length) (hbs : nb ≤ 1000) (hj : j < n) (hk : bits .and .i64 kd 7 = 2) :
    Calls Tryd.prog 24 #[.pointer (some ⟨N, 0, none⟩), .slice A n c, .agg #[.int .i64 kd, .int .i64 j, .int .i64 to_, .int .i64 bit, .slice Ab nb cb]] w fun e w' => DoneTo w S B N e w' := by
  obtain ⟨X, hX⟩ : ∃ x, x = w.heap.size := ⟨_, rfl⟩
  obtain ⟨w0, hw0⟩ : ∃ y, y = w.alloc (.cells #[.int .i64 kd, .int .i64 j, .int .i64 to_, .int .i64 bit, .slice Ab nb cb] 51) := ⟨_, rfl⟩
  have hal : Below w.heap.size w w0 := by rw [hw0]; exact (Below.refl _ _).alloc (Nat.le_refl _) _
  have hx : w0.heap[X]? = some (.cells #[.int .i64 kd, .int .i64 j, .int .i64 to_, .int .i64 bit, .slice Ab nb cb] 51 (0, 0)) := by rw [hw0, hX]; exact heap_alloc_new w _
  have hSw : S ≤ w.heap.size := Nat.le_trans hSB h.size
  have H0 := Lib.hid (h.below hal)
  have HX0 := Lib.hid hx
  have HB0 := Lib.hid (hal.mono hSw)
  have HY0 := Lib.hid (hby.below (hal.mono hSw) (Nat.le_refl _))
  have HNB := Lib.hid hnb
  have HL := Lib.hid h.len
  have HW := Lib.hid hw0
  have HXW := Lib.hid hX
  have hs0 : S ≤ w0.heap.size := Nat.le_trans hSw hal.size
  have hXs : X < w0.heap.size := ltb hx
  have hSX : S ≤ X := by omega
  have hn1000 : n ≤ 1000 := by have := h.good.1; have := h.len; omega
  have x0 := cellb (i := 0) hx rfl
  have x1 := cellb (i := 1) hx rfl
  have x2 := cellb (i := 2) hx rfl
  have x3 := cellb (i := 3) hx rfl
  have x4 := cellb (i := 4) hx rfl
  clear hw0 hal hx h hby hnb hX hSw
  go_enter Tryd.func24, Tryd.ntmps24
  go_upto_region 1 with fail
  rw [← HXW.out, ← HW.out]
  clear HW HXW
  have hj0 : (0 : Int) ≤ (j : Int) := by omega
  have hjn : (j : Int) < (n : Int) := by omega
  go_wp2_with fail
  clear x0 x1 x2 x3 x4
  by_cases hf : l.length < 1000
  · refine (send_any w0 H0.out.net hf to_ Ab nb cb bs (HY0.out.more hs0) HNB.out (by omega)).mono ?_
    rintro e w1 ⟨LA1, Lc1, PA, Pc, rfl, hn, hc⟩
    have HX1 := Lib.hid (hc.kp _ _ HX0.out (by show (51 + 1 : Nat) ≠ _; decide) (by show (51 + 1 : Nat) ≠ _; decide))
    have HN1 := Lib.hid hn
    have HR1 := Lib.hid (H0.out.row.nch hc)
    have HB1 := Lib.hid (HB0.out.trans (hc.low.mono hSB))
    have HY1 := Lib.hid (HY0.out.below (hc.low.mono hSB) (Nat.le_refl _))
    have hs1 : S ≤ w1.heap.size := Nat.le_trans hs0 hc.size
    have hG : Hid (GoodL (l ++ [⟨to_, PA, Pc, bs⟩])) := Lib.hid ⟨by rw [List.length_append]; exact hf, fun p hp => by
      rw [List.mem_append, List.mem_singleton] at hp
      rcases hp with hp | rfl
      · exact H0.out.good.2 p hp
      · show bs.length ≤ 1000; rw [← HNB.out]; exact hbs⟩
    clear hn hc HX0 HB0 HY0
    have x2 := cellb (i := 2) HX1.out rfl
    have x4 := cellb (i := 4) HX1.out rfl
    have z := zc (HY1.out) HNB.out
    go_wp2_with fail
    clear x2 x4 z
    refine (put_any A n c S _ to_ bs w1 HR1.out hs1 (by have := HL.out; omega)).mono ?_
    rintro e w2 ⟨A2, n2, c2, rfl, hr, hb⟩
    have HF : Hid (Both w2 S B N LA1 Lc1 A2 n2 c2 (l ++ [⟨to_, PA, Pc, bs⟩])) := Lib.hid ⟨HN1.out.below hb, by rw [List.map_append]; exact hr, hG.out⟩
    have HB2 := Lib.hid (HB1.out.trans (hb.mono hs1))
    clear hr hb
    go_wp2_with fail
    refine bodyPost_ret (v := .tuple #[.slice A2 n2 c2, .bool true]) (by simp [results, Tryd.results24, go_sem]) rfl ?_
    exact HF.out.same HB2.out
  · refine (send_full w0 H0.out.net (by omega) to_ Ab nb cb).mono ?_
    rintro e w1 ⟨rfl, rfl⟩
    have HX1 := HX0
    have HY1 := HY0
    have HR1 := Lib.hid H0.out.row
    have x2 := cellb (i := 2) HX1.out rfl
    have x4 := cellb (i := 4) HX1.out rfl
    have z := zc (HY1.out) HNB.out
    go_wp2_with fail
    clear x2 x4 z
    refine (put_full A n c S _ to_ bs w0 HR1.out (by have := HL.out; omega)).mono ?_
    rintro e w2 ⟨A2, n2, c2, rfl, hr, hb⟩
    have HF : Hid (Both w2 S B N LA Lc A2 n2 c2 l) := Lib.hid ⟨H0.out.net.below hb, hr, H0.out.good⟩
    have HB2 := Lib.hid (HB0.out.trans (hb.mono hs0))
    clear hr hb
    go_wp2_with fail
    refine bodyPost_ret (v := .tuple #[.slice A2 n2 c2, .bool true]) (by simp [results, Tryd.results24, go_sem]) rfl ?_
    exact HF.out.same HB2.out
set_option maxRecDepth 100000 in
set_option maxHeartbeats 4000000 in
theorem done_7F (kd ix to_ bit : Int) (Ab : Option Addr) (nb cb : Nat) (bs : List UInt8) {w : World} {S B N Lc n c : Nat} {LA A : Option Addr} {l : List Pv} (h : Both w S B N LA Lc A n c l) (hSB : S ≤ B) (hby : BytesIn w S Ab cb bs) (hnb : nb = bs.length) (_hbs : nb ≤ 1000) (hno : ¬ (0 ≤ ix ∧ ix < (n : Int))) (hk : bits .and .i64 kd 7 = 7) :
    Calls Tryd.prog 24 #[.pointer (some ⟨N, 0, none⟩), .slice A n c, .agg #[.int .i64 kd, .int .i64 ix, .int .i64 to_, .int .i64 bit, .slice Ab nb cb]] w fun e w' => DoneTo w S B N e w' := by
  obtain ⟨X, hX⟩ : ∃ x, x = w.heap.size := ⟨_, rfl⟩
  obtain ⟨w0, hw0⟩ : ∃ y, y = w.alloc (.cells #[.int .i64 kd, .int .i64 ix, .int .i64 to_, .int .i64 bit, .slice Ab nb cb] 51) := ⟨_, rfl⟩
  have hal : Below w.heap.size w w0 := by rw [hw0]; exact (Below.refl _ _).alloc (Nat.le_refl _) _
  have hx : w0.heap[X]? = some (.cells #[.int .i64 kd, .int .i64 ix, .int .i64 to_, .int .i64 bit, .slice Ab nb cb] 51 (0, 0)) := by rw [hw0, hX]; exact heap_alloc_new w _
  have hSw : S ≤ w.heap.size := Nat.le_trans hSB h.size
  have H0 := Lib.hid (h.below hal)
  have HX0 := Lib.hid hx
  have HB0 := Lib.hid (hal.mono hSw)
  have HY0 := Lib.hid (hby.below (hal.mono hSw) (Nat.le_refl _))
  have HNB := Lib.hid hnb
  have HL := Lib.hid h.len
  have HW := Lib.hid hw0
  have HXW := Lib.hid hX
  have hs0 : S ≤ w0.heap.size := Nat.le_trans hSw hal.size
  have hXs : X < w0.heap.size := ltb hx
  have hSX : S ≤ X := by omega
  have hn1000 : n ≤ 1000 := by have := h.good.1; have := h.len; omega
  have x0 := cellb (i := 0) hx rfl
  have x1 := cellb (i := 1) hx rfl
  have x2 := cellb (i := 2) hx rfl
  have x3 := cellb (i := 3) hx rfl
  have x4 := cellb (i := 4) hx rfl
  clear hw0 hal hx h hby hnb hX hSw
  go_enter Tryd.func24, Tryd.ntmps24
  go_upto_region 1 with fail
  rw [← HXW.out, ← HW.out]
  clear HW HXW
  by_cases hge : 0 ≤ ix
  · have hlt : ¬ ix < (n : Int) := fun h => hno ⟨hge, h⟩
    go_wp2_with fail
    have hhas : hasB ix l.length = false := by simp only [hasB, Bool.and_eq_false_iff, decide_eq_false_iff_not]; rw [← HL.out]; omega
    have HAS := Lib.hid (has_any w0 H0.out.net ix)
    rw [hhas] at HAS
    refine (peek_none w0 ix _ HAS.out).mono ?_
    rintro e w1 ⟨rfl, rfl⟩
    go_wp2_with fail
    refine bodyPost_ret (v := .tuple #[.slice A n c, .bool true]) (by simp [results, Tryd.results24, go_sem]) rfl ?_
    exact H0.out.same HB0.out
  · skip
    go_wp2_with fail
    have hhas : hasB ix l.length = false := by simp only [hasB, Bool.and_eq_false_iff, decide_eq_false_iff_not]; rw [← HL.out]; omega
    have HAS := Lib.hid (has_any w0 H0.out.net ix)
    rw [hhas] at HAS
    refine (peek_none w0 ix _ HAS.out).mono ?_
    rintro e w1 ⟨rfl, rfl⟩
    go_wp2_with fail
    refine bodyPost_ret (v := .tuple #[.slice A n c, .bool true]) (by simp [results, Tryd.results24, go_sem]) rfl ?_
    exact H0.out.same HB0.out
set_option maxRecDepth 100000 in
set_option maxHeartbeats 4000000 in
theorem done_7T (kd  to_ bit : Int) (j : Nat) (Ab : Option Addr) (nb cb : Nat) (bs : List UInt8) {w : World} {S B N Lc n c : Nat} {LA A : Option Addr} {l : List Pv} (h : Both w S B N LA Lc A n c l) (hSB : S ≤ B) (hby : BytesIn w S Ab cb bs) (hnb : nb = bs.length) (_hbs : nb ≤ 1000) (hj : j < n) (hk : bits .and .i64 kd 7 = 7) :
    Calls Tryd.prog 24 #[.pointer (some ⟨N, 0, none⟩), .slice A n c, .agg #[.int .i64 kd, .int .i64 j, .int .i64 to_, .int .i64 bit, .slice Ab nb cb]] w fun e w' => DoneTo w S B N e w' := by
  obtain ⟨X, hX⟩ : ∃ x, x = w.heap.size := ⟨_, rfl⟩
  obtain ⟨w0, hw0⟩ : ∃ y, y = w.alloc (.cells #[.int .i64 kd, .int .i64 j, .int .i64 to_, .int .i64 bit, .slice Ab nb cb] 51) := ⟨_, rfl⟩
  have hal : Below w.heap.size w w0 := by rw [hw0]; exact (Below.refl _ _).alloc (Nat.le_refl _) _
  have hx : w0.heap[X]? = some (.cells #[.int .i64 kd, .int .i64 j, .int .i64 to_, .int .i64 bit, .slice Ab nb cb] 51 (0, 0)) := by rw [hw0, hX]; exact heap_alloc_new w _
  have hSw : S ≤ w.heap.size := Nat.le_trans hSB h.size
  have H0 := Lib.hid (h.below hal)
  have HX0 := Lib.hid hx
  have HB0 := Lib.hid (hal.mono hSw)
  have HY0 := Lib.hid (hby.below (hal.mono hSw) (Nat.le_refl _))
  have HNB := Lib.hid hnb
  have HL := Lib.hid h.len
  have HW := Lib.hid hw0
  have HXW := Lib.hid hX
  have hs0 : S ≤ w0.heap.size := Nat.le_trans hSw hal.size
  have hXs : X < w0.heap.size := ltb hx
  have hSX : S ≤ X := by omega
  have hn1000 : n ≤ 1000 := by have := h.good.1; have := h.len; omega
  have x0 := cellb (i := 0) hx rfl
  have x1 := cellb (i := 1) hx rfl
  have x2 := cellb (i := 2) hx rfl
  have x3 := cellb (i := 3) hx rfl
  have x4 := cellb (i := 4) hx rfl
  obtain ⟨p, hp⟩ : ∃ p, l[j]? = some p := ⟨l[j]'(by have := h.len; omega), List.getElem?_eq_getElem (by have := h.len; omega)⟩
  obtain ⟨rb, hrA, hrb, hr0, hr1⟩ := h.pk hp
  subst hrA
  have hrb0 : rb < w0.heap.size := Nat.lt_of_lt_of_le hrb hal.size
  have HRC := Lib.hid (And.intro ((hal.cell (p := ⟨rb, j * 2, none⟩) hrb).trans hr0) ((hal.cell (p := ⟨rb, j * 2 + 1, none⟩) hrb).trans hr1))
  have HP := Lib.hid hp
  have hpl : p.l.length ≤ 1000 := h.good.2 p (List.mem_of_getElem? hp)
  clear hp hrb hr0 hr1
  clear hw0 hal hx h hby hnb hX hSw
  go_enter Tryd.func24, Tryd.ntmps24
  go_upto_region 1 with fail
  rw [← HXW.out, ← HW.out]
  clear HW HXW
  have hj0 : (0 : Int) ≤ (j : Int) := by omega
  have hjn : (j : Int) < (n : Int) := by omega
  obtain ⟨pl, hpe⟩ : ∃ x, x = p.l := ⟨_, rfl⟩
  obtain ⟨pt, hpt⟩ : ∃ x, x = p.to_ := ⟨_, rfl⟩
  obtain ⟨m, hm⟩ : ∃ m, m = pl.length := ⟨_, rfl⟩
  have hpl2 : m ≤ 1000 := by rw [hm, hpe]; exact hpl
  have HPK := Lib.hid (peek_any w0 H0.out.net HP.out (by omega))
  rw [← hpe, ← hpt] at HRC
  rw [← hpe, ← hpt, ← hm] at HPK
  have HM := Lib.hid hm
  clear hpe hpt hpl hm
  go_wp2_with fail
  clear x0 x1 x2 x3 x4
  refine HPK.out.mono ?_
  clear HPK
  rintro e w1 ⟨A5, c5, rfl, ho, hb⟩
  have H1 := Lib.hid (H0.out.below hb)
  have HB1 := Lib.hid (HB0.out.trans (hb.mono hs0))
  have HZ := Lib.hid (bytesIn_of_own ho).2
  have HX1 := Lib.hid ((hb.block X hXs).trans HX0.out)
  have HR1 := Lib.hid (And.intro ((hb.cell (p := ⟨rb, j * 2, none⟩) hrb0).trans HRC.out.1) ((hb.cell (p := ⟨rb, j * 2 + 1, none⟩) hrb0).trans HRC.out.2))
  clear hb ho
  go_upto_region 32 with (fail)
  have f0 : w1.drew.cell? ⟨X, 1, none⟩ = some (.int .i64 j) := cellb (i := 1) (show w1.drew.heap[X]? = _ from HX1.out) rfl
  have f1 : w1.drew.cell? ⟨rb, j * 2, none⟩ = some (.int .i64 pt) := HR1.out.1
  have f2 : w1.drew.cell? ⟨rb, j * 2 + 1, none⟩ = some (.string (str pl)) := HR1.out.2
  have f3 : BytesIn w1.drew w1.heap.size A5 c5 pl := HZ.out.drew
  have H1d := Lib.hid (H1.out.below (Below.refl _ w1).drew)
  have HB1d : Hid (Below S w w1.drew) := Lib.hid HB1.out.drew
  refine wp_region_noPanic ?_
  refine wp_region_held_drew (S := fun w' => w'.cell? ⟨X, 1, none⟩ = some (.int .i64 j) ∧ w'.cell? ⟨rb, j * 2, none⟩ = some (.int .i64 pt) ∧ w'.cell? ⟨rb, j * 2 + 1, none⟩ = some (.string (str pl)) ∧ BytesIn w' w1.heap.size A5 c5 pl) (by kernel_rfl) ?_ (fun hHeld => ?_)
  · try dsimp only
    (refine ⟨?_, ?_, ?_, ?_⟩ <;> (first | with_reducible assumption))
  refine wpAnyH_take (i := 0) (v := ?_) (by (simp only [List.getElem?_toArray, List.getElem?_cons_zero]; rfl)) (by kernel_rfl) (by kernel_rfl) (by kernel_rfl) (fun _ _ _ h => h) (Or.inl ⟨by rfl, ?_⟩) (by assumption) ?_
  rotate_left
  · (intro w hSw; (try dsimp only at hSw); go_simp; try with_reducible rfl)
  try simp only [Act.put, List.setIfInBounds_toArray, List.set_cons_zero, List.set_cons_succ]
  refine wpAnyH_take (i := 1) (v := ?_) (by (simp only [List.getElem?_toArray, List.getElem?_cons_succ, List.getElem?_cons_zero]; rfl)) (by kernel_rfl) (by kernel_rfl) (by kernel_rfl) (fun _ _ _ h => h) (Or.inl ⟨by rfl, ?_⟩) (by assumption) ?_
  rotate_left
  · (intro w hSw; (try dsimp only at hSw); go_simp; try with_reducible rfl)
  try simp only [Act.put, List.setIfInBounds_toArray, List.set_cons_zero, List.set_cons_succ]
  refine wpAnyH_take (i := 2) (v := ?_) (by (simp only [List.getElem?_toArray, List.getElem?_cons_succ, List.getElem?_cons_zero]; rfl)) (by kernel_rfl) (by kernel_rfl) (by kernel_rfl) (fun _ _ _ h => h) (Or.inl ⟨by rfl, ?_⟩) (by assumption) ?_
  rotate_left
  · (intro w hSw; (try dsimp only at hSw); go_simp; try with_reducible rfl)
  try simp only [Act.put, List.setIfInBounds_toArray, List.set_cons_zero, List.set_cons_succ]
  refine wpAnyH_take (i := 3) (v := ?_) (by (simp only [List.getElem?_toArray, List.getElem?_cons_succ, List.getElem?_cons_zero]; rfl)) (by kernel_rfl) (by kernel_rfl) (by kernel_rfl) (fun _ _ _ h => h) (Or.inl ⟨by rfl, ?_⟩) (by assumption) ?_
  rotate_left
  · (intro w hSw; (try dsimp only at hSw); go_simp; try with_reducible rfl)
  try simp only [Act.put, List.setIfInBounds_toArray, List.set_cons_zero, List.set_cons_succ]
  refine wpAnyH_take (i := 4) (v := ?_) (by (simp only [List.getElem?_toArray, List.getElem?_cons_succ, List.getElem?_cons_zero]; rfl)) (by kernel_rfl) (by kernel_rfl) (by kernel_rfl) (fun _ _ _ h => h) (Or.inl ⟨by rfl, ?_⟩) (by assumption) ?_
  rotate_left
  · (intro w hSw; (try dsimp only at hSw); go_simp; try with_reducible rfl)
  try simp only [Act.put, List.setIfInBounds_toArray, List.set_cons_zero, List.set_cons_succ]
  refine wpAnyH_take (i := 5) (v := ?_) (by (simp only [List.getElem?_toArray, List.getElem?_cons_succ, List.getElem?_cons_zero]; rfl)) (by kernel_rfl) (by kernel_rfl) (by kernel_rfl) (fun _ _ _ h => h) (Or.inl ⟨by rfl, ?_⟩) (by assumption) ?_
  rotate_left
  · (intro w hSw; (try dsimp only at hSw); go_simp; try with_reducible rfl)
  try simp only [Act.put, List.setIfInBounds_toArray, List.set_cons_zero, List.set_cons_succ]
  refine wpAnyH_take (i := 6) (v := ?_) (by (simp only [List.getElem?_toArray, List.getElem?_cons_succ, List.getElem?_cons_zero]; rfl)) (by kernel_rfl) (by kernel_rfl) (by kernel_rfl) (fun _ _ _ h => h) (Or.inl ⟨by rfl, ?_⟩) (by assumption) ?_
  rotate_left
  · (intro w hSw; (try dsimp only at hSw); go_simp; try with_reducible rfl)
  try simp only [Act.put, List.setIfInBounds_toArray, List.set_cons_zero, List.set_cons_succ]
  refine wpAnyH_take (i := 7) (v := ?_) (by (simp only [List.getElem?_toArray, List.getElem?_cons_succ, List.getElem?_cons_zero]; rfl)) (by kernel_rfl) (by kernel_rfl) (by kernel_rfl) (fun _ _ _ h => h) (Or.inl ⟨by rfl, ?_⟩) (by assumption) ?_
  rotate_left
  · (intro w hSw; (try dsimp only at hSw); go_simp; try with_reducible rfl)
  try simp only [Act.put, List.setIfInBounds_toArray, List.set_cons_zero, List.set_cons_succ]
  refine wpAnyH_take (i := 8) (v := ?_) (by (simp only [List.getElem?_toArray, List.getElem?_cons_succ, List.getElem?_cons_zero]; rfl)) (by kernel_rfl) (by kernel_rfl) (by kernel_rfl) (fun _ _ _ h => h) (Or.inl ⟨by rfl, ?_⟩) (by assumption) ?_
  rotate_left
  · (intro w hSw; (try dsimp only at hSw); go_simp; try with_reducible rfl)
  try simp only [Act.put, List.setIfInBounds_toArray, List.set_cons_zero, List.set_cons_succ]
  refine wpAnyH_take (i := 9) (v := ?_) (by (simp only [List.getElem?_toArray, List.getElem?_cons_succ, List.getElem?_cons_zero]; rfl)) (by kernel_rfl) (by kernel_rfl) (by kernel_rfl) (fun _ _ _ h => h) (Or.inl ⟨by rfl, ?_⟩) (by assumption) ?_
  rotate_left
  · (intro w hSw; (try dsimp only at hSw); go_simp; try with_reducible rfl)
  try simp only [Act.put, List.setIfInBounds_toArray, List.set_cons_zero, List.set_cons_succ]
  refine wpAnyH_take (i := 10) (v := ?_) (by (simp only [List.getElem?_toArray, List.getElem?_cons_succ, List.getElem?_cons_zero]; rfl)) (by kernel_rfl) (by kernel_rfl) (by kernel_rfl) (fun _ _ _ h => h) (Or.inl ⟨by rfl, ?_⟩) (by assumption) ?_
  rotate_left
  · (intro w hSw; (try dsimp only at hSw); go_simp; try with_reducible rfl)
  try simp only [Act.put, List.setIfInBounds_toArray, List.set_cons_zero, List.set_cons_succ]
  refine wpAnyH_take (i := 11) (v := ?_) (by (simp only [List.getElem?_toArray, List.getElem?_cons_succ, List.getElem?_cons_zero]; rfl)) (by kernel_rfl) (by kernel_rfl) (by kernel_rfl) (fun _ _ _ h => h) (Or.inl ⟨by rfl, ?_⟩) (by assumption) ?_
  rotate_left
  · (intro w hSw; (try dsimp only at hSw); have z := zc hSw.2.2.2 HM.out; go_simp; try with_reducible rfl)
  try simp only [Act.put, List.setIfInBounds_toArray, List.set_cons_zero, List.set_cons_succ]
  refine wpAnyH_take (i := 12) (v := ?_) (by (simp only [List.getElem?_toArray, List.getElem?_cons_succ, List.getElem?_cons_zero]; rfl)) (by kernel_rfl) (by kernel_rfl) (by kernel_rfl) (fun _ _ _ h => h) (Or.inl ⟨by rfl, ?_⟩) (by assumption) ?_
  rotate_left
  · (intro w hSw; (try dsimp only at hSw); go_simp; try with_reducible rfl)
  try simp only [Act.put, List.setIfInBounds_toArray, List.set_cons_zero, List.set_cons_succ]
  refine wpAnyH_take (i := 13) (v := ?_) (by (simp only [List.getElem?_toArray, List.getElem?_cons_succ, List.getElem?_cons_zero]; rfl)) (by kernel_rfl) (by kernel_rfl) (by kernel_rfl) (fun _ _ _ h => h) (Or.inl ⟨by rfl, ?_⟩) (by assumption) ?_
  rotate_left
  · (intro w hSw; (try dsimp only at hSw); go_simp; try with_reducible rfl)
  try simp only [Act.put, List.setIfInBounds_toArray, List.set_cons_zero, List.set_cons_succ]
  refine wpAnyH_take (i := 14) (v := ?_) (by (simp only [List.getElem?_toArray, List.getElem?_cons_succ, List.getElem?_cons_zero]; rfl)) (by kernel_rfl) (by kernel_rfl) (by kernel_rfl) (fun _ _ _ h => h) (Or.inl ⟨by rfl, ?_⟩) (by assumption) ?_
  rotate_left
  · (intro w hSw; (try dsimp only at hSw); go_simp; try with_reducible rfl)
  try simp only [Act.put, List.setIfInBounds_toArray, List.set_cons_zero, List.set_cons_succ]
  refine wpAnyH_take (i := 15) (v := ?_) (by (simp only [List.getElem?_toArray, List.getElem?_cons_succ, List.getElem?_cons_zero]; rfl)) (by kernel_rfl) (by kernel_rfl) (by kernel_rfl) (fun _ _ _ h => h) (Or.inl ⟨by rfl, ?_⟩) (by assumption) ?_
  rotate_left
  · (intro w hSw; (try dsimp only at hSw); go_simp; try with_reducible rfl)
  try simp only [Act.put, List.setIfInBounds_toArray, List.set_cons_zero, List.set_cons_succ]
  refine wpAnyH_take (i := 16) (v := ?_) (by (simp only [List.getElem?_toArray, List.getElem?_cons_succ, List.getElem?_cons_zero]; rfl)) (by kernel_rfl) (by kernel_rfl) (by kernel_rfl) (fun _ _ _ h => h) (Or.inl ⟨by rfl, ?_⟩) (by assumption) ?_
  rotate_left
  · (intro w hSw; (try dsimp only at hSw); go_simp; try with_reducible rfl)
  try simp only [Act.put, List.setIfInBounds_toArray, List.set_cons_zero, List.set_cons_succ]
  refine wpAnyH_take (i := 17) (v := ?_) (by (simp only [List.getElem?_toArray, List.getElem?_cons_succ, List.getElem?_cons_zero]; rfl)) (by kernel_rfl) (by kernel_rfl) (by kernel_rfl) (fun _ _ _ h => h) (Or.inl ⟨by rfl, ?_⟩) (by assumption) ?_
  rotate_left
  · (intro w hSw; (try dsimp only at hSw); go_simp; try with_reducible rfl)
  try simp only [Act.put, List.setIfInBounds_toArray, List.set_cons_zero, List.set_cons_succ]
  refine wpAnyH_take (i := 18) (v := ?_) (by (simp only [List.getElem?_toArray, List.getElem?_cons_succ, List.getElem?_cons_zero]; rfl)) (by kernel_rfl) (by kernel_rfl) (by kernel_rfl) (fun _ _ _ h => h) (Or.inl ⟨by rfl, ?_⟩) (by assumption) ?_
  rotate_left
  · (intro w hSw; (try dsimp only at hSw); go_simp; try with_reducible rfl)
  try simp only [Act.put, List.setIfInBounds_toArray, List.set_cons_zero, List.set_cons_succ]
  refine wpAnyH_take (i := 19) (v := ?_) (by (simp only [List.getElem?_toArray, List.getElem?_cons_succ, List.getElem?_cons_zero]; rfl)) (by kernel_rfl) (by kernel_rfl) (by kernel_rfl) (fun _ _ _ h => h) (Or.inl ⟨by rfl, ?_⟩) (by assumption) ?_
  rotate_left
  · (intro w hSw; (try dsimp only at hSw); go_simp; try with_reducible rfl)
  try simp only [Act.put, List.setIfInBounds_toArray, List.set_cons_zero, List.set_cons_succ]
  refine wpAnyH_take (i := 20) (v := ?_) (by (simp only [List.getElem?_toArray, List.getElem?_cons_succ, List.getElem?_cons_zero]; rfl)) (by kernel_rfl) (by kernel_rfl) (by kernel_rfl) (fun _ _ _ h => h) (Or.inl ⟨by rfl, ?_⟩) (by assumption) ?_
  rotate_left
  · (intro w hSw; (try dsimp only at hSw); go_simp; try with_reducible rfl)
  try simp only [Act.put, List.setIfInBounds_toArray, List.set_cons_zero, List.set_cons_succ]
  refine wpAnyH_take (i := 21) (v := ?_) (by (simp only [List.getElem?_toArray, List.getElem?_cons_succ, List.getElem?_cons_zero]; rfl)) (by kernel_rfl) (by kernel_rfl) (by kernel_rfl) (fun _ _ _ h => h) (Or.inl ⟨by rfl, ?_⟩) (by assumption) ?_
  rotate_left
  · (intro w hSw; (try dsimp only at hSw); go_simp; try with_reducible rfl)
  try simp only [Act.put, List.setIfInBounds_toArray, List.set_cons_zero, List.set_cons_succ]
  refine wpAnyH_take (i := 22) (v := ?_) (by (simp only [List.getElem?_toArray, List.getElem?_cons_succ, List.getElem?_cons_zero]; rfl)) (by kernel_rfl) (by kernel_rfl) (by kernel_rfl) (fun _ _ _ h => h) (Or.inl ⟨by rfl, ?_⟩) (by assumption) ?_
  rotate_left
  · (intro w hSw; (try dsimp only at hSw); go_simp; try with_reducible rfl)
  try simp only [Act.put, List.setIfInBounds_toArray, List.set_cons_zero, List.set_cons_succ]
  refine wpAnyH_take (i := 23) (v := ?_) (by (simp only [List.getElem?_toArray, List.getElem?_cons_succ, List.getElem?_cons_zero]; rfl)) (by kernel_rfl) (by kernel_rfl) (by kernel_rfl) (fun _ _ _ h => h) (Or.inl ⟨by rfl, ?_⟩) (by assumption) ?_
  rotate_left
  · (intro w hSw; (try dsimp only at hSw); go_simp; try with_reducible rfl)
  try simp only [Act.put, List.setIfInBounds_toArray, List.set_cons_zero, List.set_cons_succ]
  refine wpAnyH_take (i := 24) (v := ?_) (by (simp only [List.getElem?_toArray, List.getElem?_cons_succ, List.getElem?_cons_zero]; rfl)) (by kernel_rfl) (by kernel_rfl) (by kernel_rfl) (fun _ _ _ h => h) (Or.inl ⟨by rfl, ?_⟩) (by assumption) ?_
  rotate_left
  · (intro w hSw; (try dsimp only at hSw); go_simp; try with_reducible rfl)
  try simp only [Act.put, List.setIfInBounds_toArray, List.set_cons_zero, List.set_cons_succ]
  refine wpAnyH_done (by kernel_rfl) ?_ _
  refine NoPanic.normal ?_
  clear hHeld f0 f1 f2 f3
  go_wp2_with fail
  refine bodyPost_ret (v := .tuple #[.slice (some ⟨rb, 0, none⟩) n c, .bool true]) (by simp [results, Tryd.results24, go_sem]) rfl ?_
  exact H1d.out.same HB1d.out
end Go.Proofs.YtkenaoejijpgpaaDoor
