/- The law FrameSums: the walk. -/
import Derived.Test.YthocckhpkfcemaaDoorAwake
namespace Go.Proofs.YthocckhpkfcemaaDoor
open Go.RowKit

set_option maxHeartbeats 1000000 in
theorem law_sums (A : Option Addr) (c n : Nat) (l : List UInt8) (w : World) (h : BytesIn w w.heap.size A c l) (hn : n = l.length) (h0 : 0 < w.heap.size) (hh : Hal w) :
    Calls Tryd.prog 3 #[.slice A n c] w fun e w' => e = .returned (.bool true) ∧ Below w.heap.size w w' := by
  have hc1 := h.cap
  have hnc : n ≤ c := by have := h.le; omega
  have HN := Lib.hid hn; clear hn
  have HB := Lib.hid h; clear h
  have HH := Lib.hid hh; clear hh
  go_enter Tryd.func3, Tryd.ntmps3
  go_wp2_with fail
  refine (awake_any w h0 HH.out).mono ?_
  rintro e w1 ⟨rfl, hb1⟩
  have HB1 := Lib.hid hb1
  have hs1 : w.heap.size ≤ w1.heap.size := hb1.size
  clear hb1
  by_cases hbig : 20000 < n
  · go_wp2_with fail
    go_ret
    exact ⟨rfl, HB1.out⟩
  · go_wp2_with fail
    refine (frame_any _ _ _ l w1 ((HB.out.below HB1.out (Nat.le_refl _)).more hs1) (HH.out.below HB1.out h0) (by omega) (by have := HN.out; omega) HN.out).mono ?_
    rintro e w2 ⟨A2, c2, rfl, hown2, hb2⟩
    have HB2 := Lib.hid (HB1.out.trans (hb2.mono hs1))
    have HO2 := Lib.hid hown2
    have hs2 : w.heap.size ≤ w2.heap.size := HB2.out.size
    clear hb2 hown2
    go_wp2_with fail
    refine (rframe_any _ _ _ l w2 ((HB.out.below HB2.out (Nat.le_refl _)).more hs2) (by have := HN.out; omega) HN.out).mono ?_
    rintro e w3 ⟨A3, c3, rfl, hown3, hb3⟩
    have HB3 := Lib.hid (HB2.out.trans (hb3.mono hs2))
    have hs3 : w.heap.size ≤ w3.heap.size := HB3.out.size
    have hnl : n + 8 = (frameOf l).length := by rw [frameOf_length, HN.out]
    have z2 : (convert 22 9 (.slice A2 (n + 8) c2)).run Tryd.prog w3 = .ok (.string (str (frameOf l))) w3 := run_string ((bytesIn_of_own HO2.out).2.below hb3 (Nat.le_refl _)) hnl 22 5 9 Tryd.underlying22 Tryd.underlying5 Tryd.underlying9
    have z3 : (convert 22 9 (.slice A3 (n + 8) c3)).run Tryd.prog w3 = .ok (.string (str (frameOf l))) w3 := run_string (bytesIn_of_own hown3).2 hnl 22 5 9 Tryd.underlying22 Tryd.underlying5 Tryd.underlying9
    clear hnl hb3 hown3
    go_wp2_with fail
    refine (sum_n _ _ _ l w3 w.heap.size (HB.out.below HB3.out (Nat.le_refl _)) (HH.out.below HB3.out h0) HN.out).mono ?_
    rintro e w' ⟨rfl, rfl⟩
    go_wp2_with fail
    refine (rsum_n _ _ _ l w3 w.heap.size (HB.out.below HB3.out (Nat.le_refl _)) HN.out).mono ?_
    rintro e w' ⟨rfl, rfl⟩
    go_wp2_with fail
    go_ret
    exact ⟨rfl, HB3.out⟩
end Go.Proofs.YthocckhpkfcemaaDoor
