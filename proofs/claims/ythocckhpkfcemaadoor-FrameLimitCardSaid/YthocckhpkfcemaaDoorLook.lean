/- Where the body of the first frame ends. -/
import Derived.Test.YthocckhpkfcemaaDoorFrame
namespace Go.Proofs.YthocckhpkfcemaaDoor
open Go.RowKit

/-- The error of the first frame of l. -/
def lookE (l : List UInt8) : Nat :=
  if l.length < 4 then 10 else if 65536 < num4 l then 11 else if l.length < num4 l + 8 then 10
  else if num4 (l.drop (num4 l + 4)) = crc (l.take (num4 l + 4)) then 0 else 20
/-- Where its body ends (0 with an error). -/
def lookN (l : List UInt8) : Nat := if lookE l = 0 then num4 l + 4 else 0

set_option maxHeartbeats 400000 in
theorem look_any (A : Option Addr) (c n : Nat) (l : List UInt8) (w : World) (B : Nat) (h : BytesIn w B A c l) (hh : Hal w) (hn : n = l.length) :
    Calls Tryd.prog 23 #[.slice A n c] w fun e w' => e = .returned (.tuple #[.int .i64 (lookN l : Int), .int .i64 (lookE l : Int)]) ∧ ∃ n, w' = w.drewN n := by
  have hc1 := h.cap
  have hc2 := h.le
  have hnc : n ≤ c := by omega
  have HN := Lib.hid hn; clear hn
  have HB := Lib.hid h; clear h
  have HH := Lib.hid hh; clear hh
  by_cases h4 : n < 4
  · have e1 : lookE l = 10 := by unfold lookE; rw [if_pos (by rw [← HN.out]; exact h4)]
    have e2 : lookN l = 0 := by unfold lookN; rw [e1]; rfl
    have E1 := Lib.hid e1
    have E2 := Lib.hid e2
    clear e1 e2
    go_enter Tryd.func23, Tryd.ntmps23
    go_wp2_with fail
    go_ret2
    exact ⟨by rw [E1.out, E2.out]; rfl, 0, rfl⟩
  · obtain ⟨m, hm⟩ : ∃ m, m = num4 l := ⟨_, rfl⟩
    have hml : m < 4294967296 := by rw [hm]; exact num4_lt l
    have HM := Lib.hid hm; clear hm
    go_enter Tryd.func23, Tryd.ntmps23
    go_wp2_with fail
    refine (number_any _ _ l w B _ HB.out (by have := HN.out; omega) HN.out).mono ?_
    rintro e w' ⟨rfl, k1, rfl⟩
    rw [← HM.out]
    by_cases h6 : 65536 < m
    · have e1 : lookE l = 11 := by unfold lookE; rw [if_neg (by rw [← HN.out]; exact h4), if_pos (by rw [← HM.out]; exact h6)]
      have e2 : lookN l = 0 := by unfold lookN; rw [e1]; rfl
      have E1 := Lib.hid e1
      have E2 := Lib.hid e2
      clear e1 e2
      go_wp2_with fail
      go_ret2
      exact ⟨by rw [E1.out, E2.out]; rfl, k1, rfl⟩
    · by_cases h8 : n < m + 8
      · have e1 : lookE l = 10 := by unfold lookE; rw [if_neg (by rw [← HN.out]; exact h4), if_neg (by rw [← HM.out]; exact h6), if_pos (by rw [← HM.out, ← HN.out]; exact h8)]
        have e2 : lookN l = 0 := by unfold lookN; rw [e1]; rfl
        have E1 := Lib.hid e1
        have E2 := Lib.hid e2
        clear e1 e2
        go_wp2_with fail
        go_ret2
        exact ⟨by rw [E1.out, E2.out]; rfl, k1, rfl⟩
      · go_wp2_with fail
        generalize hW : w.drewN k1 = W
        have HW : Hid (W = w.drewN k1) := hW.symm
        clear hW
        have hlen := HN.out
        obtain ⟨b, off, rfl, hb, _⟩ := HB.out.at_ (show 0 < l.length by omega)
        have hbd : BytesIn W B (some ⟨b, off + (m + 4), none⟩) (c - (m + 4)) (l.drop (m + 4)) := by
          rw [HW.out]; exact (HB.out.drewN k1).dropLit (by omega) (by omega)
        have hbt : BytesIn W B (some ⟨b, off, none⟩) c (l.take (m + 4)) := by rw [HW.out]; exact (HB.out.drewN k1).take
        have hhw : Hal W := by rw [HW.out]; exact fun i hi => HH.out i hi
        have HBD := Lib.hid hbd
        have HBT := Lib.hid hbt
        have HHW := Lib.hid hhw
        clear hbd hbt hhw hlen
        go_quiet (first | (go_at_call 25; exact Calls.quiet_of (number_any _ _ (l.drop (m + 4)) _ B _ (HBD.out.drewN _) (by rw [List.length_drop]; have := HN.out; omega) (by rw [List.length_drop]; have := HN.out; omega))) | (go_at_call 12; exact quiet_eq (sum_n _ _ _ (l.take (m + 4)) _ B (HBT.out.drewN _) HHW.out (by rw [List.length_take]; have := HN.out; omega))))
        by_cases hs : num4 (l.drop (m + 4)) = crc (l.take (m + 4))
        · have e1 : lookE l = 0 := by unfold lookE; rw [if_neg (by rw [← HN.out]; exact h4), if_neg (by rw [← HM.out]; exact h6), if_neg (by rw [← HM.out, ← HN.out]; exact h8), if_pos (by rw [← HM.out]; exact hs)]
          have e2 : lookN l = m + 4 := by unfold lookN; rw [e1, ← HM.out]; rfl
          have E1 := Lib.hid e1
          have E2 := Lib.hid e2
          have q : (((num4 (l.drop (m + 4)) : Nat) : Int) != ((crc (l.take (m + 4)) : Nat) : Int)) = false := by rw [hs]; simp
          clear e1 e2 hs
          go_wp2_with fail
          go_ret2
          exact ⟨by rw [E1.out, E2.out]; rfl, k1 + nq, by rw [HW.out]; simp⟩
        · have e1 : lookE l = 20 := by unfold lookE; rw [if_neg (by rw [← HN.out]; exact h4), if_neg (by rw [← HM.out]; exact h6), if_neg (by rw [← HM.out, ← HN.out]; exact h8), if_neg (by rw [← HM.out]; exact hs)]
          have e2 : lookN l = 0 := by unfold lookN; rw [e1]; rfl
          have E1 := Lib.hid e1
          have E2 := Lib.hid e2
          have q : (((num4 (l.drop (m + 4)) : Nat) : Int) != ((crc (l.take (m + 4)) : Nat) : Int)) = true := by rw [bne_iff_ne]; omega
          clear e1 e2 hs
          go_wp2_with fail
          go_ret2
          exact ⟨by rw [E1.out, E2.out]; rfl, k1 + nq, by rw [HW.out]; simp⟩
end Go.Proofs.YthocckhpkfcemaaDoor
