/- The document's first body. -/
import Derived.Test.YtkenaoejijpgpaaDoorFrmB
namespace Go.Proofs.YtkenaoejijpgpaaDoor
open Go.RowKit

set_option maxRecDepth 100000 in
set_option maxHeartbeats 1000000 in
theorem rnext_no (A : Option Addr) (c n : Nat) (l : List UInt8) (w : World) (B : Nat) (h : BytesIn w B A c l) (hn : n = l.length) (hE : ¬ lookE l = 0) :
    Calls Tryd.prog 47 #[.slice A n c] w fun e w' => e = .returned (.tuple #[.slice none 0 0, .int .i64 0, .int .i64 (lookE l : Int)]) ∧ ∃ n, w' = w.drewN n := by
  have hc1 := h.cap
  have hc2 := h.le
  have hnc : n ≤ c := by omega
  have HN := Lib.hid hn; clear hn
  have HB := Lib.hid h; clear h
  have HE := Lib.hid hE; clear hE
  by_cases h4 : n < 4
  · have e1 : lookE l = 10 := by unfold lookE; rw [if_pos (by rw [← HN.out]; exact h4)]
    have E1 := Lib.hid e1
    clear e1
    go_enter Tryd.func47, Tryd.ntmps47
    go_wp2_with fail
    go_ret3
    exact ⟨by rw [E1.out]; rfl, 0, rfl⟩
  · obtain ⟨m, hm⟩ : ∃ m, m = num4 l := ⟨_, rfl⟩
    have hml : m < 4294967296 := by rw [hm]; exact num4_lt l
    have HM := Lib.hid hm; clear hm
    go_enter Tryd.func47, Tryd.ntmps47
    go_wp2_with fail
    refine (rnumber_any _ _ l w B _ HB.out (by have := HN.out; omega) HN.out).mono ?_
    rintro e w' ⟨rfl, k1, rfl⟩
    rw [← HM.out]
    by_cases h6 : 65536 < m
    · have e1 : lookE l = 11 := by unfold lookE; rw [if_neg (by rw [← HN.out]; exact h4), if_pos (by rw [← HM.out]; exact h6)]
      have E1 := Lib.hid e1
      clear e1
      go_wp2_with fail
      go_ret3
      exact ⟨by rw [E1.out]; rfl, k1, rfl⟩
    · by_cases h8 : n < m + 8
      · have e1 : lookE l = 10 := by unfold lookE; rw [if_neg (by rw [← HN.out]; exact h4), if_neg (by rw [← HM.out]; exact h6), if_pos (by rw [← HM.out, ← HN.out]; exact h8)]
        have E1 := Lib.hid e1
        clear e1
        go_wp2_with fail
        go_ret3
        exact ⟨by rw [E1.out]; rfl, k1, rfl⟩
      · go_wp2_with fail
        generalize hW : w.drewN k1 = W
        have HW : Hid (W = w.drewN k1) := hW.symm
        clear hW
        have hlen := HN.out
        obtain ⟨b, off, rfl, hb, _⟩ := HB.out.at_ (show 0 < l.length by omega)
        have hbd : BytesIn W B (some ⟨b, off + (m + 4), none⟩) (c - (m + 4)) (l.drop (m + 4)) := by
          rw [HW.out]; exact (HB.out.drewN k1).dropLit (by omega) (by omega)
        have hbt : BytesIn W B (some ⟨b, off, none⟩) c (l.take (m + 4)) := by rw [HW.out]; exact (HB.out.drewN k1).take
        have HBD := Lib.hid hbd
        have HBT := Lib.hid hbt
        have hnl := num4_lt (l.drop (m + 4))
        clear hbd hbt hlen
        have hs : ¬ num4 (l.drop (m + 4)) = crc (l.take (m + 4)) := fun hs => HE.out (by
          unfold lookE; rw [if_neg (by rw [← HN.out]; exact h4), if_neg (by rw [← HM.out]; exact h6), if_neg (by rw [← HM.out, ← HN.out]; exact h8), if_pos (by rw [← HM.out]; exact hs)])
        have e1 : lookE l = 20 := by unfold lookE; rw [if_neg (by rw [← HN.out]; exact h4), if_neg (by rw [← HM.out]; exact h6), if_neg (by rw [← HM.out, ← HN.out]; exact h8), if_neg (by rw [← HM.out]; exact hs)]
        have E1 := Lib.hid e1
        have q : (((num4 (l.drop (m + 4)) : Nat) : Int) != ((crc (l.take (m + 4)) : Nat) : Int)) = true := by rw [bne_iff_ne]; omega
        clear e1 hs
        go_quiet (first | (go_at_call 73; exact Calls.quiet_of (rnumber_any _ _ (l.drop (m + 4)) _ B _ (HBD.out.drewN _) (by rw [List.length_drop]; have := HN.out; omega) (by rw [List.length_drop]; have := HN.out; omega))) | (go_at_call 56; exact quiet_eq (rsum_n _ _ _ (l.take (m + 4)) _ B (HBT.out.drewN _) (by rw [List.length_take]; have := HN.out; omega))))
        go_wp2_with fail
        go_ret3
        exact ⟨by rw [E1.out]; rfl, k1 + nq, by rw [HW.out]; simp⟩
set_option maxRecDepth 100000 in
set_option maxHeartbeats 1000000 in
theorem rnext_ok (A : Option Addr) (c n : Nat) (l : List UInt8) (w : World) (B : Nat) (h : BytesIn w B A c l) (hn : n = l.length) (hE : lookE l = 0) :
    Calls Tryd.prog 47 #[.slice A n c] w fun e w' => ∃ A2 c2, e = .returned (.tuple #[.slice A2 (num4 l) c2, .int .i64 ((num4 l + 8 : Nat) : Int), .int .i64 0]) ∧ BytesIn w B A2 c2 (bodyOf l) ∧ ∃ n, w' = w.drewN n := by
  have hc1 := h.cap
  have hc2 := h.le
  have hnc : n ≤ c := by omega
  have hok := lookE_ok hE
  have hs : num4 (l.drop (num4 l + 4)) = crc (l.take (num4 l + 4)) := by
    unfold lookE at hE
    rw [if_neg (by omega), if_neg (by omega), if_neg (by omega)] at hE
    by_cases hs : num4 (l.drop (num4 l + 4)) = crc (l.take (num4 l + 4))
    · exact hs
    · rw [if_neg hs] at hE; cases hE
  have HN := Lib.hid hn; clear hn
  have HB := Lib.hid h; clear h
  have HE := Lib.hid hE; clear hE
  obtain ⟨m, hm⟩ : ∃ m, m = num4 l := ⟨_, rfl⟩
  rw [← hm] at hs hok ⊢
  have h4 : ¬ n < 4 := by have := HN.out; omega
  have hnm : m + 8 ≤ n := by have := HN.out; omega
  have hm6 : m ≤ 65536 := hok.2.1
  have HM := Lib.hid hm; clear hm
  have HS := Lib.hid hs; clear hs
  clear hok
  obtain ⟨b, off, rfl, hb, _⟩ := HB.out.at_ (show 0 < l.length by have := HN.out; omega)
  have hbody : BytesIn w B (some ⟨b, off + 4, none⟩) (c - 4) (bodyOf l) := by
    unfold bodyOf; exact (HB.out.dropLit (k := 4) (by have := HN.out; omega) (by omega)).take
  have HBO := Lib.hid hbody; clear hbody
  go_enter Tryd.func47, Tryd.ntmps47
  go_wp2_with fail
  refine (rnumber_any _ _ l w B _ HB.out (by have := HN.out; omega) HN.out).mono ?_
  rintro e w' ⟨rfl, k1, rfl⟩
  rw [← HM.out]
  go_wp2_with fail
  generalize hW : w.drewN k1 = W
  have HW : Hid (W = w.drewN k1) := hW.symm
  clear hW
  have hlen := HN.out
  have hbd : BytesIn W B (some ⟨b, off + (m + 4), none⟩) (c - (m + 4)) (l.drop (m + 4)) := by
    rw [HW.out]; exact (HB.out.drewN k1).dropLit (by omega) (by omega)
  have hbt : BytesIn W B (some ⟨b, off, none⟩) c (l.take (m + 4)) := by rw [HW.out]; exact (HB.out.drewN k1).take
  have HBD := Lib.hid hbd
  have HBT := Lib.hid hbt
  have hnl := num4_lt (l.drop (m + 4))
  clear hbd hbt hlen
  have q : (((num4 (l.drop (m + 4)) : Nat) : Int) != ((crc (l.take (m + 4)) : Nat) : Int)) = false := by rw [HS.out]; simp
  go_quiet (first | (go_at_call 73; exact Calls.quiet_of (rnumber_any _ _ (l.drop (m + 4)) _ B _ (HBD.out.drewN _) (by rw [List.length_drop]; have := HN.out; omega) (by rw [List.length_drop]; have := HN.out; omega))) | (go_at_call 56; exact quiet_eq (rsum_n _ _ _ (l.take (m + 4)) _ B (HBT.out.drewN _) (by rw [List.length_take]; have := HN.out; omega))))
  go_wp2_with fail
  go_ret3
  refine ⟨_, _, ?_, HBO.out, k1 + nq, by rw [HW.out]; simp⟩
  show Ending.returned (.tuple #[.slice (some ⟨b, off + 4, none⟩) (m + 4 - 4) (c - 4), .int .i64 ((m : Int) + 8), .int .i64 0]) = _
  rw [Nat.add_sub_cancel]; rfl

end Go.Proofs.YtkenaoejijpgpaaDoor
