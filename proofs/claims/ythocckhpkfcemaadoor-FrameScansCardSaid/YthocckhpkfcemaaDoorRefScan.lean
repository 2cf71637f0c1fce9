/- The document's first body, and its bodies. -/
import Derived.Test.YthocckhpkfcemaaDoorSame
namespace Go.Proofs.YthocckhpkfcemaaDoor
open Go.RowKit

set_option maxHeartbeats 1000000 in
theorem rnext_no (A : Option Addr) (c n : Nat) (l : List UInt8) (w : World) (B : Nat) (h : BytesIn w B A c l) (hn : n = l.length) (hE : ¬ lookE l = 0) :
    Calls Tryd.prog 18 #[.slice A n c] w fun e w' => e = .returned (.tuple #[.slice none 0 0, .int .i64 0, .int .i64 (lookE l : Int)]) ∧ ∃ n, w' = w.drewN n := by
  have hc1 := h.cap
  have hc2 := h.le
  have hnc : n ≤ c := by omega
  have HN := Lib.hid hn; clear hn
  have HB := Lib.hid h; clear h
  have HE := Lib.hid hE; clear hE
  by_cases h4 : n < 4
  · have e1 : lookE l = 10 := by unfold lookE; rw [if_pos (by rw [← HN.out]; exact h4)]
    have E1 := Lib.hid e1
    clear e1
    go_enter Tryd.func18, Tryd.ntmps18
    go_wp2_with fail
    go_ret3
    exact ⟨by rw [E1.out]; rfl, 0, rfl⟩
  · obtain ⟨m, hm⟩ : ∃ m, m = num4 l := ⟨_, rfl⟩
    have hml : m < 4294967296 := by rw [hm]; exact num4_lt l
    have HM := Lib.hid hm; clear hm
    go_enter Tryd.func18, Tryd.ntmps18
    go_wp2_with fail
    refine (rnumber_any _ _ l w B _ HB.out (by have := HN.out; omega) HN.out).mono ?_
    rintro e w' ⟨rfl, k1, rfl⟩
    rw [← HM.out]
    by_cases h6 : 65536 < m
    · have e1 : lookE l = 11 := by unfold lookE; rw [if_neg (by rw [← HN.out]; exact h4), if_pos (by rw [← HM.out]; exact h6)]
      have E1 := Lib.hid e1
      clear e1
      go_wp2_with fail
      go_ret3
      exact ⟨by rw [E1.out]; rfl, k1, rfl⟩
    · by_cases h8 : n < m + 8
      · have e1 : lookE l = 10 := by unfold lookE; rw [if_neg (by rw [← HN.out]; exact h4), if_neg (by rw [← HM.out]; exact h6), if_pos (by rw [← HM.out, ← HN.out]; exact h8)]
        have E1 := Lib.hid e1
        clear e1
        go_wp2_with fail
        go_ret3
        exact ⟨by rw [E1.out]; rfl, k1, rfl⟩
      · go_wp2_with fail
        generalize hW : w.drewN k1 = W
        have HW : Hid (W = w.drewN k1) := hW.symm
        clear hW
        have hlen := HN.out
        obtain ⟨b, off, rfl, hb, _⟩ := HB.out.at_ (show 0 < l.length by omega)
        have hbd : BytesIn W B (some ⟨b, off + (m + 4), none⟩) (c - (m + 4)) (l.drop (m + 4)) := by
          rw [HW.out]; exact (HB.out.drewN k1).dropLit (by omega) (by omega)
        have hbt : BytesIn W B (some ⟨b, off, none⟩) c (l.take (m + 4)) := by rw [HW.out]; exact (HB.out.drewN k1).take
        have HBD := Lib.hid hbd
        have HBT := Lib.hid hbt
        have hnl := num4_lt (l.drop (m + 4))
        clear hbd hbt hlen
        have hs : ¬ num4 (l.drop (m + 4)) = crc (l.take (m + 4)) := fun hs => HE.out (by
          unfold lookE; rw [if_neg (by rw [← HN.out]; exact h4), if_neg (by rw [← HM.out]; exact h6), if_neg (by rw [← HM.out, ← HN.out]; exact h8), if_pos (by rw [← HM.out]; exact hs)])
        have e1 : lookE l = 20 := by unfold lookE; rw [if_neg (by rw [← HN.out]; exact h4), if_neg (by rw [← HM.out]; exact h6), if_neg (by rw [← HM.out, ← HN.out]; exact h8), if_neg (by rw [← HM.out]; exact hs)]
        have E1 := Lib.hid e1
        have q : (((num4 (l.drop (m + 4)) : Nat) : Int) != ((crc (l.take (m + 4)) : Nat) : Int)) = true := by rw [bne_iff_ne]; omega
        clear e1 hs
        go_quiet (first | (go_at_call 24; exact Calls.quiet_of (rnumber_any _ _ (l.drop (m + 4)) _ B _ (HBD.out.drewN _) (by rw [List.length_drop]; have := HN.out; omega) (by rw [List.length_drop]; have := HN.out; omega))) | (go_at_call 13; exact quiet_eq (rsum_n _ _ _ (l.take (m + 4)) _ B (HBT.out.drewN _) (by rw [List.length_take]; have := HN.out; omega))))
        go_wp2_with fail
        go_ret3
        exact ⟨by rw [E1.out]; rfl, k1 + nq, by rw [HW.out]; simp⟩
set_option maxHeartbeats 1000000 in
theorem rnext_ok (A : Option Addr) (c n : Nat) (l : List UInt8) (w : World) (B : Nat) (h : BytesIn w B A c l) (hn : n = l.length) (hE : lookE l = 0) :
    Calls Tryd.prog 18 #[.slice A n c] w fun e w' => ∃ A2 c2, e = .returned (.tuple #[.slice A2 (num4 l) c2, .int .i64 ((num4 l + 8 : Nat) : Int), .int .i64 0]) ∧ BytesIn w B A2 c2 (bodyOf l) ∧ ∃ n, w' = w.drewN n := by
  have hc1 := h.cap
  have hc2 := h.le
  have hnc : n ≤ c := by omega
  have hok := lookE_ok hE
  have hs : num4 (l.drop (num4 l + 4)) = crc (l.take (num4 l + 4)) := by
    unfold lookE at hE
    rw [if_neg (by omega), if_neg (by omega), if_neg (by omega)] at hE
    by_cases hs : num4 (l.drop (num4 l + 4)) = crc (l.take (num4 l + 4))
    · exact hs
    · rw [if_neg hs] at hE; cases hE
  have HN := Lib.hid hn; clear hn
  have HB := Lib.hid h; clear h
  have HE := Lib.hid hE; clear hE
  obtain ⟨m, hm⟩ : ∃ m, m = num4 l := ⟨_, rfl⟩
  rw [← hm] at hs hok ⊢
  have h4 : ¬ n < 4 := by have := HN.out; omega
  have hnm : m + 8 ≤ n := by have := HN.out; omega
  have hm6 : m ≤ 65536 := hok.2.1
  have HM := Lib.hid hm; clear hm
  have HS := Lib.hid hs; clear hs
  clear hok
  obtain ⟨b, off, rfl, hb, _⟩ := HB.out.at_ (show 0 < l.length by have := HN.out; omega)
  have hbody : BytesIn w B (some ⟨b, off + 4, none⟩) (c - 4) (bodyOf l) := by
    unfold bodyOf; exact (HB.out.dropLit (k := 4) (by have := HN.out; omega) (by omega)).take
  have HBO := Lib.hid hbody; clear hbody
  go_enter Tryd.func18, Tryd.ntmps18
  go_wp2_with fail
  refine (rnumber_any _ _ l w B _ HB.out (by have := HN.out; omega) HN.out).mono ?_
  rintro e w' ⟨rfl, k1, rfl⟩
  rw [← HM.out]
  go_wp2_with fail
  generalize hW : w.drewN k1 = W
  have HW : Hid (W = w.drewN k1) := hW.symm
  clear hW
  have hlen := HN.out
  have hbd : BytesIn W B (some ⟨b, off + (m + 4), none⟩) (c - (m + 4)) (l.drop (m + 4)) := by
    rw [HW.out]; exact (HB.out.drewN k1).dropLit (by omega) (by omega)
  have hbt : BytesIn W B (some ⟨b, off, none⟩) c (l.take (m + 4)) := by rw [HW.out]; exact (HB.out.drewN k1).take
  have HBD := Lib.hid hbd
  have HBT := Lib.hid hbt
  have hnl := num4_lt (l.drop (m + 4))
  clear hbd hbt hlen
  have q : (((num4 (l.drop (m + 4)) : Nat) : Int) != ((crc (l.take (m + 4)) : Nat) : Int)) = false := by rw [HS.out]; simp
  go_quiet (first | (go_at_call 24; exact Calls.quiet_of (rnumber_any _ _ (l.drop (m + 4)) _ B _ (HBD.out.drewN _) (by rw [List.length_drop]; have := HN.out; omega) (by rw [List.length_drop]; have := HN.out; omega))) | (go_at_call 13; exact quiet_eq (rsum_n _ _ _ (l.take (m + 4)) _ B (HBT.out.drewN _) (by rw [List.length_take]; have := HN.out; omega))))
  go_wp2_with fail
  go_ret3
  refine ⟨_, _, ?_, HBO.out, k1 + nq, by rw [HW.out]; simp⟩
  show Ending.returned (.tuple #[.slice (some ⟨b, off + 4, none⟩) (m + 4 - 4) (c - 4), .int .i64 ((m : Int) + 8), .int .i64 0]) = _
  rw [Nat.add_sub_cancel]; rfl

theorem RowsIn.snoc {w : World} {B : Nat} {vs : List Value} {ls : List (List UInt8)} (h : RowsIn w B vs ls) {A : Option Addr} {c n : Nat} {l : List UInt8} (hn : n = l.length) (ho : BytesIn w B A c l) :
    RowsIn w B (vs ++ [.slice A n c]) (ls ++ [l]) := by
  subst hn
  refine ⟨by simp [h.1], fun i hi => ?_⟩
  by_cases hlt : i < ls.length
  · obtain ⟨A', c', h1, h2⟩ := h.2 i hlt
    refine ⟨A', c', ?_, ?_⟩
    · rw [List.getElem?_append_left (by rw [h.1]; exact hlt), List.getElem_append_left hlt]; exact h1
    · rw [List.getElem_append_left hlt]; exact h2
  · have hi' : i = ls.length := by simp at hi; omega
    subst hi'
    refine ⟨A, c, ?_, ?_⟩
    · rw [List.getElem?_append_right (by rw [h.1]; omega), List.getElem_append_right (by omega)]; simp [h.1]
    · rw [List.getElem_append_right (by omega)]; simpa using ho

/-- The rows told so far: 'out' is the call's own, its rows are views of what came in. -/
def ViewSt (w : World) (base B : Nat) (v : Value) (ls : List (List UInt8)) : Prop :=
  ∃ Ao co vs, v = .slice Ao ls.length co ∧ w.ownsRow base 22 1 (.slice Ao ls.length co) ls.length vs ∧ RowsIn w B vs ls

set_option maxHeartbeats 1000000 in
theorem rscan_any (A : Option Addr) (c n : Nat) (l : List UInt8) (w : World) (B : Nat) (h : BytesIn w B A c l) (hB : B ≤ w.heap.size) (hn : n = l.length) (hl : n ≤ 100000000) :
    Calls Tryd.prog 15 #[.slice A n c] w fun e w' => ∃ Ao co vs, e = .returned (.tuple #[.slice Ao (scanL l).length co, .int .i64 (scanAt l : Int)]) ∧ w'.ownsRow w.heap.size 22 1 (.slice Ao (scanL l).length co) (scanL l).length vs ∧ RowsIn w' B vs (scanL l) ∧ Below w.heap.size w w' := by
  obtain ⟨i22, gi, gz0, gz1, gz2⟩ := info_parts Tryd.info22
  have hc1 := h.cap
  have hc2 := h.le
  have hnc : n ≤ c := by omega
  have HN := Lib.hid hn; clear hn
  have HB := Lib.hid h; clear h
  go_enter Tryd.func15, Tryd.ntmps15
  go_wp2
  go_loopw [4, 5] (fun v i wr => ∃ (k : Nat) (ls : List (List UInt8)) (Ao : Option Addr) (co m : Nat), k ≤ n ∧ i = .int .i64 k ∧ v = .slice Ao m co ∧ m ≤ k ∧ Hid (m = ls.length) ∧ Hid (scanL l = ls ++ scanL (l.drop k)) ∧ Hid (scanAt l = k + scanAt (l.drop k)) ∧ Hid (∃ vs, wr.ownsRow w.heap.size 22 1 (.slice Ao m co) m vs ∧ RowsIn wr B vs ls) ∧ Hid (Below w.heap.size w wr)) (fun _ i _ => n - (intOf i).toNat)
  case atStart => exact ⟨0, [], none, 0, 0, Nat.zero_le _, rfl, rfl, Nat.le_refl _, rfl, Lib.hid (by simp), Lib.hid (by simp), ⟨[], World.ownsRow_nil _ _ _ _, rfl, fun i hi => by simp at hi⟩, Lib.hid (Below.refl _ _)⟩
  case round =>
    obtain ⟨k, ls, Ao, co, m, hk, rfl, rfl, hmk, HLS, HL, HA, HW, HBl⟩ := hrel
    have hbw : w.heap.size ≤ wr.heap.size := HBl.out.size
    by_cases hkn : k < n
    · obtain ⟨b, off, rfl, hb, _⟩ := HB.out.at_ (show 0 < l.length by have := HN.out; omega)
      have hbd : BytesIn wr B (some ⟨b, off + k, none⟩) (c - k) (l.drop k) := (HB.out.below HBl.out hB).dropLit (by have := HN.out; omega) (by omega)
      have HBD := Lib.hid hbd; clear hbd
      have HND : Hid (n - k = (l.drop k).length) := Lib.hid (by rw [List.length_drop, ← HN.out])
      obtain ⟨ld, hld⟩ : ∃ ld, ld = l.drop k := ⟨_, rfl⟩
      rw [← hld] at HBD HND HL HA
      have HLD := Lib.hid hld; clear hld
      by_cases hE : lookE ld = 0
      · obtain ⟨p, hp⟩ : ∃ p, p = num4 ld := ⟨_, rfl⟩
        have hok := lookE_ok hE
        rw [← hp] at hok
        have hpn : k + p + 8 ≤ n := by have := HND.out; omega
        have hp6 : p ≤ 65536 := hok.2.1
        have HP := Lib.hid hp; clear hp
        have HE := Lib.hid hE; clear hE hok
        go_wp2_with fail
        refine (rnext_ok _ _ _ ld wr B HBD.out HND.out HE.out).mono ?_
        rw [← HP.out]
        rintro e w' ⟨A2, c2, rfl, hbody, k1, rfl⟩
        have HBO := Lib.hid (hbody.drewN k1); clear hbody
        obtain ⟨vs, ho, hr⟩ := HW.out
        have HO : Hid ((wr.drewN k1).ownsRow w.heap.size 22 1 (.slice Ao m co) m vs) := Lib.hid ho
        have HR : Hid (RowsIn (wr.drewN k1) B vs ls) := Lib.hid ⟨hr.1, fun i hi => by obtain ⟨A, c, h1, h2⟩ := hr.2 i hi; exact ⟨A, c, h1, h2.drewN k1⟩⟩
        have HBl2 := Lib.hid (below_dn (n := k1) HBl.out)
        clear ho hr
        generalize wr.drewN k1 = W at HO HR HBl2 HBO ⊢
        have hWs : w.heap.size ≤ W.heap.size := HBl2.out.size
        go_wp2_with (at_builtin; refine wpList_append_row _ rfl (.tmp 21) (.tmp 23) _ rfl w.heap.size 22 i22 _ 1 24 Tryd.underlying30 gi gz0 gz1 gz2 rfl (by omega) Ao m co vs rfl (HO.out.alloc _) (W.heap.size + 1) (some ⟨W.heap.size, 0, none⟩) 1 1 [.slice A2 p c2] rfl (cellsIn_alloc W #[.slice A2 p c2] 22 (0, 0) 1 1 rfl) (by simp [Value.oneCell']) (by unfold maxLen; omega) (by omega) (by simp; omega) ?_; intro A3 c3 w3 hown3 hg3 hat3; have HO3 := Lib.hid hown3; have HG3 := Lib.hid hg3; clear hown3 hg3 hat3)
        have hb3 : Below w.heap.size w w3 := (HBl2.out.alloc hWs _).grown HG3.out (by simp; omega) (fun q hq => (HO.out.lt q hq).1)
        have hb4 : Below W.heap.size W (W.alloc (.cells #[.slice A2 p c2] 22)) := (Below.refl _ _).alloc (Nat.le_refl _) _
        have hb5 : Chg (OneBlk (Value.ownBlock (.slice Ao m co))) W w3 := ((Chg.refl _ W).alloc _).grown HG3.out (fun q hq => .inr hq)
        have hb6 : Below w.heap.size W w3 := hb5.below hWs fun q hq hS => by have := (HO.out.lt q hS).1; omega
        have hr6 : RowsIn w3 B (vs ++ [.slice A2 p c2]) (ls ++ [bodyOf ld]) := (HR.out.below hb6 hB).snoc (by rw [bodyOf_length HE.out]; exact HP.out) (HBO.out.below hb6 hB)
        have HR6 := Lib.hid hr6
        have HB3 := Lib.hid hb3
        clear hb3 hb4 hb5 hb6 hr6
        go_roundw
        case rel =>
          refine ⟨k + (p + 8), ls ++ [bodyOf ld], A3, c3, m + 1, by omega, by go_num, rfl, by omega, Lib.hid (by simp [HLS.out]), Lib.hid ?_, Lib.hid ?_, ⟨_, HO3.out, HR6.out⟩, HB3⟩
          · rw [HL.out, scanL_ok HE.out, ← HP.out, HLD.out, List.drop_drop]; simp
          · rw [HA.out, scanAt_ok HE.out, ← HP.out, HLD.out, List.drop_drop]; omega
        case measure => simp [intOf]; omega
      · have HE := Lib.hid hE; clear hE
        go_wp2_with fail
        have hE := HE.out
        refine (rnext_no _ _ _ ld wr B HBD.out HND.out hE).mono ?_
        rintro e w' ⟨rfl, k1, rfl⟩
        have hE2 : ((lookE ld : Int) != 0) = true := by rw [bne_iff_ne]; omega
        have HX : Hid (scanL l = ls) := Lib.hid (by rw [HL.out, scanL_no hE]; simp)
        have HY : Hid (scanAt l = k) := Lib.hid (by rw [HA.out, scanAt_no hE]; omega)
        clear hE
        go_wp2_with fail
        go_ret2
        obtain ⟨vs, ho, hr⟩ := HW.out
        rw [HX.out, HY.out, ← HLS.out]
        exact ⟨Ao, co, vs, rfl, ho, ⟨hr.1, fun i hi => by obtain ⟨A, c, h1, h2⟩ := hr.2 i hi; exact ⟨A, c, h1, h2.drewN k1⟩⟩, below_dn HBl.out⟩
    · have hkn' : k = n := by omega
      have hd : l.drop k = [] := List.drop_eq_nil_of_le (by have := HN.out; omega)
      rw [hd] at HL HA
      have HX : Hid (scanL l = ls) := Lib.hid (by rw [HL.out, scanL_no (by decide)]; simp)
      have HY : Hid (scanAt l = k) := Lib.hid (by rw [HA.out, scanAt_no (by decide)]; omega)
      have hkc : c - k ≤ 9223372036854775807 := by omega
      clear hd hkn'
      go_wp2_with fail
      all_goals
        refine (rnext_no _ _ _ [] wr 0 (.emp (by omega)) (by simp; omega) (by decide)).mono ?_
        rintro e w' ⟨rfl, k1, rfl⟩
        rw [show lookE [] = 10 from rfl]
        go_wp2_with fail
        go_ret2
        obtain ⟨vs, ho, hr⟩ := HW.out
        rw [HX.out, HY.out, ← HLS.out]
        exact ⟨Ao, co, vs, rfl, ho, ⟨hr.1, fun i hi => by obtain ⟨A, c, h1, h2⟩ := hr.2 i hi; exact ⟨A, c, h1, h2.drewN k1⟩⟩, below_dn HBl.out⟩
end Go.Proofs.YthocckhpkfcemaaDoor
