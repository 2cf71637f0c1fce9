/- The law FrameNexts: the walk. -/
import Derived.Test.YthocckhpkfcemaaDoorNext
namespace Go.Proofs.YthocckhpkfcemaaDoor
open Go.RowKit

set_option maxHeartbeats 2000000 in
theorem law_nexts (A : Option Addr) (c n : Nat) (l : List UInt8) (w : World) (h : BytesIn w w.heap.size A c l) (hn : n = l.length) (h0 : 0 < w.heap.size) (hh : Hal w) :
    Calls Tryd.prog 6 #[.slice A n c] w fun e w' => e = .returned (.bool true) ∧ Below w.heap.size w w' := by
  have hc1 := h.cap
  have hnc : n ≤ c := by have := h.le; omega
  have HN := Lib.hid hn; clear hn
  have HB := Lib.hid h; clear h
  have HH := Lib.hid hh; clear hh
  go_enter Tryd.func6, Tryd.ntmps6
  go_wp2_with fail
  refine (awake_any w h0 HH.out).mono ?_
  rintro e w1 ⟨rfl, hb1⟩
  have HB1 := Lib.hid hb1
  have hs1 : w.heap.size ≤ w1.heap.size := hb1.size
  clear hb1
  by_cases hbig : 20000 < n
  · go_wp2_with fail
    go_ret
    exact ⟨rfl, HB1.out⟩
  · by_cases hE : lookE l = 0
    · have hok := lookE_ok hE
      have HE := Lib.hid hE; clear hE
      go_wp2_with fail
      refine (next_ok _ _ _ l w1 ((HB.out.below HB1.out (Nat.le_refl _)).more hs1) (HH.out.below HB1.out h0) HN.out (by omega) HE.out).mono ?_
      obtain ⟨m, hm⟩ : ∃ m, m = num4 l := ⟨_, rfl⟩
      rw [← hm] at hok ⊢
      have HM := Lib.hid hm; clear hm
      have hmn : m + 8 ≤ n := by have := HN.out; omega
      clear hok
      rintro e w2 ⟨A1, c1, A2, c2, rfl, hown1, hown2, hb2⟩
      have HB2 := Lib.hid (HB1.out.trans (hb2.mono hs1))
      have hs2 : w.heap.size ≤ w2.heap.size := HB2.out.size
      have HO1 := Lib.hid hown1
      have HO2 := Lib.hid hown2
      clear hown1 hown2 hb2
      go_wp2_with fail
      refine (rnext_ok _ _ _ l w2 w.heap.size (HB.out.below HB2.out (Nat.le_refl _)) HN.out HE.out).mono ?_
      rw [← HM.out]
      rintro e w' ⟨A3, c3, rfl, hbody, k1, rfl⟩
      have hbl := bodyOf_length HE.out
      rw [← HM.out] at hbl
      have z1 : ∀ q, (convert 22 9 (.slice A1 m c1)).run Tryd.prog ((w2.drewN k1).drewN q) = .ok (.string (str (bodyOf l))) ((w2.drewN k1).drewN q) := fun q => run_string (((bytesIn_of_own HO1.out).2.drewN k1).drewN q) hbl.symm 22 5 9 Tryd.underlying22 Tryd.underlying5 Tryd.underlying9
      have z2 : ∀ q, (convert 22 9 (.slice A2 (n - (m + 8)) c2)).run Tryd.prog ((w2.drewN k1).drewN q) = .ok (.string (str (l.drop (m + 8)))) ((w2.drewN k1).drewN q) := fun q => run_string (((bytesIn_of_own HO2.out).2.drewN k1).drewN q) (bytesIn_of_own HO2.out).1 22 5 9 Tryd.underlying22 Tryd.underlying5 Tryd.underlying9
      have z3 : ∀ q, (convert 22 9 (.slice A3 m c3)).run Tryd.prog ((w2.drewN k1).drewN q) = .ok (.string (str (bodyOf l))) ((w2.drewN k1).drewN q) := fun q => run_string ((hbody.drewN k1).drewN q) hbl.symm 22 5 9 Tryd.underlying22 Tryd.underlying5 Tryd.underlying9
      have hrest : BytesIn w2 w.heap.size (if c = m + 8 then A else A.map (·.add (m + 8))) (c - (m + 8)) (l.drop (m + 8)) := (HB.out.below HB2.out (Nat.le_refl _)).drop (by have := HN.out; omega)
      have HBd := Lib.hid (below_dn (n := k1) HB2.out)
      have HZ1 := Lib.hid z1
      have HZ2 := Lib.hid z2
      have HZ3 := Lib.hid z3
      have HR := Lib.hid (hrest.drewN k1)
      clear z1 z2 z3 hbl hbody hrest
      have hi0 : (0 : Int) ≤ (m : Int) + 8 := by omega
      have hi1 : (m : Int) + 8 ≤ (n : Int) := by omega
      have hi2 : ((m : Int) + 8).toNat = m + 8 := by omega
      obtain ⟨b, off, rfl, hb, _⟩ := HB.out.at_ (show 0 < l.length by have := HN.out; omega)
      have z1 := HZ1.out
      have z2 := HZ2.out
      have z3 := HZ3.out
      go_wp2_with fail
      generalize w2.drewN k1 = W at HBd HR z1 z2 z3 ⊢
      obtain ⟨sb, hsb⟩ : ∃ s, s = str (bodyOf l) := ⟨_, rfl⟩
      obtain ⟨sr, hsr⟩ : ∃ s, s = str (l.drop (m + 8)) := ⟨_, rfl⟩
      rw [← hsb] at z1 z3
      rw [← hsr] at z2
      have HSR := Lib.hid hsr
      clear hsb hsr HZ1 HZ2 HZ3
      by_cases hcn : c = m + 8
      · subst hcn
        obtain rfl : n = m + 8 := by omega
        have hnil : l.drop (m + 8) = [] := List.drop_eq_nil_of_le (by have := HN.out; omega)
        have z4 : ∀ q, (convert 22 9 (.slice (some ⟨b, off, none⟩) 0 0)).run Tryd.prog (W.drewN q) = .ok (.string sr) (W.drewN q) := fun q => by
          rw [HSR.out, hnil]; exact run_string (B := 0) (.emp (by omega)) rfl 22 5 9 Tryd.underlying22 Tryd.underlying5 Tryd.underlying9
        clear hnil
        simp only [Nat.sub_self] at z2
        go_quiet (fail)
        go_wp2_with fail
        go_ret
        exact ⟨rfl, below_dn HBd.out⟩
      · have z4 : ∀ q, (convert 22 9 (.slice (some ⟨b, off + (m + 8), none⟩) (n - (m + 8)) (c - (m + 8)))).run Tryd.prog (W.drewN q) = .ok (.string sr) (W.drewN q) := fun q => by
          have := HR.out
          rw [if_neg hcn, Option.map_some, Addr.add_lit] at this
          rw [HSR.out]; exact run_string (this.drewN q) (by rw [List.length_drop, ← HN.out]) 22 5 9 Tryd.underlying22 Tryd.underlying5 Tryd.underlying9
        go_quiet (fail)
        go_wp2_with fail
        go_ret
        exact ⟨rfl, below_dn HBd.out⟩
    · have HE := Lib.hid hE
      have hE2 : ((lookE l : Int) != 0) = true := by rw [bne_iff_ne]; omega
      clear hE
      go_wp2_with fail
      refine (next_no _ _ _ l w1 w.heap.size (HB.out.below HB1.out (Nat.le_refl _)) (HH.out.below HB1.out h0) HN.out HE.out).mono ?_
      rintro e w' ⟨rfl, k1, rfl⟩
      go_wp2_with fail
      refine (rnext_no _ _ _ l (w1.drewN k1) w.heap.size ((HB.out.below HB1.out (Nat.le_refl _)).drewN k1) HN.out HE.out).mono ?_
      rintro e w' ⟨rfl, k2, rfl⟩
      have HBd := Lib.hid (below_dn (n := k2) (below_dn (n := k1) HB1.out))
      go_wp2_with fail
      go_ret
      exact ⟨rfl, by simpa using HBd.out⟩
end Go.Proofs.YthocckhpkfcemaaDoor
