/- The first body. -/
import Derived.Test.YtkenaoejijpgpaaDoorFrmA
namespace Go.Proofs.YtkenaoejijpgpaaDoor
open Go.RowKit

def bodyOf (l : List UInt8) : List UInt8 := (l.drop 4).take (num4 l)
set_option maxRecDepth 100000 in
theorem lookE_ok {l : List UInt8} (h : lookE l = 0) : 4 ≤ l.length ∧ num4 l ≤ 65536 ∧ num4 l + 8 ≤ l.length := by
  unfold lookE at h
  by_cases h1 : l.length < 4
  · rw [if_pos h1] at h; cases h
  rw [if_neg h1] at h
  by_cases h2 : 65536 < num4 l
  · rw [if_pos h2] at h; cases h
  rw [if_neg h2] at h
  by_cases h3 : l.length < num4 l + 8
  · rw [if_pos h3] at h; cases h
  omega
set_option maxRecDepth 100000 in
theorem lookN_ok {l : List UInt8} (h : lookE l = 0) : lookN l = num4 l + 4 := by unfold lookN; rw [if_pos h]
theorem bodyOf_length {l : List UInt8} (h : lookE l = 0) : (bodyOf l).length = num4 l := by
  have := lookE_ok h
  unfold bodyOf; rw [List.length_take, List.length_drop]; omega


set_option maxRecDepth 100000 in
set_option maxHeartbeats 1000000 in
theorem next_no (A : Option Addr) (c n : Nat) (l : List UInt8) (w : World) (B : Nat) (h : BytesIn w B A c l) (hh : Hal w) (hn : n = l.length) (hE : ¬ lookE l = 0) :
    Calls Tryd.prog 41 #[.slice A n c] w fun e w' => e = .returned (.tuple #[.slice none 0 0, .slice none 0 0, .int .i64 (lookE l : Int)]) ∧ ∃ n, w' = w.drewN n := by
  have HN := Lib.hid hn; clear hn
  have hE2 : ((lookE l : Int) != 0) = true := by rw [bne_iff_ne]; omega
  clear hE
  go_enter Tryd.func41, Tryd.ntmps41
  go_wp2_with fail
  refine (look_any _ _ _ l w B h hh HN.out).mono ?_
  rintro e w' ⟨rfl, k1, rfl⟩
  go_wp2_with fail
  go_ret3
  exact ⟨rfl, k1, rfl⟩

theorem bel1 (W : World) (N : Nat) (h : N ≤ W.heap.size) : Below N W (W.alloc (.cells #[] 5)).drew := ((Below.refl _ W).alloc h _).drew
theorem bel2 (W : World) (N : Nat) (h : N ≤ W.heap.size) : Below N W ((W.alloc (.cells #[] 5)).alloc (.cells #[] 5)).drew := (((Below.refl _ W).alloc h _).alloc (by simp; omega) _).drew
theorem ow1 (W : World) (N : Nat) (h : N ≤ W.heap.size) : (W.alloc (.cells #[] 5)).drew.ownsRow N 5 1 (.slice (some ⟨W.heap.size, 0, none⟩) 0 0) 0 [] := own_alloc W #[] 5 1 0 N rfl (by unfold maxLen; omega) h
theorem ow2 (W : World) (N : Nat) (h : N ≤ W.heap.size) : ((W.alloc (.cells #[] 5)).alloc (.cells #[] 5)).drew.ownsRow N 5 1 (.slice (some ⟨W.heap.size, 0, none⟩) 0 0) 0 [] := (ow1 W N h).alloc _
theorem ow3 (W : World) (N : Nat) (h : N ≤ W.heap.size) : ((W.alloc (.cells #[] 5)).alloc (.cells #[] 5)).drew.ownsRow N 5 1 (.slice (some ⟨W.heap.size + 1, 0, none⟩) 0 0) 0 [] := by
  have := own_alloc (W.alloc (.cells #[] 5)) #[] 5 1 0 N rfl (by unfold maxLen; omega) (by simp; omega)
  exact (by simpa using this : ((W.alloc (.cells #[] 5)).alloc (.cells #[] 5)).ownsRow N 5 1 (.slice (some ⟨W.heap.size + 1, 0, none⟩) 0 0) 0 [])
theorem ow4 (W : World) (N : Nat) (h : N ≤ W.heap.size) : (W.alloc (.cells #[] 5)).ownsRow N 5 1 (.slice (some ⟨W.heap.size, 0, none⟩) 0 0) 0 [] := own_alloc W #[] 5 1 0 N rfl (by unfold maxLen; omega) h
theorem siz (W : World) (N : Nat) (h : N ≤ W.heap.size) : N ≤ (W.alloc (.cells #[] 5)).heap.size := by simp; omega
theorem siz2 (W : World) (N : Nat) (h : N ≤ W.heap.size) : N ≤ ((W.alloc (.cells #[] 5)).alloc (.cells #[] 5)).heap.size := by simp; omega

set_option maxRecDepth 100000 in
set_option maxHeartbeats 2000000 in
theorem next_ok (A : Option Addr) (c n : Nat) (l : List UInt8) (w : World) (h : BytesIn w w.heap.size A c l) (hh : Hal w) (hn : n = l.length) (hl : n ≤ 100000000) (hE : lookE l = 0) :
    Calls Tryd.prog 41 #[.slice A n c] w fun e w' => ∃ A1 c1 A2 c2, e = .returned (.tuple #[.slice A1 (num4 l) c1, .slice A2 (n - (num4 l + 8)) c2, .int .i64 0]) ∧
      w'.ownsRow w.heap.size 5 1 (.slice A1 (num4 l) c1) (num4 l) (cells8 (bodyOf l)) ∧ w'.ownsRow w.heap.size 5 1 (.slice A2 (n - (num4 l + 8)) c2) (n - (num4 l + 8)) (cells8 (l.drop (num4 l + 8))) ∧ Below w.heap.size w w' := by
  obtain ⟨i5, hi, hz0, hz1, hz2⟩ := info_parts Tryd.info5
  have hc1 := h.cap
  have hc2 := h.le
  have hnc : n ≤ c := by omega
  have hok := lookE_ok hE
  have hlN := lookN_ok hE
  have hbl := bodyOf_length hE
  have HN := Lib.hid hn; clear hn
  have HE := Lib.hid hE; clear hE
  have HL := look_any A c n l w w.heap.size h hh HN.out
  rw [HE.out, hlN] at HL
  have HB := Lib.hid h; clear h hh
  obtain ⟨m, hm⟩ : ∃ m, m = num4 l := ⟨_, rfl⟩
  rw [← hm] at hok hbl HL ⊢
  have hnm : m + 8 ≤ n := by have := HN.out; omega
  have hm6 : m ≤ 65536 := hok.2.1
  have HM := Lib.hid hm; clear hm
  have HBL := Lib.hid hbl; clear hbl
  clear hok hlN
  obtain ⟨b, off, rfl, hb, _⟩ := HB.out.at_ (show 0 < l.length by have := HN.out; omega)
  have hbody : BytesIn w w.heap.size (some ⟨b, off + 4, none⟩) (c - 4) (bodyOf l) := by
    unfold bodyOf; exact (HB.out.dropLit (k := 4) (by have := HN.out; omega) (by omega)).take
  have HBO := Lib.hid hbody; clear hbody
  have HRE := Lib.hid (HB.out.drop (k := m + 8) (by have := HN.out; omega))
  have HRL : Hid (n - (m + 8) = (l.drop (m + 8)).length) := Lib.hid (by rw [List.length_drop, ← HN.out])
  have HLL := Lib.hid HL; clear HL
  go_enter Tryd.func41, Tryd.ntmps41
  go_wp2_with fail
  refine HLL.out.mono ?_
  rintro e w' ⟨rfl, k1, rfl⟩
  clear HLL
  have HBO1 := Lib.hid (HBO.out.drewN k1)
  have HRE1 := Lib.hid (HRE.out.drewN k1)
  go_wp2_with fail
  have hsz : w.heap.size = (w.drewN k1).heap.size := rfl
  have HSZ := Lib.hid hsz; clear hsz
  have hbt : Below w.heap.size w (w.drewN k1) := below_dn (Below.refl _ _)
  have HBT := Lib.hid hbt; clear hbt
  generalize w.drewN k1 = W at HBO1 HRE1 HSZ HBT ⊢
  have f1 : (0 : Int) ≤ (m : Int) + 4 := by omega
  have f2 : (4 : Int) ≤ (m : Int) + 4 := by omega
  have f3 : ((m : Int) + 4).toNat = m + 4 := by omega
  have f4 : max ((m : Int) + 4) 0 = (m : Int) + 4 := by omega
  have gw : IntKind.i64.wrap ((m : Int) + 4 + 4) = (m : Int) + 8 := by rw [IntKind.wrap_i64]; omega
  have g1 : (0 : Int) ≤ (m : Int) + 8 := by omega
  have g2 : (m : Int) + 8 ≤ (n : Int) := by omega
  have g3 : ((m : Int) + 8).toNat = m + 8 := by omega
  have f5 : (m : Int) + 4 ≤ (c : Int) := by omega
  have f6 : ¬ c = 4 := by omega
  have hNW : w.heap.size ≤ W.heap.size := Nat.le_of_eq HSZ.out
  have hmx : 0 + m ≤ maxLen := by unfold maxLen; omega
  have hmb : (0 + m) * 1 ≤ 140737488355328 := by omega
  have hnx : 0 + (n - (m + 8)) ≤ maxLen := by unfold maxLen; omega
  have hnb : (0 + (n - (m + 8))) * 1 ≤ 140737488355328 := by omega
  have HMX := Lib.hid hmx
  have HMB := Lib.hid hmb
  have HNX := Lib.hid hnx
  have HNB := Lib.hid hnb
  clear hmx hmb hnx hnb
  by_cases hcn : c = m + 8
  · subst hcn
    obtain rfl : n = m + 8 := by omega
    have hnil : l.drop (m + 8) = [] := List.drop_eq_nil_of_le (by have := HN.out; omega)
    have HNIL := Lib.hid hnil; clear hnil
    rw [Nat.sub_self] at HNX HNB
    clear HRE HRE1
    go_region_law
      (first
        | (refine step_append_row _ rfl (.tmp 15) (.tmp 18) _ rfl w.heap.size 5 i5 _ 1 1 Tryd.underlying24 hi hz0 hz1 hz2 rfl (by omega) _ 0 0 [] rfl (by first | exact ow1 W _ hNW | exact ow2 W _ hNW | exact ow3 W _ hNW) w.heap.size _ m _ (cells8 (bodyOf l)) rfl (by first | exact (HBO1.out.below (bel1 W _ hNW) (Nat.le_refl _)).cellsN HBL.out.symm | exact (HBO1.out.below (bel2 W _ hNW) (Nat.le_refl _)).cellsN HBL.out.symm) (cells8_one _) HMX.out HMB.out (by first | exact siz W _ hNW | exact siz2 W _ hNW) ?_; intro A1 d1 w1 hown1 hg1 hat1; have HT1 := Lib.hid hat1; clear hat1; have hbw1 : Below w.heap.size W w1 := (by first | exact (bel1 W _ hNW).grown hg1 (siz W _ hNW) (fun k hk => (ow1 W _ hNW).lt k hk |>.1) | exact (bel2 W _ hNW).grown hg1 (siz2 W _ hNW) (fun k hk => (ow2 W _ hNW).lt k hk |>.1) | exact (bel2 W _ hNW).grown hg1 (siz2 W _ hNW) (fun k hk => (ow3 W _ hNW).lt k hk |>.1)); have hN1 : w.heap.size ≤ w1.heap.size := Nat.le_trans hNW hbw1.size)
        | (refine step_append_row _ rfl (.tmp 20) (.tmp 24) _ rfl w.heap.size 5 i5 _ 1 1 Tryd.underlying24 hi hz0 hz1 hz2 rfl (by omega) _ 0 0 [] rfl (by first | exact ow4 w1 _ hN1 | exact (ow3 W _ hNW).kept hg1 (.inr (by simp [Value.ownBlock])) | exact (ow2 W _ hNW).kept hg1 (.inr (by simp [Value.ownBlock]))) w.heap.size _ 0 _ (cells8 []) rfl ⟨rfl, .inl rfl⟩ (cells8_one _) HNX.out HNB.out (by first | exact hN1 | exact siz w1 _ hN1) ?_; intro A2 d2 w2 hown2 hg2 hat2; have HT2 := Lib.hid hat2; clear hat2))
    all_goals
      have ho1 : w2.ownsRow w.heap.size 5 1 (.slice A1 m d1) m (cells8 (bodyOf l)) := by
        first
          | exact own_norm ((hown1.alloc _).kept hg2 (.inr (fun e => Nat.lt_irrefl _ (hown1.lt w1.heap.size e).2)))
          | exact own_norm (hown1.kept hg2 (.inr (fun e => by rcases HT1.out with e2 | e2 <;> rw [e2] at e <;> simp [Value.ownBlock] at e <;> omega)))
      have hb2 : Below w.heap.size W w2 := by
        first
          | exact (hbw1.alloc hN1 _).grown hg2 (siz w1 _ hN1) (fun k hk => by simp only [Value.ownBlock, Option.some.injEq] at hk; omega)
          | exact hbw1.grown hg2 hN1 (fun k hk => by simp only [Value.ownBlock, Option.some.injEq] at hk; omega)
      have HO1 := Lib.hid ho1
      have HO2 := Lib.hid (own_norm hown2)
      have HB2 := Lib.hid (HBT.out.trans hb2)
      clear ho1 hb2 hown1 hown2 hg1 hg2 HT1 HT2 hbw1
      go_wp2_with fail
      go_ret3
      rw [Nat.sub_self, HNIL.out]
      exact ⟨A1, d1, A2, d2, rfl, HO1.out, HO2.out, HB2.out⟩
  · have HR2 : Hid (BytesIn W w.heap.size (some ⟨b, off + (m + 8), none⟩) (c - (m + 8)) (l.drop (m + 8))) := Lib.hid (by have := HRE1.out; rwa [if_neg hcn, Option.map_some, Addr.add_lit] at this)
    clear HRE HRE1
    go_region_law
      (first
        | (refine step_append_row _ rfl (.tmp 15) (.tmp 18) _ rfl w.heap.size 5 i5 _ 1 1 Tryd.underlying24 hi hz0 hz1 hz2 rfl (by omega) _ 0 0 [] rfl (by first | exact ow1 W _ hNW | exact ow2 W _ hNW | exact ow3 W _ hNW) w.heap.size _ m _ (cells8 (bodyOf l)) rfl (by first | exact (HBO1.out.below (bel1 W _ hNW) (Nat.le_refl _)).cellsN HBL.out.symm | exact (HBO1.out.below (bel2 W _ hNW) (Nat.le_refl _)).cellsN HBL.out.symm) (cells8_one _) HMX.out HMB.out (by first | exact siz W _ hNW | exact siz2 W _ hNW) ?_; intro A1 d1 w1 hown1 hg1 hat1; have HT1 := Lib.hid hat1; clear hat1; have hbw1 : Below w.heap.size W w1 := (by first | exact (bel1 W _ hNW).grown hg1 (siz W _ hNW) (fun k hk => (ow1 W _ hNW).lt k hk |>.1) | exact (bel2 W _ hNW).grown hg1 (siz2 W _ hNW) (fun k hk => (ow2 W _ hNW).lt k hk |>.1) | exact (bel2 W _ hNW).grown hg1 (siz2 W _ hNW) (fun k hk => (ow3 W _ hNW).lt k hk |>.1)); have hN1 : w.heap.size ≤ w1.heap.size := Nat.le_trans hNW hbw1.size)
        | (refine step_append_row _ rfl (.tmp 20) (.tmp 24) _ rfl w.heap.size 5 i5 _ 1 1 Tryd.underlying24 hi hz0 hz1 hz2 rfl (by omega) _ 0 0 [] rfl (by first | exact ow4 w1 _ hN1 | exact (ow3 W _ hNW).kept hg1 (.inr (by simp [Value.ownBlock])) | exact (ow2 W _ hNW).kept hg1 (.inr (by simp [Value.ownBlock]))) w.heap.size _ (n - (m + 8)) _ (cells8 (l.drop (m + 8))) rfl (by first | exact (HR2.out.below hbw1 (Nat.le_refl _)).cellsN HRL.out | exact (HR2.out.below (hbw1.alloc hN1 _) (Nat.le_refl _)).cellsN HRL.out) (cells8_one _) HNX.out HNB.out (by first | exact hN1 | exact siz w1 _ hN1) ?_; intro A2 d2 w2 hown2 hg2 hat2; have HT2 := Lib.hid hat2; clear hat2))
    all_goals
      have ho1 : w2.ownsRow w.heap.size 5 1 (.slice A1 m d1) m (cells8 (bodyOf l)) := by
        first
          | exact own_norm ((hown1.alloc _).kept hg2 (.inr (fun e => Nat.lt_irrefl _ (hown1.lt w1.heap.size e).2)))
          | exact own_norm (hown1.kept hg2 (.inr (fun e => by rcases HT1.out with e2 | e2 <;> rw [e2] at e <;> simp [Value.ownBlock] at e <;> omega)))
      have hb2 : Below w.heap.size W w2 := by
        first
          | exact (hbw1.alloc hN1 _).grown hg2 (siz w1 _ hN1) (fun k hk => by simp only [Value.ownBlock, Option.some.injEq] at hk; omega)
          | exact hbw1.grown hg2 hN1 (fun k hk => by simp only [Value.ownBlock, Option.some.injEq] at hk; omega)
      have HO1 := Lib.hid ho1
      have HO2 := Lib.hid (own_norm hown2)
      have HB2 := Lib.hid (HBT.out.trans hb2)
      clear ho1 hb2 hown1 hown2 hg1 hg2 HT1 HT2 hbw1
      go_wp2_with fail
      go_ret3
      exact ⟨A1, d1, A2, d2, rfl, HO1.out, HO2.out, HB2.out⟩

end Go.Proofs.YtkenaoejijpgpaaDoor
