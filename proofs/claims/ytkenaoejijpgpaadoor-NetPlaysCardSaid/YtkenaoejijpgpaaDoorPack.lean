/- A message is packed. -/
import Derived.Test.YtkenaoejijpgpaaDoorPkt
import Derived.Deep.WholeRow
import Derived.Deep.Cut
namespace Go.Proofs.YtkenaoejijpgpaaDoor
open Go.RowKit

theorem zc {w : World} {B c n : Nat} {A : Option Addr} {l : List UInt8} (h : BytesIn w B A c l) (hn : n = l.length) : (convert 24 9 (.slice A n c)).run Tryd.prog w = .ok (.string (str l)) w :=
  run_string h hn 24 5 9 Tryd.underlying24 Tryd.underlying5 Tryd.underlying9
set_option maxRecDepth 100000 in
set_option maxHeartbeats 8000000 in
theorem pack_no (v : Nat → Int) (A : Option Addr) (n c : Nat) (t : List UInt8) (w : World) (hb : BytesIn w w.heap.size A c t) (hn : n = t.length) (hh : Hal w) (h0 : 0 < w.heap.size) (hok : ¬ OkM v n) :
    Calls Tryd.prog 13 #[.agg #[.int .i64 (v 0), .int .i64 (v 1), .int .i64 (v 2), .int .i64 (v 3), .int .i64 (v 4), .int .i64 (v 5), .int .i64 (v 6), .int .i64 (v 7), .int .i64 (v 8), .int .i64 (v 9), .int .i64 (v 10), .int .i64 (v 11), .int .i64 (v 12), .int .i64 (v 13), .int .i64 (v 14), .int .i64 (v 15), .int .i64 (v 16), .slice A n c, .int .i64 (v 18), .int .i64 (v 19), .int .i64 (v 20)]] w fun e w' => e = .returned (.slice none 0 0) ∧ Below w.heap.size w w' := by
  have hm : MAt (w.alloc (.cells #[.int .i64 (v 0), .int .i64 (v 1), .int .i64 (v 2), .int .i64 (v 3), .int .i64 (v 4), .int .i64 (v 5), .int .i64 (v 6), .int .i64 (v 7), .int .i64 (v 8), .int .i64 (v 9), .int .i64 (v 10), .int .i64 (v 11), .int .i64 (v 12), .int .i64 (v 13), .int .i64 (v 14), .int .i64 (v 15), .int .i64 (v 16), .slice A n c, .int .i64 (v 18), .int .i64 (v 19), .int .i64 (v 20)] 29)) w.heap.size v A n c := heap_alloc_new w _
  have hal : Below w.heap.size w (w.alloc (.cells #[.int .i64 (v 0), .int .i64 (v 1), .int .i64 (v 2), .int .i64 (v 3), .int .i64 (v 4), .int .i64 (v 5), .int .i64 (v 6), .int .i64 (v 7), .int .i64 (v 8), .int .i64 (v 9), .int .i64 (v 10), .int .i64 (v 11), .int .i64 (v 12), .int .i64 (v 13), .int .i64 (v 14), .int .i64 (v 15), .int .i64 (v 16), .slice A n c, .int .i64 (v 18), .int .i64 (v 19), .int .i64 (v 20)] 29)) := (Below.refl w.heap.size w).alloc (Nat.le_refl _) _
  have HM0 := Lib.hid hm
  have HB0 := Lib.hid hal
  have HT0 := Lib.hid (hb.below hal (Nat.le_refl _))
  have HH0 := Lib.hid (hh.below hal h0)
  obtain ⟨S, hS⟩ : ∃ S, S = w.heap.size := ⟨_, rfl⟩
  have hs0 : S < (w.alloc (.cells #[.int .i64 (v 0), .int .i64 (v 1), .int .i64 (v 2), .int .i64 (v 3), .int .i64 (v 4), .int .i64 (v 5), .int .i64 (v 6), .int .i64 (v 7), .int .i64 (v 8), .int .i64 (v 9), .int .i64 (v 10), .int .i64 (v 11), .int .i64 (v 12), .int .i64 (v 13), .int .i64 (v 14), .int .i64 (v 15), .int .i64 (v 16), .slice A n c, .int .i64 (v 18), .int .i64 (v 19), .int .i64 (v 20)] 29)).heap.size := by simp [hS]
  have HSW : Hid (w.heap.size = S) := Lib.hid hS.symm
  have HOK := Lib.hid hok
  have HN := Lib.hid hn
  have hS0 : 0 < S := by omega
  clear hm hal hb hn hh hok h0
  go_enter Tryd.func13, Tryd.ntmps13
  go_upto_region 1 with fail
  rw [← hS]
  rw [← hS] at HM0 HB0 HT0
  clear hS
  generalize w.alloc (.cells #[.int .i64 (v 0), .int .i64 (v 1), .int .i64 (v 2), .int .i64 (v 3), .int .i64 (v 4), .int .i64 (v 5), .int .i64 (v 6), .int .i64 (v 7), .int .i64 (v 8), .int .i64 (v 9), .int .i64 (v 10), .int .i64 (v 11), .int .i64 (v 12), .int .i64 (v 13), .int .i64 (v 14), .int .i64 (v 15), .int .i64 (v 16), .slice A n c, .int .i64 (v 18), .int .i64 (v 19), .int .i64 (v 20)] 29) = w0 at HM0 HB0 hs0 HT0 HH0 ⊢
  have HMU := Lib.hid (show w0.heap[S]? = some (.cells #[.int .i64 (v 0), .int .i64 (v 1), .int .i64 (v 2), .int .i64 (v 3), .int .i64 (v 4), .int .i64 (v 5), .int .i64 (v 6), .int .i64 (v 7), .int .i64 (v 8), .int .i64 (v 9), .int .i64 (v 10), .int .i64 (v 11), .int .i64 (v 12), .int .i64 (v 13), .int .i64 (v 14), .int .i64 (v 15), .int .i64 (v 16), .slice A n c, .int .i64 (v 18), .int .i64 (v 19), .int .i64 (v 20)] 29 (0, 0)) from HM0.out)
  go_wp2_with (refine wpList_load_row rfl 29 _ rfl S rfl 29 _ (0, 0) _ HMU.out Tryd.underlying29 rfl (by kernel_rfl) ?_)
  clear HMU
  refine (check_any v A n c w0).mono ?_
  rintro e w1 ⟨b, rfl, hbk, hb⟩
  have HB1 := Lib.hid (HB0.out.trans (hb.mono (by omega)))
  have hs1 : S < w1.heap.size := Nat.lt_of_lt_of_le hs0 hb.size
  obtain rfl : b = false := by
    cases b
    · rfl
    · exact absurd (hbk.1 rfl) HOK.out
  clear hbk hb HM0 HB0 HT0 HH0
  go_wp2_with fail
  go_ret
  exact ⟨rfl, by rw [HSW.out]; exact HB1.out⟩
set_option maxRecDepth 100000 in
set_option maxHeartbeats 8000000 in
theorem pack_ok (v : Nat → Int) (A : Option Addr) (n c : Nat) (t : List UInt8) (w : World) (hb : BytesIn w w.heap.size A c t) (hn : n = t.length) (hh : Hal w) (h0 : 0 < w.heap.size) (hok : OkM v n) :
    Calls Tryd.prog 13 #[.agg #[.int .i64 (v 0), .int .i64 (v 1), .int .i64 (v 2), .int .i64 (v 3), .int .i64 (v 4), .int .i64 (v 5), .int .i64 (v 6), .int .i64 (v 7), .int .i64 (v 8), .int .i64 (v 9), .int .i64 (v 10), .int .i64 (v 11), .int .i64 (v 12), .int .i64 (v 13), .int .i64 (v 14), .int .i64 (v 15), .int .i64 (v 16), .slice A n c, .int .i64 (v 18), .int .i64 (v 19), .int .i64 (v 20)]] w fun e w' => ∃ A2 c2, e = .returned (.slice A2 ((bodyV v t).length + 8) c2) ∧ w'.ownsRow w.heap.size 5 1 (.slice A2 ((bodyV v t).length + 8) c2) ((bodyV v t).length + 8) (cells8 (frameOf (bodyV v t))) ∧ Below w.heap.size w w' := by
  have hm : MAt (w.alloc (.cells #[.int .i64 (v 0), .int .i64 (v 1), .int .i64 (v 2), .int .i64 (v 3), .int .i64 (v 4), .int .i64 (v 5), .int .i64 (v 6), .int .i64 (v 7), .int .i64 (v 8), .int .i64 (v 9), .int .i64 (v 10), .int .i64 (v 11), .int .i64 (v 12), .int .i64 (v 13), .int .i64 (v 14), .int .i64 (v 15), .int .i64 (v 16), .slice A n c, .int .i64 (v 18), .int .i64 (v 19), .int .i64 (v 20)] 29)) w.heap.size v A n c := heap_alloc_new w _
  have hal : Below w.heap.size w (w.alloc (.cells #[.int .i64 (v 0), .int .i64 (v 1), .int .i64 (v 2), .int .i64 (v 3), .int .i64 (v 4), .int .i64 (v 5), .int .i64 (v 6), .int .i64 (v 7), .int .i64 (v 8), .int .i64 (v 9), .int .i64 (v 10), .int .i64 (v 11), .int .i64 (v 12), .int .i64 (v 13), .int .i64 (v 14), .int .i64 (v 15), .int .i64 (v 16), .slice A n c, .int .i64 (v 18), .int .i64 (v 19), .int .i64 (v 20)] 29)) := (Below.refl w.heap.size w).alloc (Nat.le_refl _) _
  have HM0 := Lib.hid hm
  have HB0 := Lib.hid hal
  have HT0 := Lib.hid (hb.below hal (Nat.le_refl _))
  have HH0 := Lib.hid (hh.below hal h0)
  obtain ⟨S, hS⟩ : ∃ S, S = w.heap.size := ⟨_, rfl⟩
  have hs0 : S < (w.alloc (.cells #[.int .i64 (v 0), .int .i64 (v 1), .int .i64 (v 2), .int .i64 (v 3), .int .i64 (v 4), .int .i64 (v 5), .int .i64 (v 6), .int .i64 (v 7), .int .i64 (v 8), .int .i64 (v 9), .int .i64 (v 10), .int .i64 (v 11), .int .i64 (v 12), .int .i64 (v 13), .int .i64 (v 14), .int .i64 (v 15), .int .i64 (v 16), .slice A n c, .int .i64 (v 18), .int .i64 (v 19), .int .i64 (v 20)] 29)).heap.size := by simp [hS]
  have HSW : Hid (w.heap.size = S) := Lib.hid hS.symm
  have HOK := Lib.hid hok
  have HN := Lib.hid hn
  have hS0 : 0 < S := by omega
  clear hm hal hb hn hh hok h0
  go_enter Tryd.func13, Tryd.ntmps13
  go_upto_region 1 with fail
  rw [← hS]
  rw [← hS] at HM0 HB0 HT0
  clear hS
  generalize w.alloc (.cells #[.int .i64 (v 0), .int .i64 (v 1), .int .i64 (v 2), .int .i64 (v 3), .int .i64 (v 4), .int .i64 (v 5), .int .i64 (v 6), .int .i64 (v 7), .int .i64 (v 8), .int .i64 (v 9), .int .i64 (v 10), .int .i64 (v 11), .int .i64 (v 12), .int .i64 (v 13), .int .i64 (v 14), .int .i64 (v 15), .int .i64 (v 16), .slice A n c, .int .i64 (v 18), .int .i64 (v 19), .int .i64 (v 20)] 29) = w0 at HM0 HB0 hs0 HT0 HH0 ⊢
  have HMU := Lib.hid (show w0.heap[S]? = some (.cells #[.int .i64 (v 0), .int .i64 (v 1), .int .i64 (v 2), .int .i64 (v 3), .int .i64 (v 4), .int .i64 (v 5), .int .i64 (v 6), .int .i64 (v 7), .int .i64 (v 8), .int .i64 (v 9), .int .i64 (v 10), .int .i64 (v 11), .int .i64 (v 12), .int .i64 (v 13), .int .i64 (v 14), .int .i64 (v 15), .int .i64 (v 16), .slice A n c, .int .i64 (v 18), .int .i64 (v 19), .int .i64 (v 20)] 29 (0, 0)) from HM0.out)
  go_wp2_with (refine wpList_load_row rfl 29 _ rfl S rfl 29 _ (0, 0) _ HMU.out Tryd.underlying29 rfl (by kernel_rfl) ?_)
  clear HMU
  refine (check_any v A n c w0).mono ?_
  rintro e w1 ⟨b, rfl, hbk, hb⟩
  have HB1 := Lib.hid (HB0.out.trans (hb.mono (by omega)))
  have hs1 : S < w1.heap.size := Nat.lt_of_lt_of_le hs0 hb.size
  obtain rfl : b = true := hbk.2 HOK.out
  have HM1 := Lib.hid (HM0.out.below hb hs0)
  have HT1 := Lib.hid (HT0.out.below (hb.mono (show S ≤ _ by omega)) (Nat.le_refl _))
  have HH1 := Lib.hid (HH0.out.below hb (show 0 < _ by omega))
  clear hbk hb HM0 HB0 HT0 HH0 hs0
  have hin := okM_in HOK.out
  have HIN := Lib.hid hin.2
  have m0 := cellb (i := 0) HM1.out rfl
  go_wp2_with fail
  clear m0
  refine (ei_any none 0 0 [] (v 0) w1 (.emp (by omega)) rfl (by omega) hin.1).mono ?_
  rintro e w2 ⟨A2, c2, rfl, ho, hb⟩
  have hv2 := vb_len10 (zz (v 0)) (zz_lt _ hin.1.1 hin.1.2)
  have hby := (bytesIn_of_own ho).2
  rw [List.nil_append] at hby
  obtain ⟨n2, hn2⟩ : ∃ x, x = 0 + (vb (zz (v 0))).length := ⟨_, rfl⟩
  rw [← hn2]
  have hn2' : n2 = (vb (zz (v 0))).length := by omega
  have hn2b : n2 ≤ 10 := by omega
  have HN2 := Lib.hid hn2'
  have HY2 := Lib.hid hby
  have HM2 := Lib.hid (HM1.out.below hb hs1)
  have HT2 := Lib.hid (HT1.out.below (hb.mono (show S ≤ _ by omega)) (Nat.le_refl _))
  have HH2 := Lib.hid (HH1.out.below hb (show 0 < _ by omega))
  have HB2 := Lib.hid (HB1.out.trans (hb.mono (by omega)))
  have hs2 : S < w2.heap.size := Nat.lt_of_lt_of_le hs1 hb.size
  clear hv2 hby hn2 hn2' ho hb HM1 HT1 HH1 HB1 hs1 hin
  have hlen := flK_len (v 0)
  have hne := flK_ne HOK.out.1
  have hoffs := flK_off (v 0)
  have hF := fields_any S w2 v A n c HM2.out HOK.out.1
  obtain ⟨l, hl⟩ : ∃ l : List FD, l = flK (v 0) := ⟨_, rfl⟩
  have HL := Lib.hid hl
  rw [← hl] at hlen hne hoffs hF HIN
  obtain ⟨m, hm_⟩ : ∃ m, m = l.length := ⟨_, rfl⟩
  rw [← hm_] at hF hlen
  have HLEN : Hid (l.length = m) := Lib.hid hm_.symm
  have HOFF := Lib.hid hoffs
  have HNE := Lib.hid hne
  have HFF := Lib.hid hF
  clear hl hm_ hoffs hne hF
  go_wp2_with fail
  refine HFF.out.mono ?_
  clear HFF
  rintro e w3 ⟨R, cR, rfl, hF, hb⟩
  have HF3 := Lib.hid hF
  have HY3 := Lib.hid ((HY2.out.below hb (Nat.le_refl _)).more hb.size)
  have HM3 := Lib.hid (HM2.out.below hb hs2)
  have HT3 := Lib.hid (HT2.out.below (hb.mono (show S ≤ _ by omega)) (Nat.le_refl _))
  have HH3 := Lib.hid (HH2.out.below hb (show 0 < _ by omega))
  have HB3 := Lib.hid (HB2.out.trans (hb.mono (by omega)))
  have hs3 : S < w3.heap.size := Nat.lt_of_lt_of_le hs2 hb.size
  clear hF hb HY2 HM2 HT2 HH2 HB2 hs2
  obtain ⟨BN, hBN⟩ : ∃ B, B = w3.heap.size := ⟨_, rfl⟩
  rw [← hBN] at HF3 hs3
  have hBN3 : BN ≤ w3.heap.size := by omega
  clear hBN
  go_wp2_with fail
  go_loopw [3, 20] (fun b i wr => ∃ (j n2 : Nat) (A2 : Option Addr) (c2 : Nat), j ≤ m ∧ i = .int .i64 j ∧ b = .slice A2 n2 c2 ∧ n2 ≤ 10 + 10 * j ∧ BN ≤ wr.heap.size ∧ Hid (n2 = (vrow (numsJ l v j)).length) ∧ Hid (BytesIn wr wr.heap.size A2 c2 (vrow (numsJ l v j))) ∧ Hid (FieldsIn wr BN S R l) ∧ Hid (MAt wr S v A n c) ∧ Hid (BytesIn wr S A c t) ∧ Hid (Hal wr) ∧ Hid (Below S w wr)) (fun _ i _ => m - (intOf i).toNat)
  case atStart =>
    have e : vrow (numsJ l v 0) = vb (zz (v 0)) := by simp [numsJ, vrow]
    exact ⟨0, n2, A2, c2, by omega, rfl, rfl, by omega, hBN3, by rw [e]; exact HN2, by rw [e]; exact HY3, HF3, HM3, HT3, HH3, HB3⟩
  case round =>
    clear HN2 HY3 HF3 HM3 HT3 HH3 HB3 hBN3 hn2b
    obtain ⟨j, n2, A2, c2, hj, rfl, rfl, hn2b, hbn, HN2, HY, HF, HM, HT, HH, HB⟩ := hrel
    by_cases hjm : j < m
    · have hj' : (j : Int) < (m : Int) := by omega
      have hj0 : (0 : Int) ≤ (j : Int) := by omega
      have hjl : j < l.length := by rw [HLEN.out]; exact hjm
      obtain ⟨f, hf⟩ : ∃ f, l[j]? = some f := ⟨l[j]'hjl, List.getElem?_eq_getElem hjl⟩
      have hmem : f ∈ l := List.mem_of_getElem? hf
      obtain ⟨ho1, ho2, ho3⟩ := HOFF.out f hmem
      obtain ⟨sb, esb, _, hsb, hrows⟩ := HF.out.resolve_left HNE.out
      subst esb
      obtain ⟨g, s, hc, c1, c2', c3, c4⟩ := hrows j f hf
      have HNX := Lib.hid (numsJ_next v hf)
      obtain ⟨x, hx⟩ : ∃ x, x = v f.off := ⟨_, rfl⟩
      have hcx := HM.out.cell (o := f.off) ho2 ho3
      have hxin := HIN.out f hmem
      rw [← hx] at hcx hxin HNX
      obtain ⟨lo, hlo⟩ : ∃ x, x = f.lo := ⟨_, rfl⟩
      obtain ⟨hi, hhi⟩ : ∃ x, x = f.hi := ⟨_, rfl⟩
      rw [← hlo] at c3
      rw [← hhi] at c4
      obtain ⟨off, hof⟩ : ∃ x, x = f.off := ⟨_, rfl⟩
      rw [← hof] at hcx hc
      have HAL : Hid (∀ o, Below wr.heap.size wr (wr.alloc o)) := Lib.hid (fun o => (Below.refl _ _).alloc (Nat.le_refl _) o)
      have HYA : Hid (∀ o, BytesIn (wr.alloc o) (wr.alloc o).heap.size A2 c2 (vrow (numsJ l v j))) := Lib.hid (fun o => (HY.out.below (HAL.out o) (Nat.le_refl _)).more (HAL.out o).size)
      have hv := vb_len10 (zz x) (zz_lt _ hxin.1 hxin.2)
      have HXI := Lib.hid hxin
      rcases hc with ⟨pb, _, lt, rfl, rfl, pt⟩ | ⟨e18, pb, _, lt, rfl, rfl, pt⟩
      all_goals
        first
        | (have HG := Lib.hid (fun (o : Obj) => get2 pb S x (wr.alloc o) (keepA pt) (keepA (e18 ▸ hcx)))
           clear e18)
        | (have HG := Lib.hid (fun (o : Obj) => get1 pb S off x (wr.alloc o) (keepA pt) (keepA hcx)))
        clear hcx pt hrows hx hlo hhi hof hf hxin
        go_wp2_with fail
        refine (HG.out _).mono ?_
        rintro e w' ⟨rfl, rfl⟩
        clear c1 c2' c3 c4
        go_wp2_with fail
        refine (ei_any A2 c2 n2 _ x _ (HYA.out _) HN2.out (by omega) HXI.out).mono ?_
        rintro e w4 ⟨A4, c4, rfl, ho, hb⟩
        have hb4 : Below wr.heap.size wr w4 := (HAL.out _).trans (hb.mono (HAL.out _).size)
        have e4 : vrow (numsJ l v (j + 1)) = vrow (numsJ l v j) ++ vb (zz x) := by rw [HNX.out, vrow_snoc]
        have HY4 : Hid (BytesIn w4 w4.heap.size A4 c4 (vrow (numsJ l v (j + 1)))) := Lib.hid (by rw [e4]; exact (bytesIn_of_own ho).2)
        have HN4 : Hid (n2 + (vb (zz x)).length = (vrow (numsJ l v (j + 1))).length) := Lib.hid (by rw [e4, List.length_append, HN2.out])
        have HF4 := Lib.hid (HF.out.below hb4 hbn)
        have HM4 := Lib.hid (HM.out.below hb4 (by omega))
        have HT4 := Lib.hid (HT.out.below (hb4.mono (show S ≤ _ by omega)) (Nat.le_refl _))
        have HH4 := Lib.hid (HH.out.below hb4 (show 0 < _ by omega))
        have HB4 := Lib.hid (HB.out.trans (hb4.mono (by omega)))
        have hbn4 : BN ≤ w4.heap.size := Nat.le_trans hbn hb4.size
        obtain ⟨k, hk⟩ : ∃ k, k = (vb (zz x)).length := ⟨_, rfl⟩
        rw [← hk] at HN4 hv ⊢
        clear hb4 hb ho e4 hk HN2 HY HF HM HT HH HB hbn HNX HAL HYA HG
        go_wp2_with fail
        go_roundw
        case rel => exact ⟨j + 1, n2 + k, A4, c4, by omega, by go_num, rfl, by omega, hbn4, HN4, HY4, HF4, HM4, HT4, HH4, HB4⟩
        case measure => simp [intOf]; omega
    · have hj : j = m := by omega
      have e1 : numsJ l v j = numsK v := by rw [numsJ_all v (by rw [HLEN.out]; omega), HL.out]; rfl
      rw [e1] at HN2 HY
      clear e1 HF HIN HOFF HNE
      have m0 := cellb (i := 0) HM.out rfl
      by_cases h7 : v 0 = 7
      · have hbv : bodyV v t = vrow (numsK v) ++ vtext t := by unfold bodyV; rw [if_pos h7]
        have z1 := zc HT.out HN.out
        have m17 := cellb (i := 17) HM.out rfl
        have hmx := okM_len HOK.out
        have hq : (v 0 == 7) = true := by rw [h7]; rfl
        rw [h7] at m0
        have HBV := Lib.hid hbv
        clear h7 hbv hq
        go_wp2_with fail
        clear m0 m17 z1
        refine (et_any A2 c2 n2 _ t wr HY.out HN2.out (by omega) (by rw [← HN.out]; omega)).mono ?_
        rintro e w4 ⟨A4, c4, rfl, ho, hb⟩
        have hvt := vtext_len t (by rw [← HN.out]; omega)
        have hln : n2 + (vtext t).length = (bodyV v t).length := by rw [HBV.out, List.length_append, HN2.out]
        have hfl := bodyV_len (t := t) (HN.out ▸ HOK.out)
        have hyy := (bytesIn_of_own ho).2
        rw [← HBV.out] at hyy
        rw [hln]
        have HY4 := Lib.hid hyy
        have HH4 := Lib.hid (HH.out.below hb (show 0 < _ by omega))
        have HB4 := Lib.hid (HB.out.trans (hb.mono (by omega)))
        have hs4 : S < w4.heap.size := Nat.lt_of_lt_of_le (by omega) hb.size
        have hfl' := Lib.hid hfl
        clear hb ho hyy hln hfl hvt HY HN2 HM HT HH HB
        obtain ⟨bl, hbl⟩ : ∃ x, x = (bodyV v t).length := ⟨_, rfl⟩
        rw [← hbl]
        have HBL := Lib.hid hbl
        clear hbl
        go_wp2_with fail
        refine (frame_any A4 c4 bl (bodyV v t) w4 HY4.out HH4.out (by omega) hfl'.out HBL.out).mono ?_
        rintro e w5 ⟨A5, c5, rfl, ho, hb⟩
        have HO5 := Lib.hid (own_low ho (show S ≤ _ by omega))
        have HB5 := Lib.hid (HB4.out.trans (hb.mono (by omega)))
        clear ho hb HB4 HH4 HY4
        go_wp2_with fail
        go_ret
        exact ⟨A5, c5, by rw [HBL.out]; rfl, by rw [HSW.out, ← HBL.out]; exact HO5.out, by rw [HSW.out]; exact HB5.out⟩
      · have hbv : bodyV v t = vrow (numsK v) := by unfold bodyV; rw [if_neg h7, List.append_nil]
        have hfl := bodyV_len (t := t) (HN.out ▸ HOK.out)
        rw [← hbv] at HY HN2
        have HFL := Lib.hid hfl
        have HH5 := Lib.hid HH.out
        clear hbv hfl HM HT
        go_wp2_with fail
        clear m0
        refine (frame_any A2 c2 n2 (bodyV v t) wr HY.out HH.out (by omega) HFL.out HN2.out).mono ?_
        rintro e w5 ⟨A5, c5, rfl, ho, hb⟩
        have HO5 := Lib.hid (own_low ho (show S ≤ _ by omega))
        have HB5 := Lib.hid (HB.out.trans (hb.mono (by omega)))
        clear ho hb
        go_wp2_with fail
        go_ret
        exact ⟨A5, c5, by rw [HN2.out]; rfl, by rw [HSW.out, ← HN2.out]; exact HO5.out, by rw [HSW.out]; exact HB5.out⟩
end Go.Proofs.YtkenaoejijpgpaaDoor
