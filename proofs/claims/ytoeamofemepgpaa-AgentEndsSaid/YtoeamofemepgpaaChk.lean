/- Whether a message may be. -/
import Derived.Test.YtoeamofemepgpaaNothing
import Derived.Test.YtoeamofemepgpaaFld
namespace Go.Proofs.Ytoeamofemepgpaa
open Go.RowKit

def zap (l : List FD) (v : Nat → Int) : Nat → Int := fun i => if i ∈ l.map (·.off) then 0 else v i
theorem zap_nil (v : Nat → Int) : zap [] v = v := by funext i; simp [zap]
theorem zap_next (l : List FD) (v : Nat → Int) (f : FD) : set0 (zap l v) f.off = zap (l ++ [f]) v := by
  funext i
  unfold set0 zap
  by_cases h : i = f.off <;> simp [h]
def fitV (v : Nat → Int) : Bool := okb (v 11) && okb (v 12) && okb (v 13) && okb (v 14)
/-- A message with the fields l may be; its text may have so many bytes. -/
def OkL (l : List FD) (v : Nat → Int) (n most : Nat) : Prop := fitV v = true ∧ (∀ f ∈ l, f.lo ≤ v f.off ∧ v f.off ≤ f.hi) ∧ Nil (zap l v) ∧ n ≤ most

/-- The bytes that a message's text may have. -/
def mostK (k : Int) : Nat := if k = 7 then 4096 else 0
/-- A message may be. -/
def OkM (v : Nat → Int) (n : Nat) : Prop := kB (v 0) = true ∧ OkL (flK (v 0)) v n (mostK (v 0))
theorem frozen_alloc (w : World) (o : Obj) (S i : Nat) (h : S < w.heap.size) : (w.alloc o).frozen? ⟨S, i, none⟩ = w.frozen? ⟨S, i, none⟩ := by
  have e : (w.alloc o).heap[S]? = w.heap[S]? := Below.heap_alloc w o S h
  simp only [World.frozen?, e]

set_option maxRecDepth 100000 in
set_option maxHeartbeats 8000000 in
theorem check_some (v : Nat → Int) (A : Option Addr) (n c : Nat) (w : World) (hk : kB (v 0) = true) :
    Calls Try.prog 26 #[.agg #[.int .i64 (v 0), .int .i64 (v 1), .int .i64 (v 2), .int .i64 (v 3), .int .i64 (v 4), .int .i64 (v 5), .int .i64 (v 6), .int .i64 (v 7), .int .i64 (v 8), .int .i64 (v 9), .int .i64 (v 10), .int .i64 (v 11), .int .i64 (v 12), .int .i64 (v 13), .int .i64 (v 14), .int .i64 (v 15), .int .i64 (v 16), .slice A n c, .int .i64 (v 18), .int .i64 (v 19), .int .i64 (v 20)]] w fun e w' => ∃ b : Bool, e = .returned (.int .i64 (if b then 0 else 11)) ∧ (b = true ↔ OkL (flK (v 0)) v n (mostK (v 0))) ∧ Below w.heap.size w w' := by
  have hm : MAt (w.alloc (.cells #[.int .i64 (v 0), .int .i64 (v 1), .int .i64 (v 2), .int .i64 (v 3), .int .i64 (v 4), .int .i64 (v 5), .int .i64 (v 6), .int .i64 (v 7), .int .i64 (v 8), .int .i64 (v 9), .int .i64 (v 10), .int .i64 (v 11), .int .i64 (v 12), .int .i64 (v 13), .int .i64 (v 14), .int .i64 (v 15), .int .i64 (v 16), .slice A n c, .int .i64 (v 18), .int .i64 (v 19), .int .i64 (v 20)] 35)) w.heap.size v A n c := heap_alloc_new w _
  have hF := fields_any w.heap.size _ v A n c hm hk
  have hoffs := flK_off (v 0)
  have hnd := flK_nd (v 0)
  have hlen := flK_len (v 0)
  have hne := flK_ne hk
  obtain ⟨mx, hmx⟩ : ∃ m, m = mostK (v 0) := ⟨_, rfl⟩
  obtain ⟨l, hl⟩ : ∃ l : List FD, l = flK (v 0) := ⟨_, rfl⟩
  rw [← hl] at hF hoffs hnd hlen hne ⊢
  rw [← hmx]
  obtain ⟨m, hm_⟩ : ∃ m, m = l.length := ⟨_, rfl⟩
  rw [← hm_] at hF hlen
  have HLEN : Hid (l.length = m) := Lib.hid hm_.symm
  have HOFF := Lib.hid hoffs
  have HND := Lib.hid hnd
  have HNE := Lib.hid hne
  have HMX := Lib.hid hmx
  clear hl hm_ hoffs hnd hne hmx
  have HM0 := Lib.hid hm
  have HB0 := Lib.hid ((Below.refl w.heap.size w).alloc (Nat.le_refl _) (.cells #[.int .i64 (v 0), .int .i64 (v 1), .int .i64 (v 2), .int .i64 (v 3), .int .i64 (v 4), .int .i64 (v 5), .int .i64 (v 6), .int .i64 (v 7), .int .i64 (v 8), .int .i64 (v 9), .int .i64 (v 10), .int .i64 (v 11), .int .i64 (v 12), .int .i64 (v 13), .int .i64 (v 14), .int .i64 (v 15), .int .i64 (v 16), .slice A n c, .int .i64 (v 18), .int .i64 (v 19), .int .i64 (v 20)] 35))
  obtain ⟨S, hS⟩ : ∃ S, S = w.heap.size := ⟨_, rfl⟩
  have hs0 : S < (w.alloc (.cells #[.int .i64 (v 0), .int .i64 (v 1), .int .i64 (v 2), .int .i64 (v 3), .int .i64 (v 4), .int .i64 (v 5), .int .i64 (v 6), .int .i64 (v 7), .int .i64 (v 8), .int .i64 (v 9), .int .i64 (v 10), .int .i64 (v 11), .int .i64 (v 12), .int .i64 (v 13), .int .i64 (v 14), .int .i64 (v 15), .int .i64 (v 16), .slice A n c, .int .i64 (v 18), .int .i64 (v 19), .int .i64 (v 20)] 35)).heap.size := by simp [hS]
  have HSW : Hid (w.heap.size = S) := Lib.hid hS.symm
  have HFF := Lib.hid hF
  have HK := Lib.hid hk
  clear hm hF hk
  go_enter Try.func26, Try.ntmps26
  go_wp2_with fail
  rw [← hS]
  rw [← hS] at HM0 HB0 HFF
  clear hS
  generalize w.alloc (.cells #[.int .i64 (v 0), .int .i64 (v 1), .int .i64 (v 2), .int .i64 (v 3), .int .i64 (v 4), .int .i64 (v 5), .int .i64 (v 6), .int .i64 (v 7), .int .i64 (v 8), .int .i64 (v 9), .int .i64 (v 10), .int .i64 (v 11), .int .i64 (v 12), .int .i64 (v 13), .int .i64 (v 14), .int .i64 (v 15), .int .i64 (v 16), .slice A n c, .int .i64 (v 18), .int .i64 (v 19), .int .i64 (v 20)] 35) = w0 at HM0 HB0 hs0 HFF ⊢
  refine HFF.out.mono ?_
  clear HFF
  rintro e w1 ⟨R, cR, rfl, hF, hb⟩
  have HF1 := Lib.hid hF
  have HM1 := Lib.hid (HM0.out.below hb hs0)
  have HB1 := Lib.hid (HB0.out.trans (hb.mono (by omega)))
  have hs1 : S < w1.heap.size := Nat.lt_of_lt_of_le hs0 hb.size
  clear hF hb HM0 HB0 hs0
  have m11 := cellb (i := 11) HM1.out rfl
  have m12 := cellb (i := 12) HM1.out rfl
  have m13 := cellb (i := 13) HM1.out rfl
  have m14 := cellb (i := 14) HM1.out rfl
  go_wp2_with fail
  clear m11 m12 m13 m14
  refine (right_any (fun i => v (11 + i)) w1).mono ?_
  rintro e w2 ⟨rfl, hb⟩
  have HF2 := Lib.hid (HF1.out.below hb (Nat.le_refl _))
  have HM2 := Lib.hid (HM1.out.below hb hs1)
  have HB2 := Lib.hid (HB1.out.trans (hb.mono (by omega)))
  have hs2 : S < w2.heap.size := Nat.lt_of_lt_of_le hs1 hb.size
  have hbn2 : w1.heap.size ≤ w2.heap.size := hb.size
  clear hb HF1 HM1 HB1
  obtain ⟨b, hb⟩ : ∃ b, fitV v = b := ⟨_, rfl⟩
  rw [show (okb (v (11 + 0)) && okb (v (11 + 1)) && okb (v (11 + 2)) && okb (v (11 + 3))) = b from hb]
  have HBb := Lib.hid hb
  clear hb
  cases b
  · go_wp2_with fail
    go_ret
    exact ⟨false, rfl, ⟨fun h => by simp at h, fun h => absurd (h.1.symm.trans HBb.out) (by decide)⟩, by rw [HSW.out]; exact HB2.out⟩
  obtain ⟨BN, hBN⟩ : ∃ B, B = w1.heap.size := ⟨_, rfl⟩
  rw [← hBN] at HF2 hs1 hbn2
  clear hBN
  go_wp2_with fail
  go_loopw [23] (fun i wr => ∃ j : Nat, j ≤ m ∧ i = .int .i64 j ∧ BN ≤ wr.heap.size ∧ Hid (FieldsIn wr BN S R l) ∧ Hid (MAt wr S (zap (l.take j) v) A n c) ∧ Hid (Below S w wr) ∧ Hid (∀ f ∈ l.take j, f.lo ≤ v f.off ∧ v f.off ≤ f.hi)) (fun i _ => m - (intOf i).toNat)
  case atStart => exact ⟨0, by omega, rfl, hbn2, HF2, by rw [List.take_zero, zap_nil]; exact HM2, HB2, Lib.hid (fun f hf => by simp at hf)⟩
  case round =>
    clear HF2 HM2 HB2 hs2 hbn2
    obtain ⟨j, hj, rfl, hbn, HF, HM, HB, HZ⟩ := hrel
    by_cases hjm : j < m
    · have hj' : (j : Int) < (m : Int) := by omega
      have hj0 : (0 : Int) ≤ (j : Int) := by omega
      have hjl : j < l.length := by rw [HLEN.out]; exact hjm
      obtain ⟨f, hf⟩ : ∃ f, l[j]? = some f := ⟨l[j]'hjl, List.getElem?_eq_getElem hjl⟩
      have hmem : f ∈ l := List.mem_of_getElem? hf
      obtain ⟨ho1, ho2, ho3⟩ := HOFF.out f hmem
      obtain ⟨sb, esb, _, hsb, hrows⟩ := HF.out.resolve_left HNE.out
      subst esb
      obtain ⟨g, s, hc, c1, c2, c3, c4⟩ := hrows j f hf
      have htk : l.take (j + 1) = l.take j ++ [f] := by rw [List.take_add_one, hf]; rfl
      have hni : f.off ∉ (l.take j).map (·.off) := by
        have h1 : (l.take (j + 1)).map (·.off) = (l.take j).map (·.off) ++ [f.off] := by rw [htk]; simp
        have h2 : ((l.take (j + 1)).map (·.off)).Nodup := by rw [List.map_take]; exact HND.out.sublist (List.take_sublist _ _)
        rw [h1] at h2
        intro h3
        exact (List.nodup_append.1 h2).2.2 _ h3 _ (by simp) rfl
      have hx0 : zap (l.take j) v f.off = v f.off := by unfold zap; rw [if_neg hni]
      obtain ⟨x, hx⟩ : ∃ x, x = v f.off := ⟨_, rfl⟩
      have hcx := HM.out.cell (o := f.off) ho2 ho3
      rw [hx0, ← hx] at hcx
      have hset := HM.out.set (o := f.off) ho2 ho3 (by omega)
      rw [zap_next, ← htk] at hset
      have hfz := HM.out.fz f.off
      obtain ⟨lo, hlo⟩ : ∃ x, x = f.lo := ⟨_, rfl⟩
      obtain ⟨hi, hhi⟩ : ∃ x, x = f.hi := ⟨_, rfl⟩
      rw [← hlo] at c3
      rw [← hhi] at c4
      obtain ⟨off, hof⟩ : ∃ x, x = f.off := ⟨_, rfl⟩
      rw [← hof] at hcx hset hfz hc
      have HX := Lib.hid hx
      have HLO := Lib.hid hlo
      have HHI := Lib.hid hhi
      have HTK := Lib.hid htk
      have hSB : S < sb := by assumption
      have HAL : Hid (∀ o, Below wr.heap.size wr (wr.alloc o)) := Lib.hid (fun o => (Below.refl _ _).alloc (Nat.le_refl _) o)
      have HST : Hid (∀ o, MAt ((wr.alloc o).setCell ⟨S, off, none⟩ (.int .i64 0)) S (zap (l.take (j + 1)) v) A n c) := Lib.hid (fun o => by
        have h : ((wr.alloc o).setCell ⟨S, off, none⟩ (.int .i64 0)).heap[S]? = (wr.setCell ⟨S, off, none⟩ (.int .i64 0)).heap[S]? := by
          have e : (wr.alloc o).heap[S]? = wr.heap[S]? := Below.heap_alloc wr o S (by omega)
          simp [World.setCell, Array.getElem?_modify, e]
        unfold MAt at hset ⊢
        rw [h]; exact hset)
      have HFS : Hid (∀ o, FieldsIn ((wr.alloc o).setCell ⟨S, off, none⟩ (.int .i64 0)) BN S (some ⟨sb, 0, none⟩) l) := Lib.hid (fun o => ((HF.out.below (HAL.out o) hbn).set _))
      have HBS : Hid (∀ o, Below S w ((wr.alloc o).setCell ⟨S, off, none⟩ (.int .i64 0))) := Lib.hid (fun o => (HB.out.trans ((HAL.out o).mono (by omega))).setCell (p := ⟨S, off, none⟩) (by show S ≤ S; omega) _)
      have HBA : Hid (∀ o, Below S w (wr.alloc o)) := Lib.hid (fun o => HB.out.trans ((HAL.out o).mono (by omega)))
      have hfin : ∀ h : (lo ≤ x ∧ x ≤ hi), ∀ f' ∈ l.take (j + 1), f'.lo ≤ v f'.off ∧ v f'.off ≤ f'.hi := fun h f' hf' => by
        rw [htk] at hf'
        simp only [List.mem_append, List.mem_singleton] at hf'
        rcases hf' with hf' | rfl
        · exact HZ.out f' hf'
        · rw [← hx, ← hlo, ← hhi]; exact h
      have HFIN := Lib.hid hfin
      have hbad : ¬ (lo ≤ x ∧ x ≤ hi) → ¬ OkL l v n mx := fun h h2 => by
        have := h2.2.1 f hmem
        rw [← hx, ← hlo, ← hhi] at this
        exact h this
      have HBAD := Lib.hid hbad
      rcases hc with ⟨pb, _, lt, rfl, rfl, pt⟩ | ⟨e18, pb, _, lt, rfl, rfl, pt⟩
      all_goals
        first
        | (have HG := Lib.hid (fun (o : Obj) => get2 pb S x (wr.alloc o) (keepA pt) (keepA (e18 ▸ hcx)))
           have HS := Lib.hid (fun (o : Obj) => set2 pb S x 0 (wr.alloc o) (keepA pt) (keepA (e18 ▸ hcx)) ((frozen_alloc wr o S 18 (by omega)).trans (e18 ▸ hfz)))
           rw [← e18] at HS
           clear e18)
        | (have HG := Lib.hid (fun (o : Obj) => get1 pb S off x (wr.alloc o) (keepA pt) (keepA hcx))
           have HS := Lib.hid (fun (o : Obj) => set1 pb S off x 0 (wr.alloc o) (keepA pt) (keepA hcx) ((frozen_alloc wr o S off (by omega)).trans hfz)))
        clear hcx pt hset hfz hrows htk hni hx0 hx hlo hhi hof HF HM HB hfin hbad hf
        go_wp2_with fail
        refine (HG.out _).mono ?_
        rintro e w' ⟨rfl, rfl⟩
        by_cases hz : x < lo
        · clear c1 c2 c3 c4
          go_wp2_with fail
          go_ret
          exact ⟨false, rfl, ⟨fun h => by simp at h, fun h => absurd h (HBAD.out (by omega))⟩, by rw [HSW.out]; exact HBA.out _⟩
        · by_cases hz2 : hi < x
          · clear c1 c2 c3 c4
            go_wp2_with fail
            go_ret
            exact ⟨false, rfl, ⟨fun h => by simp at h, fun h => absurd h (HBAD.out (by omega))⟩, by rw [HSW.out]; exact HBA.out _⟩
          · clear c1 c2 c3 c4
            go_wp2_with fail
            refine (HS.out _).mono ?_
            rintro e w' ⟨rfl, rfl⟩
            go_wp2_with fail
            go_roundw
            case rel => exact ⟨j + 1, by omega, by go_num, by simp [World.setCell]; omega, HFS.out _, HST.out _, HBS.out _, Lib.hid (HFIN.out (by omega))⟩
            case measure => simp [intOf]; omega
    · have hj : j = m := by omega
      have htk : l.take j = l := List.take_of_length_le (by rw [HLEN.out]; omega)
      rw [htk] at HM HZ
      clear htk HF
      have h0 : zap l v 0 = v 0 := by
        unfold zap
        rw [if_neg]
        intro h
        simp only [List.mem_map] at h
        obtain ⟨f, hf, e⟩ := h
        have := HOFF.out f hf
        omega
      obtain ⟨z, hz⟩ : ∃ z, z = zap l v := ⟨_, rfl⟩
      rw [← hz] at HM h0
      have HZV := Lib.hid hz
      have hcase : ((z 0 == 7) = true ∧ mx = 4096) ∨ ((z 0 == 7) = false ∧ mx = 0) := by
        rw [h0, HMX.out]
        unfold mostK
        by_cases h7 : v 0 = 7
        · exact .inl ⟨by simp [h7], by simp [h7]⟩
        · exact .inr ⟨by simp [h7], by simp [h7]⟩
      clear h0 hz HOFF HND HLEN HNE hlen
      have m0 := cellb (i := 0) HM.out rfl
      have HMU := Lib.hid (show wr.heap[S]? = some (.cells #[.int .i64 (z 0), .int .i64 (z 1), .int .i64 (z 2), .int .i64 (z 3), .int .i64 (z 4), .int .i64 (z 5), .int .i64 (z 6), .int .i64 (z 7), .int .i64 (z 8), .int .i64 (z 9), .int .i64 (z 10), .int .i64 (z 11), .int .i64 (z 12), .int .i64 (z 13), .int .i64 (z 14), .int .i64 (z 15), .int .i64 (z 16), .slice A n c, .int .i64 (z 18), .int .i64 (z 19), .int .i64 (z 20)] 35 (0, 0)) from HM.out)
      rcases hcase with ⟨he, hmx⟩ | ⟨he, hmx⟩
      · go_wp2_with (refine wpList_load_row rfl 35 _ rfl S rfl 35 _ (0, 0) _ HMU.out Try.underlying35 rfl (by kernel_rfl) ?_)
        clear m0 HMU
        refine (nothing_any z A n c wr).mono ?_
        rintro e w5 ⟨b, rfl, hnb, hb⟩
        have HM5 := Lib.hid (HM.out.below hb (by omega))
        have HB5 := Lib.hid (HB.out.trans (hb.mono (by omega)))
        have HNB := Lib.hid hnb
        clear hnb hb HM HB
        have m17 := cellb (i := 17) HM5.out rfl
        cases b
        · go_wp2_with fail
          go_ret
          exact ⟨false, rfl, ⟨fun h => by simp at h, fun h => by have := HNB.out.2 (HZV.out ▸ h.2.2.1); simp at this⟩, by rw [HSW.out]; exact HB5.out⟩
        · by_cases hn : 4096 < n
          · have hn' : (4096 : Int) < (n : Int) := by omega
            go_wp2_with fail
            go_ret
            exact ⟨false, rfl, ⟨fun h => by simp at h, fun h => absurd h.2.2.2 (by omega)⟩, by rw [HSW.out]; exact HB5.out⟩
          · have hn' : ¬ (4096 : Int) < (n : Int) := by omega
            go_wp2_with fail
            go_ret
            exact ⟨true, rfl, ⟨fun _ => ⟨HBb.out, HZ.out, HZV.out ▸ HNB.out.1 trivial, by omega⟩, fun _ => rfl⟩, by rw [HSW.out]; exact HB5.out⟩
      · go_wp2_with (refine wpList_load_row rfl 35 _ rfl S rfl 35 _ (0, 0) _ HMU.out Try.underlying35 rfl (by kernel_rfl) ?_)
        clear m0 HMU
        refine (nothing_any z A n c wr).mono ?_
        rintro e w5 ⟨b, rfl, hnb, hb⟩
        have HM5 := Lib.hid (HM.out.below hb (by omega))
        have HB5 := Lib.hid (HB.out.trans (hb.mono (by omega)))
        have HNB := Lib.hid hnb
        clear hnb hb HM HB
        have m17 := cellb (i := 17) HM5.out rfl
        cases b
        · go_wp2_with fail
          go_ret
          exact ⟨false, rfl, ⟨fun h => by simp at h, fun h => by have := HNB.out.2 (HZV.out ▸ h.2.2.1); simp at this⟩, by rw [HSW.out]; exact HB5.out⟩
        · by_cases hn : 0 < n
          · have hn' : (0 : Int) < (n : Int) := by omega
            go_wp2_with fail
            go_ret
            exact ⟨false, rfl, ⟨fun h => by simp at h, fun h => absurd h.2.2.2 (by omega)⟩, by rw [HSW.out]; exact HB5.out⟩
          · have hn' : ¬ (0 : Int) < (n : Int) := by omega
            go_wp2_with fail
            go_ret
            exact ⟨true, rfl, ⟨fun _ => ⟨HBb.out, HZ.out, HZV.out ▸ HNB.out.1 trivial, by omega⟩, fun _ => rfl⟩, by rw [HSW.out]; exact HB5.out⟩

set_option maxRecDepth 100000 in
theorem check_none (v : Nat → Int) (A : Option Addr) (n c : Nat) (w : World) (hk : kB (v 0) = false) :
    Calls Try.prog 26 #[.agg #[.int .i64 (v 0), .int .i64 (v 1), .int .i64 (v 2), .int .i64 (v 3), .int .i64 (v 4), .int .i64 (v 5), .int .i64 (v 6), .int .i64 (v 7), .int .i64 (v 8), .int .i64 (v 9), .int .i64 (v 10), .int .i64 (v 11), .int .i64 (v 12), .int .i64 (v 13), .int .i64 (v 14), .int .i64 (v 15), .int .i64 (v 16), .slice A n c, .int .i64 (v 18), .int .i64 (v 19), .int .i64 (v 20)]] w fun e w' => e = .returned (.int .i64 11) ∧ Below w.heap.size w w' := by
  have hm : MAt (w.alloc (.cells #[.int .i64 (v 0), .int .i64 (v 1), .int .i64 (v 2), .int .i64 (v 3), .int .i64 (v 4), .int .i64 (v 5), .int .i64 (v 6), .int .i64 (v 7), .int .i64 (v 8), .int .i64 (v 9), .int .i64 (v 10), .int .i64 (v 11), .int .i64 (v 12), .int .i64 (v 13), .int .i64 (v 14), .int .i64 (v 15), .int .i64 (v 16), .slice A n c, .int .i64 (v 18), .int .i64 (v 19), .int .i64 (v 20)] 35)) w.heap.size v A n c := heap_alloc_new w _
  have HFF := Lib.hid (fields_none w.heap.size _ v A n c hm hk)
  have HM0 := Lib.hid hm
  have HB0 := Lib.hid ((Below.refl w.heap.size w).alloc (Nat.le_refl _) (.cells #[.int .i64 (v 0), .int .i64 (v 1), .int .i64 (v 2), .int .i64 (v 3), .int .i64 (v 4), .int .i64 (v 5), .int .i64 (v 6), .int .i64 (v 7), .int .i64 (v 8), .int .i64 (v 9), .int .i64 (v 10), .int .i64 (v 11), .int .i64 (v 12), .int .i64 (v 13), .int .i64 (v 14), .int .i64 (v 15), .int .i64 (v 16), .slice A n c, .int .i64 (v 18), .int .i64 (v 19), .int .i64 (v 20)] 35))
  clear hm hk
  go_enter Try.func26, Try.ntmps26
  go_wp2_with fail
  refine HFF.out.mono ?_
  rintro e w1 ⟨rfl, hb⟩
  have HB1 := Lib.hid (HB0.out.trans (hb.mono (by simp)))
  clear hb HB0 HFF HM0
  go_wp2_with fail
  go_ret
  exact ⟨rfl, HB1.out⟩
theorem check_any (v : Nat → Int) (A : Option Addr) (n c : Nat) (w : World) :
    Calls Try.prog 26 #[.agg #[.int .i64 (v 0), .int .i64 (v 1), .int .i64 (v 2), .int .i64 (v 3), .int .i64 (v 4), .int .i64 (v 5), .int .i64 (v 6), .int .i64 (v 7), .int .i64 (v 8), .int .i64 (v 9), .int .i64 (v 10), .int .i64 (v 11), .int .i64 (v 12), .int .i64 (v 13), .int .i64 (v 14), .int .i64 (v 15), .int .i64 (v 16), .slice A n c, .int .i64 (v 18), .int .i64 (v 19), .int .i64 (v 20)]] w fun e w' => ∃ b : Bool, e = .returned (.int .i64 (if b then 0 else 11)) ∧ (b = true ↔ OkM v n) ∧ Below w.heap.size w w' := by
  cases hk : kB (v 0)
  · refine (check_none v A n c w hk).mono ?_
    rintro e w' ⟨rfl, hb⟩
    exact ⟨false, rfl, ⟨fun h => by simp at h, fun h => by have := h.1; rw [hk] at this; cases this⟩, hb⟩
  · refine (check_some v A n c w hk).mono ?_
    rintro e w' ⟨b, rfl, h, hb⟩
    exact ⟨b, rfl, h.trans ⟨fun h => ⟨hk, h⟩, fun h => h.2⟩, hb⟩
end Go.Proofs.Ytoeamofemepgpaa
