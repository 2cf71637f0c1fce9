/- The law LeaseKeeps: the walk. -/
import Derived.Test.YtcpaimgenfbidaaLawTakes
import Derived.Test.YtcpaimgenfbidaaPairs2
import Derived.Deep.RegionHeld3
namespace Go.Proofs.Ytcpaimgenfbidaa
open Go.RowKit

theorem Try.info43 : (Try.prog.info? 43).map (fun i => (i.zero, i.size, i.bytes)) = some (some (.agg #[.int .i64 0, .int .i64 0]), 2, 16) := by kernel_rfl
theorem info_parts {t : TypeId} {z : Value} {size bytes : Nat} (h : (Try.prog.info? t).map (fun i => (i.zero, i.size, i.bytes)) = some (some z, size, bytes)) : ∃ i, Try.prog.info? t = some i ∧ i.zero = some z ∧ i.size = size ∧ i.bytes = bytes := by
  cases hi : Try.prog.info? t with
  | none => rw [hi] at h; simp at h
  | some i => rw [hi] at h; simp at h; exact ⟨i, rfl, h.1, h.2.1, h.2.2⟩

theorem runtil_n (A : Option Addr) (c B q : Nat) (gs : List (Int × Int)) (i : Int) (w : World) (h : PairsIn w B A gs) (ht : Ticks gs) (hn : gs.length ≤ 1000) (hq : gs.length = q) :
    Calls Try.prog 18 #[.slice A q c, .int .i64 i] w fun e w' => e = .returned (.int .i64 (untilS gs i)) ∧ w = w' := by
  subst hq
  exact runtil_any A c B gs i w h ht hn

theorem keeper_until (g m : Nat) (us : List Int) (al : List (Int × Int)) (j : Int) (w : World) (h : KeepAt w g m us) (hk : Knows m us al) :
    Calls Try.prog 19 #[.pointer (some ⟨g, 0, none⟩), .int .i64 j] w fun e w' => e = .returned (.int .i64 (untilS al j)) ∧ w = w' := by
  rw [← hk.at_ j]
  exact until_any g m us j w h
theorem keeper_lost_in (g m : Nat) (us : List Int) (al : List (Int × Int)) (j n : Int) (w : World) (h : KeepAt w g m us) (hk : Knows m us al) (hs : hasS m j = true) :
    Calls Try.prog 20 #[.pointer (some ⟨g, 0, none⟩), .int .i64 j, .int .i64 n] w fun e w' => e = .returned (.bool (decide (untilS al j ≤ n))) ∧ w = w' := by
  have := hk.at_ j
  rw [if_pos hs] at this
  have h2 := lost_any g m us j n w h
  rw [hs, Bool.true_and, this] at h2
  exact h2
theorem keeper_lost_out (g m : Nat) (us : List Int) (j n : Int) (w : World) (h : KeepAt w g m us) (hs : hasS m j = false) :
    Calls Try.prog 20 #[.pointer (some ⟨g, 0, none⟩), .int .i64 j, .int .i64 n] w fun e w' => e = .returned (.bool false) ∧ w = w' := by
  have h2 := lost_any g m us j n w h
  rw [hs, Bool.false_and] at h2
  exact h2

theorem cellsIn_drew {w : World} {B s m : Nat} {A : Option Addr} {xs : List Value} (h : CellsIn w B s A m xs) : CellsIn w.drew B s A m xs := ⟨h.1, h.2⟩

set_option maxRecDepth 10000 in
set_option maxHeartbeats 2000000 in
theorem keeps_no (m b n : Int) (a : Option Addr) (len cap : Nat) (w : World) (hb : (decide (0 ≤ m) && decide (m ≤ 16) && tk b) = false) :
    Calls Try.prog 4 #[.agg #[.int .i64 m, .int .i64 b], .slice a len cap, .int .i64 n] w fun e w' => e = .returned (.bool true) ∧ Below w.heap.size w w' := by
  have HBA := Lib.hid ((Below.refl w.heap.size w).alloc (Nat.le_refl _) (.cells #[.int .i64 m, .int .i64 b] 36))
  go_enter Try.func4, Try.ntmps4
  go_wp2_with fail
  refine (awake_any _).mono ?_
  rintro e w1 ⟨rfl, hb1⟩
  have HB1 := Lib.hid (HBA.out.trans (hb1.mono (by simp)))
  clear hb1
  go_wp2_with fail
  refine (keeper_no m b _ hb).mono ?_
  rintro e w' ⟨rfl, rfl⟩
  go_wp2_with fail
  refine (rtick_any b _).mono ?_
  rintro e w' ⟨rfl, rfl⟩
  by_cases h1 : m < 0
  · go_wp2_with fail
    go_ret
    exact ⟨rfl, HB1.out⟩
  by_cases h2 : 16 < m
  · go_wp2_with fail
    go_ret
    exact ⟨rfl, HB1.out⟩
  have hk : tk b = false := by
    rw [decide_eq_true (show 0 ≤ m by omega), decide_eq_true (show m ≤ 16 by omega)] at hb
    simpa using hb
  rw [hk]
  clear hk hb
  go_wp2_with fail
  go_ret
  exact ⟨rfl, HB1.out⟩

set_option maxRecDepth 10000 in
set_option maxHeartbeats 4000000 in
theorem keeps_yes (m : Nat) (b n : Int) (a : Option Addr) (len cap : Nat) (gs : List (Int × Int)) (w : World) (hm : m ≤ 16) (hb : tk b = true) (hl : len = gs.length) (hp : PairsIn w w.heap.size a gs) :
    Calls Try.prog 4 #[.agg #[.int .i64 (m : Int), .int .i64 b], .slice a len cap, .int .i64 n] w fun e w' => e = .returned (.bool true) ∧ Below w.heap.size w w' := by
  obtain ⟨i0, hi, hz0, hz1, hz2⟩ := info_parts Try.info43
  have hb0 : 0 ≤ b ∧ b < 1099511627776 := by simpa [tk] using hb
  obtain ⟨hb1, hb2⟩ := hb0
  have HL := Lib.hid hl
  have HP := Lib.hid hp
  clear hl hp
  have HBA := Lib.hid ((Below.refl w.heap.size w).alloc (Nat.le_refl _) (.cells #[.int .i64 (m : Int), .int .i64 b] 36))
  go_enter Try.func4, Try.ntmps4
  go_wp2_with fail
  refine (awake_any _).mono ?_
  rintro e w1 ⟨rfl, hbel1⟩
  have HB1 := Lib.hid (HBA.out.trans (hbel1.mono (by simp)))
  clear hbel1
  go_wp2_with fail
  refine (keeper_ok m b _ hm hb).mono ?_
  rintro e w2 ⟨rfl, hk2, hbel2⟩
  obtain ⟨g, hg⟩ : ∃ g, g = w1.heap.size := ⟨_, rfl⟩
  rw [← hg] at hk2 ⊢
  have hgw : w.heap.size ≤ g := by rw [hg]; exact HB1.out.size
  have HK2 := Lib.hid hk2
  have HB2 := Lib.hid (HB1.out.trans (hbel2.mono HB1.out.size))
  have hg2 : g < w2.heap.size := hk2.lt
  clear hbel2 hk2 hg
  go_wp2_with fail
  refine (rtick_any b _).mono ?_
  rintro e w' ⟨rfl, rfl⟩
  rw [hb]
  go_wp2_with fail
  obtain ⟨N, hN⟩ : ∃ N, N = w2.heap.size := ⟨_, rfl⟩
  have hgN : g < N := by omega
  have hwN : w.heap.size ≤ N := by omega
  have hN2 : N ≤ w2.heap.size := by omega
  clear hN
  go_loopw [12, 13] (fun al i wr => ∃ (k : Nat) (A : Option Addr) (c : Nat), k ≤ m ∧ i = .int .i64 k ∧ al = .slice A k c ∧ N ≤ wr.heap.size ∧ Hid (wr.ownsRow N 43 2 (.slice A k c) k (cellsP (begins k b))) ∧ Hid (KeepAt wr g m (firsts m (b + 24))) ∧ Hid (Below w.heap.size w wr)) (fun _ i _ => m - (intOf i).toNat)
  case atStart => exact ⟨0, none, 0, Nat.zero_le _, rfl, rfl, hN2, ⟨rfl, .inl ⟨rfl, rfl⟩⟩, HK2, HB2⟩
  case round =>
    clear HB2 HK2 HB1 HBA
    obtain ⟨k, A, c, hk, rfl, rfl, hNs, HO, HK, HB⟩ := hrel
    by_cases hlt : k < m
    · go_wp2_with (at_builtin; refine wpList_append_row _ rfl (.tmp 52) (.tmp 56) _ rfl N 43 i0 _ 2 16 Try.underlying41 hi hz0 hz1 hz2 rfl (by omega) A k c (cellsP (begins k b)) rfl (HO.out.alloc _) _ _ 1 _ _ rfl (cellsIn_alloc wr #[.int .i64 (k : Int), .int .i64 b] 43 (0, 0) 2 1 rfl) (by simp [Value.oneCell']) (by unfold maxLen; omega) (by omega) (by simp; omega) ?_; intro A3 c3 w3 hown3 hg3 _; have HO3 := Lib.hid hown3; have HG3 := Lib.hid hg3; clear hown3 hg3)
      have hs3 : N ≤ w3.heap.size := by have := HG3.out.size; simp at this; omega
      have HB3 := Lib.hid ((HB.out.alloc HB.out.size (.cells #[.int .i64 (k : Int), .int .i64 b] 43)).grown HG3.out (by simp; omega) (fun q hq => Nat.le_trans hwN (HO.out.lt q hq).1))
      have HK3 := Lib.hid (HK.out.chg (S := fun q => N ≤ q) (((Chg.refl _ wr).alloc (.cells #[.int .i64 (k : Int), .int .i64 b] 43)).grown HG3.out (fun q hq => .inr (HO.out.lt q hq).1)) (by omega))
      have ho3 : w3.ownsRow N 43 2 (.slice A3 (k + 1) c3) (k + 1) (cellsP (begins (k + 1) b)) := by rw [begins_snoc, cellsP_snoc]; exact HO3.out
      have HO4 := Lib.hid ho3
      clear ho3 HO3 HG3
      go_roundw
      case rel => exact ⟨k + 1, A3, c3, by omega, by go_num, rfl, hs3, HO4, HK3, HB3⟩
      case measure => simp [intOf]; omega
    · have hkm : k = m := by omega
      rw [hkm] at HO ⊢
      clear hkm hk hlt
      have hkn := knows_begins m b hm hb1
      have htk := ticks_begins m b hb1 hb2
      have hln := begins_length m b
      have HKN := Lib.hid hkn
      have HTK := Lib.hid htk
      have HLN := Lib.hid hln
      clear hkn htk hln
      generalize begins m b = al at HKN HTK HLN HO
      generalize firsts m (b + 24) = us at HKN HK
      go_wp2_with fail
      obtain ⟨K0, hK0⟩ : ∃ K0, K0 = wr.heap.size := ⟨_, rfl⟩
      clear hK0
      go_loopw [12, 14] (fun al2 i wr => ∃ (k q : Nat) (A : Option Addr) (c : Nat) (us : List Int) (al : List (Int × Int)), k ≤ len ∧ k ≤ 40 ∧ i = .int .i64 k ∧ al2 = .slice A q c ∧ q ≤ m + k ∧ N ≤ wr.heap.size ∧ Hid (al.length = q) ∧ Hid (wr.ownsRow N 43 2 (.slice A q c) q (cellsP al)) ∧ Hid (KeepAt wr g m us) ∧ Hid (Knows m us al) ∧ Hid (Ticks al) ∧ Hid (Below w.heap.size w wr)) (fun _ i _ => len - (intOf i).toNat)
      case atStart => exact ⟨0, m, A, c, us, al, Nat.zero_le _, Nat.zero_le _, rfl, rfl, by omega, hNs, HLN, HO, HK, HKN, HTK, HB⟩
      case round =>
        clear HB HK HO HKN HTK HLN
        obtain ⟨k, q, A, c, us, al, hk, hk40, rfl, rfl, hq, hNv, HLN, HO, HK, HKN, HTK, HB⟩ := hrel
        by_cases hend : k < len ∧ k < 40
        · obtain ⟨hlt, hlt40⟩ := hend
          obtain ⟨bb, off, rfl, hbb, hc⟩ : ∃ bb off, a = some ⟨bb, off, none⟩ ∧ bb < w.heap.size ∧ (w.cell? ⟨bb, off + k * 2, none⟩ = some (.int .i64 (gs.getD k (0, 0)).1) ∧ w.cell? ⟨bb, off + k * 2 + 1, none⟩ = some (.int .i64 (gs.getD k (0, 0)).2)) := by
            have hkl : k < gs.length := by rw [← HL.out]; exact hlt
            rcases HP.out with h | ⟨bb, off, rfl, h0, h⟩
            · rw [h] at hkl; simp at hkl
            · exact ⟨bb, off, rfl, h0, h k hkl⟩
          generalize gs.getD k (0, 0) = y at hc
          obtain ⟨x, y⟩ := y
          simp only at hc
          obtain ⟨hcx, hcy⟩ := hc
          have d1 : wr.cell? ⟨bb, off + k * 2, none⟩ = some (.int .i64 x) := (Chg.of_below (S := NoBlk) HB.out).cell hcx (fun h => h)
          have d2 : wr.cell? ⟨bb, off + k * 2 + 1, none⟩ = some (.int .i64 y) := (Chg.of_below (S := NoBlk) HB.out).cell hcy (fun h => h)
          have hk1 : (0 : Int) ≤ (k : Int) := by omega
          have hk2 : (k : Int) < (len : Int) := by omega
          clear hcx hcy
          by_cases hgood : hasS m x = true ∧ tk y = true
          · obtain ⟨hx, hy⟩ := hgood
            have hx2 : 0 ≤ x ∧ x < m := by simpa [hasS] using hx
            obtain ⟨x, rfl⟩ := Int.eq_ofNat_of_zero_le hx2.1
            have hxm : x < m := by omega
            clear hx2
            go_wp2_with fail
            go_region_held3 (fun w' => w'.cell? ⟨bb, off + k * 2, none⟩ = some (.int .i64 x) ∧ w'.cell? ⟨bb, off + k * 2 + 1, none⟩ = some (.int .i64 y))
              (refine ⟨?_, ?_⟩ <;> (first | with_reducible exact d1 | with_reducible exact d2 | with_reducible exact keepD d1 | with_reducible exact keepD d2 | refine Chg.cell (S := fun q => q = g) (by assumption) d1 (by simp only; omega) | refine Chg.cell (S := fun q => q = g) (by assumption) d2 (by simp only; omega)))
              ((go_at_call 17; refine (grant_ok g m x us y _ (show KeepAt wr.drew g m us from HK.out) hxm hy).mono ?_; rintro e w5 ⟨rfl, hk5, hch5⟩; have hch6 : Chg (fun q => q = g) wr w5 := (Chg.refl _ wr).drew.trans hch5; clear hch5))
            have hb5 : Below w.heap.size w w5 := HB.out.trans (hch6.below (B := w.heap.size) HB.out.size (fun k hk e => by omega))
            have ho5 : w5.ownsRow N 43 2 (.slice A q c) q (cellsP al) := hch6.own HO.out (fun j hj e => by have := (HO.out.lt j hj).1; omega)
            have hs5 : N ≤ w5.heap.size := Nat.le_trans hNv hch6.size
            have e1 : w5.cell? ⟨bb, off + k * 2, none⟩ = some (.int .i64 x) := hch6.cell d1 (by simp only; omega)
            have e2 : w5.cell? ⟨bb, off + k * 2 + 1, none⟩ = some (.int .i64 y) := hch6.cell d2 (by simp only; omega)
            have HB5 := Lib.hid hb5
            have HO5 := Lib.hid ho5
            have HK5 := Lib.hid hk5
            clear hb5 ho5 hk5 hch6 d1 d2
            have hy0 : 0 ≤ y ∧ y < 1099511627776 := by simpa [tk] using hy
            obtain ⟨hy1, hy2⟩ := hy0
            have hx3 : (0 : Int) ≤ (x : Int) := by omega
            have hx4 : (x : Int) < (m : Int) := by omega
            go_wp2_with fail
            refine (rtick_any y _).mono ?_
            rintro e w' ⟨rfl, rfl⟩
            rw [hy]
            go_wp2_with fail
            have hq62 : q + 1 ≤ maxLen := by unfold maxLen; omega
            go_region_law
              (refine step_append_row _ rfl (.tmp 125) (.tmp 137) _ rfl N 43 i0 _ 2 16 Try.underlying41 hi hz0 hz1 hz2 rfl (by omega) A q c (cellsP al) rfl (HO5.out.alloc _) (w5.heap.size + 1) (some ⟨w5.heap.size, 0, none⟩) 1 1 [.int .i64 (x : Int), .int .i64 y] rfl (cellsIn_drew (cellsIn_alloc w5 #[.int .i64 (x : Int), .int .i64 y] 43 (0, 0) 2 1 rfl)) (by simp [Value.oneCell']) hq62 (by omega) (by simp; omega) ?_; intro A3 c3 w7 hown7 hg7 _; have HO7 := Lib.hid hown7; have HG7 := Lib.hid hg7; clear hown7 hg7)
            all_goals
              have HB7 := Lib.hid ((HB5.out.alloc HB5.out.size (.cells #[.int .i64 (x : Int), .int .i64 y] 43)).drew.grown HG7.out (by simp; omega) (fun j hj => Nat.le_trans hwN (HO5.out.lt j hj).1))
              have HK7 := Lib.hid (HK5.out.chg (S := fun j => N ≤ j) (((Chg.refl _ w5).alloc (.cells #[.int .i64 (x : Int), .int .i64 y] 43)).drew.grown HG7.out (fun j hj => .inr (HO5.out.lt j hj).1)) (by omega))
              have hs7 : N ≤ w7.heap.size := by have := HG7.out.size; simp at this; omega
              have HO8 : Hid (w7.ownsRow N 43 2 (.slice A3 (q + 1) c3) (q + 1) (cellsP (al ++ [((x : Int), y)]))) := Lib.hid (by rw [cellsP_snoc]; exact HO7.out)
              have HL8 : Hid ((al ++ [((x : Int), y)]).length = q + 1) := Lib.hid (by rw [List.length_append, HLN.out]; rfl)
              have HN8 := Lib.hid (HKN.out.grant HK.out.1 hm x hxm y)
              have HT8 := Lib.hid (HTK.out.snoc (x : Int) y hy1 hy2)
              go_wp2_with fail
              go_roundw
              case rel => exact ⟨k + 1, q + 1, A3, c3, _, _, by omega, by omega, by go_num, rfl, by omega, hs7, HL8, HO8, HK7, HN8, HT8, HB7⟩
              case measure => simp [intOf]; omega
          · have hbad : (hasS m x && tk y) = false := by
              cases h1 : hasS m x <;> cases h2 : tk y <;> simp_all
            go_wp2_with fail
            go_region_held3 (fun w' => w'.cell? ⟨bb, off + k * 2, none⟩ = some (.int .i64 x) ∧ w'.cell? ⟨bb, off + k * 2 + 1, none⟩ = some (.int .i64 y))
              (refine ⟨?_, ?_⟩ <;> (first | with_reducible exact d1 | with_reducible exact d2 | with_reducible exact keepD d1 | with_reducible exact keepD d2))
              ((go_at_call 17; refine (grant_no g m us x y _ (show KeepAt wr.drew g m us from HK.out) hbad).mono ?_; rintro e w5 ⟨rfl, rfl⟩))
            have hb5 : Below w.heap.size w wr.drew := HB.out.drew
            have ho5 : wr.drew.ownsRow N 43 2 (.slice A q c) q (cellsP al) := HO.out
            have hk5 : KeepAt wr.drew g m us := HK.out
            have hs5 : N ≤ wr.drew.heap.size := hNv
            have e1 : wr.drew.cell? ⟨bb, off + k * 2, none⟩ = some (.int .i64 x) := keepD d1
            have e2 : wr.drew.cell? ⟨bb, off + k * 2 + 1, none⟩ = some (.int .i64 y) := keepD d2
            have HB5 := Lib.hid hb5
            have HO5 := Lib.hid ho5
            have HK5 := Lib.hid hk5
            clear hb5 ho5 hk5 d1 d2 HB HO HK hNv
            generalize wr.drew = w5 at HB5 HO5 HK5 hs5 e1 e2 ⊢
            go_wp2_with fail
            refine (rtick_any y _).mono ?_
            rintro e w' ⟨rfl, rfl⟩
            by_cases hx1 : x < 0
            · go_wp2_with fail
              go_roundw
              case rel => exact ⟨k + 1, q, A, c, us, al, by omega, by omega, by go_num, rfl, by omega, hs5, HLN, HO5, HK5, HKN, HTK, HB5⟩
              case measure => simp [intOf]; omega
            by_cases hx2 : (m : Int) ≤ x
            · go_wp2_with fail
              go_roundw
              case rel => exact ⟨k + 1, q, A, c, us, al, by omega, by omega, by go_num, rfl, by omega, hs5, HLN, HO5, HK5, HKN, HTK, HB5⟩
              case measure => simp [intOf]; omega
            have hT : tk y = false := by
              have : hasS m x = true := by simp [hasS]; omega
              rw [this] at hbad; simpa using hbad
            rw [hT]
            clear hT hbad
            go_wp2_with fail
            go_roundw
            case rel => exact ⟨k + 1, q, A, c, us, al, by omega, by omega, by go_num, rfl, by omega, hs5, HLN, HO5, HK5, HKN, HTK, HB5⟩
            case measure => simp [intOf]; omega
        · have hend2 : ¬ k < len ∨ (k < len ∧ ¬ k < 40) := by omega
          clear hend
          rcases hend2 with hend | ⟨hend0, hend⟩
          all_goals
            have hqq : al.length ≤ 1000 := by rw [HLN.out]; omega
            have hpi := (pairsIn_of_own HO.out).2
            have HPI := Lib.hid hpi
            clear hpi
            go_wp2_with fail
            go_loop [18] (fun i => ∃ j : Int, (-1 : Int) ≤ j ∧ j ≤ 18 ∧ i = .int .i64 j) (fun i => Int.toNat ((18 : Int) - intOf i))
            case atStart => exact ⟨-1, by omega, by omega, rfl⟩
            case round =>
              obtain ⟨j, hj1, hj2, rfl⟩ := hrel
              by_cases hj : j ≤ 17
              · go_wp2_with fail
                refine (runtil_n A c wr.heap.size q al j _ HPI.out HTK.out hqq HLN.out).mono ?_
                rintro e w' ⟨rfl, rfl⟩
                have hu := keeper_until g m us al j wr HK.out HKN.out
                have hln := keeper_lost_in g m us al j n wr HK.out HKN.out
                have hlo := keeper_lost_out g m us j n wr HK.out
                generalize untilS al j = T at hu hln ⊢
                cases hS : hasS m j
                · have hlo := hlo hS
                  have hlo' := Lib.hid hlo
                  have hu' := Lib.hid hu
                  clear hln hlo hu
                  by_cases h0 : 0 ≤ j
                  · have hjm : ¬ j < (m : Int) := by
                      intro h; have : hasS m j = true := by simp [hasS]; omega
                      rw [this] at hS; cases hS
                    clear hS
                    go_wp2_with fail
                    refine hu'.out.mono ?_
                    rintro e w' ⟨rfl, rfl⟩
                    go_wp2_with fail
                    refine hlo'.out.mono ?_
                    rintro e w' ⟨rfl, rfl⟩
                    go_wp2_with fail
                    go_round
                    case rel => exact ⟨j + 1, by omega, by omega, by go_num⟩
                    case measure => simp [intOf]; omega
                  · clear hS
                    go_wp2_with fail
                    refine hu'.out.mono ?_
                    rintro e w' ⟨rfl, rfl⟩
                    go_wp2_with fail
                    refine hlo'.out.mono ?_
                    rintro e w' ⟨rfl, rfl⟩
                    go_wp2_with fail
                    go_round
                    case rel => exact ⟨j + 1, by omega, by omega, by go_num⟩
                    case measure => simp [intOf]; omega
                · have hln := hln hS
                  have hln' := Lib.hid hln
                  have hu' := Lib.hid hu
                  clear hln hlo hu
                  have hjm : 0 ≤ j ∧ j < (m : Int) := by simpa [hasS] using hS
                  obtain ⟨hj3, hj4⟩ := hjm
                  clear hS
                  go_wp2_with fail
                  refine hu'.out.mono ?_
                  rintro e w' ⟨rfl, rfl⟩
                  by_cases hTn : T ≤ n
                  · rw [decide_eq_true hTn] at hln'
                    go_wp2_with fail
                    refine hln'.out.mono ?_
                    rintro e w' ⟨rfl, rfl⟩
                    go_wp2_with fail
                    go_round
                    case rel => exact ⟨j + 1, by omega, by omega, by go_num⟩
                    case measure => simp [intOf]; omega
                  · rw [decide_eq_false hTn] at hln'
                    go_wp2_with fail
                    refine hln'.out.mono ?_
                    rintro e w' ⟨rfl, rfl⟩
                    go_wp2_with fail
                    go_round
                    case rel => exact ⟨j + 1, by omega, by omega, by go_num⟩
                    case measure => simp [intOf]; omega
              · go_wp2_with fail
                go_ret
                exact ⟨rfl, HB.out⟩
theorem law_keeps (m b n : Int) (a : Option Addr) (len cap : Nat) (gs : List (Int × Int)) (w : World) (hl : len = gs.length) (hp : PairsIn w w.heap.size a gs) :
    Calls Try.prog 4 #[.agg #[.int .i64 m, .int .i64 b], .slice a len cap, .int .i64 n] w fun e w' => e = .returned (.bool true) ∧ Below w.heap.size w w' := by
  by_cases h : 0 ≤ m ∧ m ≤ 16 ∧ tk b = true
  · obtain ⟨h1, h2, h3⟩ := h
    obtain ⟨k, rfl⟩ := Int.eq_ofNat_of_zero_le h1
    exact keeps_yes k b n a len cap gs w (by omega) h3 hl hp
  · refine keeps_no m b n a len cap w ?_
    rw [Bool.eq_false_iff]
    intro h'
    simp only [Bool.and_eq_true, decide_eq_true_eq] at h'
    exact h ⟨h'.1.1, h'.1.2, h'.2⟩
end Go.Proofs.Ytcpaimgenfbidaa
