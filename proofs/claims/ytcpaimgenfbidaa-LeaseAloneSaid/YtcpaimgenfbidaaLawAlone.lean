/- The law LeaseAlone: the walk. -/
import Derived.Test.YtcpaimgenfbidaaLawTakes
import Derived.Test.YtcpaimgenfbidaaAlone
import Derived.Deep.RegionHeld3
import Derived.Deep.CutRange
import Derived.Deep.LoopGhost
namespace Go.Proofs.Ytcpaimgenfbidaa
open Go.RowKit

set_option maxRecDepth 10000 in
set_option maxHeartbeats 4000000 in
theorem law_alone (a : Option Addr) (len cap : Nat) (gs : List St) (w : World) (hl : len = gs.length) (hp : StepsIn w w.heap.size a gs) :
    Calls Try.prog 6 #[.slice a len cap] w fun e w' => e = .returned (.bool true) ∧ Below w.heap.size w w' := by
  have HL := Lib.hid hl
  have HP := Lib.hid hp
  clear hl hp
  go_enter Try.func6, Try.ntmps6
  go_wp2_with fail
  refine (awake_any _).mono ?_
  rintro e w1 ⟨rfl, hbel1⟩
  have HB1 := Lib.hid hbel1
  clear hbel1
  go_wp2_with fail
  refine (new_any 9 w1).mono ?_
  rintro e w2 ⟨rfl, hd2, hb2⟩
  obtain ⟨g, hg⟩ : ∃ g, g = w1.heap.size := ⟨_, rfl⟩
  rw [← hg] at hd2 ⊢
  have hgw : w.heap.size ≤ g := by rw [hg]; exact HB1.out.size
  have hg2 : g < w2.heap.size := hd2.lt
  have HB2 := Lib.hid (HB1.out.trans (hb2.mono (by omega)))
  have HD2 := Lib.hid hd2
  clear hb2 hd2 hg
  go_wp2_with fail
  obtain ⟨p, hpp⟩ : ∃ p, p = w2.heap.size := ⟨_, rfl⟩
  have hgp : g < p := by omega
  have hwp : w.heap.size ≤ p := by omega
  have harr : ArrAt (w2.alloc (.cells #[.int .i64 0, .int .i64 0, .int .i64 0, .int .i64 0, .int .i64 0, .int .i64 0, .int .i64 0, .int .i64 0, .int .i64 0, .int .i64 0, .int .i64 0, .int .i64 0] 55)) p [z0, z0, z0, z0] := by
    refine ⟨rfl, ?_⟩
    rw [hpp, heap_alloc_new]
    rfl
  have HA3 := Lib.hid harr
  have HD3 := Lib.hid (HD2.out.chg ((Chg.refl NoBlk w2).alloc (.cells #[.int .i64 0, .int .i64 0, .int .i64 0, .int .i64 0, .int .i64 0, .int .i64 0, .int .i64 0, .int .i64 0, .int .i64 0, .int .i64 0, .int .i64 0, .int .i64 0] 55)) (fun h => h))
  have HB3 := Lib.hid (HB2.out.alloc (by omega) (.cells #[.int .i64 0, .int .i64 0, .int .i64 0, .int .i64 0, .int .i64 0, .int .i64 0, .int .i64 0, .int .i64 0, .int .i64 0, .int .i64 0, .int .i64 0, .int .i64 0] 55))
  rw [← hpp]
  clear harr hpp HD2 HB2
  go_loopg [5, 7, 8, 9] len (fun gk s5 s7 s8 s9 wr => ∃ (j : Nat) (now E H : Int) (D : Cl) (cl : List Cl), j ≤ len ∧ j ≤ 60 ∧ gk = len - j ∧ s5 = .int .i64 now ∧ s7 = .int .i64 E ∧ s8 = .int .i64 H ∧ s9 = .int .i64 j ∧ p < wr.heap.size ∧ Hid (Lead j j now D E H cl) ∧ Hid (DiskAt wr g D) ∧ Hid (ArrAt wr p cl) ∧ Hid (Below w.heap.size w wr))
  case atStart => exact ⟨0, 0, 0, -1, z0, _, Nat.zero_le _, Nat.zero_le _, rfl, rfl, rfl, rfl, rfl, HA3.out.lt, Lib.hid Lead.start, HD3, HA3, HB3⟩
  case round =>
    clear HA3 HB3 HD3
    obtain ⟨j, now, E, H, D, cl, hj, hj60, rfl, rfl, rfl, rfl, rfl, hpw, HLe, HD, HA, HB⟩ := hrel
    by_cases hend : j < len ∧ j < 60
    · obtain ⟨hlt, hlt60⟩ := hend
      obtain ⟨bb, off, rfl, s, c0, c1, c2⟩ : ∃ bb off, a = some ⟨bb, off, none⟩ ∧ ∃ s : St, w.cell? ⟨bb, off + j * 3, none⟩ = some (.int .i64 s.who) ∧ w.cell? ⟨bb, off + j * 3 + 1, none⟩ = some (.bool s.ren) ∧ w.cell? ⟨bb, off + j * 3 + 2, none⟩ = some (.int .i64 s.t) := by
        have hjl : j < gs.length := by rw [← HL.out]; exact hlt
        rcases HP.out with h | ⟨bb, off, rfl, _, h⟩
        · rw [h] at hjl; simp at hjl
        · exact ⟨bb, off, rfl, h j hjl⟩
      have d0 : wr.cell? ⟨bb, off + j * 3, none⟩ = some (.int .i64 s.who) := (Chg.of_below (S := NoBlk) HB.out).cell c0 (fun h => h)
      have d1 : wr.cell? ⟨bb, off + j * 3 + 1, none⟩ = some (.bool s.ren) := (Chg.of_below (S := NoBlk) HB.out).cell c1 (fun h => h)
      have d2 : wr.cell? ⟨bb, off + j * 3 + 2, none⟩ = some (.int .i64 s.t) := (Chg.of_below (S := NoBlk) HB.out).cell c2 (fun h => h)
      obtain ⟨swho, sren, st⟩ := s
      simp only at d0 d1 d2
      have hj1 : (0 : Int) ≤ (j : Int) := by omega
      have hj2 : (j : Int) < (len : Int) := by omega
      have HN1 := Lib.hid (HLe.out.n0)
      have hn0 := HLe.out.n0
      have hn1 : now ≤ 1860 := by have := HLe.out.n1; omega
      clear c0 c1 c2
      obtain ⟨x, hx3, ex⟩ := and_small swho 3 (by omega)
      obtain ⟨t, ht, et⟩ := and_small st 31 (by omega)
      have ex' : bits BinOp.and .i64 swho 3 = (x : Int) := ex
      have et' : bits BinOp.and .i64 st 31 = (t : Int) := et
      have hx4 : x < 4 := by omega
      have HLt := Lib.hid (HLe.out.tick (t : Int) (by omega) (by omega))
      clear ex et hx3
      go_upto_region 15 with fail
      have hB4 : Below w.heap.size w (wr.alloc (.cells #[.int .i64 swho, .bool sren, .int .i64 st] 57)) := HB.out.alloc HB.out.size _
      have hch4 : Chg NoBlk wr (wr.alloc (.cells #[.int .i64 swho, .bool sren, .int .i64 st] 57)) := (Chg.refl _ wr).alloc _
      have HB4 := Lib.hid hB4
      have HD4 := Lib.hid (HD.out.chg hch4 (fun h => h))
      have HA4 := Lib.hid (HA.out.chg hch4 (fun h => h))
      have hnow : ∃ nw, nw = now + (t : Int) := ⟨_, rfl⟩
      obtain ⟨nw, hnw⟩ := hnow
      have hp4 : p < wr.heap.size + 1 := by omega
      rw [← hnw] at HLt ⊢
      have hnw0 : 0 ≤ nw := by omega
      have hnw1 : nw ≤ 1900 := by omega
      clear hnw hB4 hch4 d0 d1 d2 ex' et' HB HD HA HLe HN1 hn0 hn1
      have HLT := HLt
      have htk := HLt.out.tk (by omega)
      have hDe := HLt.out.hD
      have hDe0 := HLt.out.e0
      have hDe1 := HLt.out.e1
      have hDu := HLt.out.du
      have hcx := HLt.out.u x hx4
      have hx0 : (0 : Int) ≤ (x : Int) := by omega
      have hx5 : (x : Int) < 4 := by omega
      go_upto_if 46 with fail
      go_cut [7, 8] from 23 to 178 (fun s7 s8 w' => ∃ (D' : Cl) (E' H' : Int) (cl' : List Cl), s7 = .int .i64 E' ∧ s8 = .int .i64 H' ∧ p < w'.heap.size ∧ Hid (Lead (j + 1) (j + 1) nw D' E' H' cl') ∧ Hid (DiskAt w' g D') ∧ Hid (ArrAt w' p cl') ∧ Hid (Below w.heap.size w w'))
      case first =>
        generalize hW4 : wr.alloc (.cells #[.int .i64 swho, .bool sren, .int .i64 st] 57) = w4 at HB4 HD4 HA4 ⊢
        have hp5 : p < w4.heap.size := HA4.out.lt
        have hg5 : g < w4.heap.size := by omega
        have hw5 : w.heap.size ≤ w4.heap.size := HB4.out.size
        clear hW4
        cases sren
        · have htake := take_any g D (x : Int) nw w4 HD4.out (by omega) (by omega)
          cases hheld : heldS D (x : Int) nw
          · obtain ⟨q1, q2, q3, q4, q5⟩ := HLt.out.take_ok (by omega) (by omega) x hx4 hheld
            rw [q1, q2, q3] at htake
            have HT := Lib.hid htake
            have HF := Lib.hid q4
            have HL5 := Lib.hid q5
            clear htake q1 q2 q3 q4 q5 hheld htk
            go_wp2_with fail
            refine HT.out.mono ?_
            rintro e w5 ⟨rfl, hd5, hch5⟩
            have hp6 : p < w5.heap.size := Nat.lt_of_lt_of_le hp5 hch5.size
            have hg6 : g < w5.heap.size := by omega
            have HB5 := Lib.hid (HB4.out.trans (hch5.below (B := w.heap.size) hw5 (fun k hk e => by omega)))
            have HA5 := Lib.hid (HA4.out.chg hch5 (by omega))
            have HD5 := Lib.hid hd5
            have hw6 : w.heap.size ≤ w5.heap.size := HB5.out.size
            have hn : Chg NoBlk w5 (w5.alloc (.cells #[.int .i64 (E + 1), .int .i64 (x : Int), .int .i64 (nw + 40)] 23)) := (Chg.refl _ _).alloc _
            have HC6 := Lib.hid (C3.new w5 ⟨E + 1, x, nw + 40⟩)
            have HB6 := Lib.hid (HB5.out.alloc hw6 (.cells #[.int .i64 (E + 1), .int .i64 (x : Int), .int .i64 (nw + 40)] 23))
            have HA6 := Lib.hid (HA5.out.chg hn (fun h => h))
            have HD6 := Lib.hid (HD5.out.chg hn (fun h => h))
            clear hd5 hch5 hn HT
            go_wp2_with fail
            generalize hW6 : w5.alloc (.cells #[.int .i64 (E + 1), .int .i64 (x : Int), .int .i64 (nw + 40)] 23) = w6 at HB6 HD6 HA6 HC6 ⊢
            have hs6 : w6.heap.size = w5.heap.size + 1 := by rw [← hW6]; simp
            clear hW6 HB5 HA5 HD5
            go_loop [16] (fun s16 => ∃ k : Nat, k ≤ 4 ∧ s16 = .int .i64 (k : Int)) (fun s16 => 4 - (intOf s16).toNat)
            case atStart => exact ⟨0, by omega, rfl⟩
            case round =>
              obtain ⟨k, hk, rfl⟩ := hrel
              by_cases hk4 : k < 4
              · have hk1 : (0 : Int) ≤ (k : Int) := by omega
                have hk2 : (k : Int) < 4 := by omega
                have hk3 := HLT.out.u k hk4
                obtain ⟨c0, _, c2, _⟩ := HA6.out.get k hk4
                by_cases hkx : k = x
                · have hkx' : (k : Int) = (x : Int) := by omega
                  clear hkx
                  go_wp2_with fail
                  go_round
                  case rel => exact ⟨k + 1, by omega, by go_num⟩
                  case measure => simp [intOf]; omega
                · have hkx' : ¬ (k : Int) = (x : Int) := by omega
                  have hfr := HF.out k hk4 hkx
                  generalize at4 cl k = ck at hfr c0 c2 hk3
                  obtain ⟨ce, ch, cu⟩ := ck
                  simp only at hfr c0 c2 hk3
                  clear hkx
                  rcases hfr with hfr | hfr
                  · go_wp2_with fail
                    go_round
                    case rel => exact ⟨k + 1, by omega, by go_num⟩
                    case measure => simp [intOf]; omega
                  · have hfr' : ¬ nw < cu + 2 := by omega
                    clear hfr
                    by_cases hce : 0 < ce
                    · go_wp2_with fail
                      go_round
                      case rel => exact ⟨k + 1, by omega, by go_num⟩
                      case measure => simp [intOf]; omega
                    · go_wp2_with fail
                      go_round
                      case rel => exact ⟨k + 1, by omega, by go_num⟩
                      case measure => simp [intOf]; omega
              · obtain ⟨c0, c1, c2, hf⟩ := HA6.out.get x hx4
                have f0 := hf (x * 3)
                have f1 := hf (x * 3 + 1)
                have f2 := hf (x * 3 + 2)
                obtain ⟨e0, e1, e2⟩ := C3i HC6.out
                simp only at e0 e1 e2
                clear hf
                have HA7 := Lib.hid (HA6.out.set x hx4 ⟨E + 1, x, nw + 40⟩)
                have hch7 : Chg (fun q => q = p) w6 (((w6.setCell ⟨p, x * 3, none⟩ (.int .i64 (E + 1))).setCell ⟨p, x * 3 + 1, none⟩ (.int .i64 (x : Int))).setCell ⟨p, x * 3 + 2, none⟩ (.int .i64 (nw + 40))) := chg_set3 _ _ _ _ _ _ _ _
                have HD7 := Lib.hid (HD6.out.chg hch7 (by omega))
                have HB7 := Lib.hid (HB6.out.trans (hch7.below (B := w.heap.size) (by omega) (fun k hk e => by omega)))
                clear hch7
                go_wp2_with fail
                go_meet
                case rel => exact ⟨_, _, _, _, rfl, rfl, by simp; omega, HL5, HD7, HA7, HB7⟩
          · obtain ⟨q1, q2, q3, h, hh4, rfl, hhx, hlt⟩ := HLt.out.take_no (by omega) x hheld
            have q2' : takeC D (x : Int) nw = ⟨0, 0, 0⟩ := q2
            rw [q1, q2', q3] at htake
            have HT := Lib.hid htake
            have hhu := HLT.out.u h hh4
            have hhx' : ((h : Int) == (x : Int)) = false := by rw [beq_eq_false_iff_ne]; omega
            have hh1 : (0 : Int) ≤ (h : Int) := by omega
            have hh2 : (h : Int) < 4 := by omega
            clear htake q1 q2 q2' q3 hheld htk hhx
            go_wp2_with fail
            refine HT.out.mono ?_
            rintro e w5 ⟨rfl, hd5, hch5⟩
            have hp6 : p < w5.heap.size := Nat.lt_of_lt_of_le hp5 hch5.size
            have HB5 := Lib.hid (HB4.out.trans (hch5.below (B := w.heap.size) hw5 (fun k hk e => by omega)))
            have HA5 := Lib.hid (HA4.out.chg hch5 (by omega))
            have HD5 := Lib.hid hd5
            have hw6 : w.heap.size ≤ w5.heap.size := HB5.out.size
            have hn : Chg NoBlk w5 (w5.alloc (.cells #[.int .i64 0, .int .i64 0, .int .i64 0] 23)) := (Chg.refl _ _).alloc _
            have HB6 := Lib.hid (HB5.out.alloc hw6 (.cells #[.int .i64 0, .int .i64 0, .int .i64 0] 23))
            have HA6 := Lib.hid (HA5.out.chg hn (fun h => h))
            have HD6 := Lib.hid (HD5.out.chg hn (fun h => h))
            have hp7 : p < w5.heap.size + 1 := by omega
            obtain ⟨c0, c1, c2, _⟩ := HA6.out.get h hh4
            generalize at4 cl h = ck at c0 c1 c2 hhu hlt
            obtain ⟨ce, ch, cu⟩ := ck
            simp only at c0 c1 c2 hhu hlt
            clear hd5 hch5 hn HT
            go_wp2_with fail
            go_meet
            case rel => exact ⟨_, _, _, _, rfl, rfl, by simp; omega, Lib.hid HLT.out.more, HD6, HA6, HB6⟩
        · obtain ⟨c0, c1, c2, _⟩ := HA4.out.get x hx4
          have hren := renew_any g D (at4 cl x) nw w4 HD4.out
          by_cases hr : renewE D (at4 cl x) nw = 0
          · obtain ⟨rfl, q2, q3, q4, q5, q6⟩ := HLt.out.renew_ok x hx4 hr
            rw [hr, q5] at hren
            obtain ⟨X, hX⟩ : ∃ X, X = renewC D (at4 cl x) nw := ⟨_, rfl⟩
            rw [← hX] at hren q3 q4 q6
            have HL5 := Lib.hid q6
            have HT := Lib.hid hren
            clear hX q5 q6 hren hr
            generalize hcxx : at4 cl x = cx at c0 c1 c2 q2 q3 q4 hcx HT
            have HCX := Lib.hid hcxx
            have hXu : ¬ X.u < cx.u := q4
            have hXe : (X.e != cx.e) = false := by rw [q3]; simp
            clear q4 hcxx q3
            go_wp2_with fail
            refine HT.out.mono ?_
            rintro e w5 ⟨rfl, hd5, hch5⟩
            have hp6 : p < w5.heap.size := Nat.lt_of_lt_of_le hp5 hch5.size
            have hg6 : g < w5.heap.size := by omega
            have HB5 := Lib.hid (HB4.out.trans (hch5.below (B := w.heap.size) hw5 (fun k hk e => by omega)))
            have HA5 := Lib.hid (HA4.out.chg hch5 (by omega))
            have HD5 := Lib.hid hd5
            have hw6 : w.heap.size ≤ w5.heap.size := HB5.out.size
            have hn : Chg NoBlk w5 (w5.alloc (.cells #[.int .i64 X.e, .int .i64 X.h, .int .i64 X.u] 23)) := (Chg.refl _ _).alloc _
            have HC6 := Lib.hid (C3.new w5 X)
            have HB6 := Lib.hid (HB5.out.alloc hw6 (.cells #[.int .i64 X.e, .int .i64 X.h, .int .i64 X.u] 23))
            have HA6 := Lib.hid (HA5.out.chg hn (fun h => h))
            have HD6 := Lib.hid (HD5.out.chg hn (fun h => h))
            clear hd5 hch5 hn HT c0 c1 c2
            have hs6 : w5.heap.size < (w5.alloc (.cells #[.int .i64 X.e, .int .i64 X.h, .int .i64 X.u] 23)).heap.size := HC6.out.1
            go_wp2_with fail
            generalize w5.alloc (.cells #[.int .i64 X.e, .int .i64 X.h, .int .i64 X.u] 23) = w6 at HB6 HD6 HA6 HC6 hs6 ⊢
            obtain ⟨y0, y1, y2⟩ := C3i HC6.out
            obtain ⟨p0, p1, p2, _⟩ := HA6.out.get x hx4
            rw [HCX.out] at p0 p1 p2
            have hXd : decide (X.u < cx.u) = false := by rw [decide_eq_false_iff_not]; omega
            clear hXu
            go_region_held3 (fun w' => w'.cell? ⟨w5.heap.size, 0, none⟩ = some (.int .i64 X.e) ∧ w'.cell? ⟨w5.heap.size, 1, none⟩ = some (.int .i64 X.h) ∧ w'.cell? ⟨w5.heap.size, 2, none⟩ = some (.int .i64 X.u) ∧
                w'.cell? ⟨p, x * 3, none⟩ = some (.int .i64 cx.e) ∧ w'.cell? ⟨p, x * 3 + 1, none⟩ = some (.int .i64 cx.h) ∧ w'.cell? ⟨p, x * 3 + 2, none⟩ = some (.int .i64 cx.u))
              (refine ⟨?_, ?_, ?_, ?_, ?_, ?_⟩ <;> (repeat (first | with_reducible exact y0 | with_reducible exact y1 | with_reducible exact y2 | with_reducible exact p0 | with_reducible exact p1 | with_reducible exact p2 | with_reducible apply keepD | with_reducible apply keepA)))
              ((go_at_call 14; refine (leads_any cx nw _).mono ?_; rintro e w' ⟨rfl, rfl⟩; rw [q2]))
            have hn : Chg NoBlk w6 (w6.alloc (.cells #[.int .i64 cx.e, .int .i64 cx.h, .int .i64 cx.u] 23)).drew := ((Chg.refl _ _).alloc _).drew
            have HC7 := Lib.hid (HC6.out.chg hn (fun h => h))
            have HB7 := Lib.hid (HB6.out.trans (hn.below (B := w.heap.size) HB6.out.size (fun k hk e => e)))
            have HA7 := Lib.hid (HA6.out.chg hn (fun h => h))
            have HD7 := Lib.hid (HD6.out.chg hn (fun h => h))
            clear hn y0 y1 y2 p0 p1 p2 q2 hXe hXd
            generalize (w6.alloc (.cells #[.int .i64 cx.e, .int .i64 cx.h, .int .i64 cx.u] 23)).drew = w7 at HB7 HD7 HA7 HC7 ⊢
            have hp7 : p < w7.heap.size := HA7.out.lt
            have hw7 : w.heap.size ≤ w7.heap.size := HB7.out.size
            obtain ⟨c0, c1, c2, hf⟩ := HA7.out.get x hx4
            have f0 := hf (x * 3)
            have f1 := hf (x * 3 + 1)
            have f2 := hf (x * 3 + 2)
            obtain ⟨e0, e1, e2⟩ := C3i HC7.out
            clear hf
            have HA8 := Lib.hid (HA7.out.set x hx4 X)
            have hch8 : Chg (fun q => q = p) w7 (((w7.setCell ⟨p, x * 3, none⟩ (.int .i64 X.e)).setCell ⟨p, x * 3 + 1, none⟩ (.int .i64 X.h)).setCell ⟨p, x * 3 + 2, none⟩ (.int .i64 X.u)) := chg_set3 _ _ _ _ _ _ _ _
            have HD8 := Lib.hid (HD7.out.chg hch8 (by omega))
            have HB8 := Lib.hid (HB7.out.trans (hch8.below (B := w.heap.size) (by omega) (fun k hk e => by omega)))
            clear hch8
            go_wp2_with fail
            go_meet
            case rel => exact ⟨_, _, _, _, rfl, rfl, by simp; omega, HL5, HD8, HA8, HB8⟩
          · have q : (renewE D (at4 cl x) nw == 0) = false := by rw [beq_eq_false_iff_ne]; exact hr
            rw [renewD_no hr] at hren
            obtain ⟨X, hX⟩ : ∃ X, X = renewC D (at4 cl x) nw := ⟨_, rfl⟩
            rw [← hX] at hren
            generalize renewE D (at4 cl x) nw = F at q hren
            have HT := Lib.hid hren
            clear hX hren hr
            generalize at4 cl x = cx at c0 c1 c2 HT hcx
            go_wp2_with fail
            refine HT.out.mono ?_
            rintro e w5 ⟨rfl, hd5, hch5⟩
            have hp6 : p < w5.heap.size := Nat.lt_of_lt_of_le hp5 hch5.size
            have HB5 := Lib.hid (HB4.out.trans (hch5.below (B := w.heap.size) hw5 (fun k hk e => by omega)))
            have HA5 := Lib.hid (HA4.out.chg hch5 (by omega))
            have HD5 := Lib.hid hd5
            have hw6 : w.heap.size ≤ w5.heap.size := HB5.out.size
            have hn : Chg NoBlk w5 (w5.alloc (.cells #[.int .i64 X.e, .int .i64 X.h, .int .i64 X.u] 23)) := (Chg.refl _ _).alloc _
            have HB6 := Lib.hid (HB5.out.alloc hw6 (.cells #[.int .i64 X.e, .int .i64 X.h, .int .i64 X.u] 23))
            have HA6 := Lib.hid (HA5.out.chg hn (fun h => h))
            have HD6 := Lib.hid (HD5.out.chg hn (fun h => h))
            clear hd5 hch5 hn HT c0 c1 c2
            go_wp2_with fail
            go_meet
            case rel => exact ⟨_, _, _, _, rfl, rfl, by simp; omega, Lib.hid HLT.out.more, HD6, HA6, HB6⟩
      case rest =>
        clear HB4 HD4 HA4
        obtain ⟨D', E', H', cl', rfl, rfl, hpc, HL', HD', HA', HB'⟩ := hcut
        go_wp2_with fail
        go_loopw [17, 18] (fun s17 s18 wr => ∃ (m k : Nat), k ≤ 4 ∧ m ≤ 1 ∧ (k ≤ H'.toNat → m = 0) ∧ s17 = .int .i64 (m : Int) ∧ s18 = .int .i64 (k : Int) ∧ p < wr.heap.size ∧ Hid (DiskAt wr g D') ∧ Hid (ArrAt wr p cl') ∧ Hid (Below w.heap.size w wr)) (fun _ s18 _ => 4 - (intOf s18).toNat)
        case atStart => exact ⟨0, 0, by omega, by omega, fun _ => rfl, rfl, rfl, hpc, HD', HA', HB'⟩
        case round =>
          clear HD' HA' HB' hpc
          obtain ⟨m, k, hk, hm, hmH, rfl, rfl, hpc, HD', HA', HB'⟩ := hrel
          by_cases hk4 : k < 4
          · have hk1 : (0 : Int) ≤ (k : Int) := by omega
            have hk2 : (k : Int) < 4 := by omega
            obtain ⟨c0, c1, c2, _⟩ := HA'.out.get k hk4
            have hone := HL'.out.one k hk4
            have hch : Chg NoBlk wr (wr.alloc (.cells #[.int .i64 (at4 cl' k).e, .int .i64 (at4 cl' k).h, .int .i64 (at4 cl' k).u] 23)) := (Chg.refl _ _).alloc _
            have HD2 := Lib.hid (HD'.out.chg hch (fun h => h))
            have HA2 := Lib.hid (HA'.out.chg hch (fun h => h))
            have HB2 := Lib.hid (HB'.out.alloc HB'.out.size (.cells #[.int .i64 (at4 cl' k).e, .int .i64 (at4 cl' k).h, .int .i64 (at4 cl' k).u] 23))
            have HMH := Lib.hid hmH
            have HONE := Lib.hid hone
            clear hch hmH hone
            go_wp2_with fail
            refine (leads_any (at4 cl' k) nw wr).mono ?_
            rintro e w' ⟨rfl, rfl⟩
            cases hS : leadsS (at4 cl' k) nw
            · clear HONE
              go_wp2_with fail
              go_roundw
              case rel => exact ⟨m, k + 1, by omega, hm, fun h => HMH.out (by omega), rfl, by go_num, by simp; omega, HD2, HA2, HB2⟩
              case measure => simp [intOf]; omega
            · have hkH : k = H'.toNat := by
                by_cases e : k = H'.toNat
                · exact e
                · rw [HONE.out e] at hS; cases hS
              have hm0 : m = 0 := HMH.out (by omega)
              have HKH := Lib.hid hkH
              subst hm0
              clear hkH HMH HONE
              go_wp2_with fail
              go_roundw
              case rel => exact ⟨1, k + 1, by omega, by omega, fun h => by have := HKH.out; omega, by go_num, by go_num, by simp; omega, HD2, HA2, HB2⟩
              case measure => simp [intOf]; omega
          · clear hmH
            go_wp2_with fail
            go_roundg (len - (j + 1))
            case measure => omega
            case rel => exact ⟨j + 1, nw, E', H', D', cl', by omega, by omega, rfl, rfl, rfl, rfl, by go_num, hpc, HL', HD', HA', HB'⟩
    · have hend2 : ¬ j < len ∨ (j < len ∧ ¬ j < 60) := by omega
      rcases hend2 with hend2 | ⟨hend1, hend2⟩
      all_goals
        go_wp2_with fail
        go_ret
        exact ⟨rfl, HB.out⟩
end Go.Proofs.Ytcpaimgenfbidaa
