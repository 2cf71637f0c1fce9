/- The law DiskKeeps: the walk. -/
import Derived.Test.YtpkefkoimlecjaaAwake
import Derived.Test.YtpkefkoimlecjaaLists
import Derived.Deep.RegionHeld3
import Derived.Deep.LoopGhost
import Derived.Deep.CutRange
namespace Go.Proofs.Ytpkefkoimlecjaa
open Go.RowKit

theorem CellsIn.below {w w' : World} {B B' size m : Nat} {A : Option Addr} {xs : List Value} (h : CellsIn w B size A m xs) (hb : Below B' w w') (hB : B ≤ B') : CellsIn w' B size A m xs := by
  refine ⟨h.len, ?_⟩
  rcases h.rd with e | ⟨b, off, e, hb', hc⟩
  · exact .inl e
  · exact .inr ⟨b, off, e, hb', fun j u hu => (hb.cell (p := ⟨b, off + j, none⟩) (by show b < B'; omega)).trans (hc j u hu)⟩
theorem and_small (x : Int) (m : Nat) (hm : m < 1000) : ∃ k : Nat, k ≤ m ∧ bits .and .i64 x (m : Int) = (k : Int) := by
  have e : (BitVec.ofInt 64 (m : Int)).toNat = m := by rw [BitVec.toNat_ofInt]; omega
  have hle : (BitVec.ofInt 64 x).toNat &&& m ≤ m := Nat.and_le_right
  refine ⟨(BitVec.ofInt 64 x).toNat &&& m, hle, ?_⟩
  show IntKind.i64.wrap (((BitVec.ofInt 64 x &&& BitVec.ofInt 64 (m : Int)).toNat : Nat) : Int) = _
  rw [BitVec.toNat_and, e]
  generalize (BitVec.ofInt 64 x).toNat &&& m = q at hle
  rw [IntKind.wrap_i64]
  omega

theorem str_append (a b : List UInt8) : str (a ++ b) = str a ++ str b := by
  apply ByteArray.ext
  simp [str]

theorem str_extract (l x : List UInt8) (h : x <+: l) : (str l).extract 0 x.length = str x := by
  obtain ⟨t, rfl⟩ := h
  apply ByteArray.ext
  simp [str]

/-- Ahead of round i: the disk's log is all that was told; a cut that is still to come stands at 'cut', and its writing isn't behind. -/
structure Keep (d : Dk) (i x : Nat) (cut : Int) : Prop where
  e : d.c.e = 3
  k : d.cut = true → d.at_ = cut ∧ x < i

set_option maxRecDepth 10000 in
set_option maxHeartbeats 4000000 in
theorem law_keeps (r cut at_ : Int) (cuts : Bool) (Al : Option Addr) (L cl : Nat) (vs : List Value) (ls : List (List UInt8)) (w : World) (hv : CellsIn w w.heap.size 1 Al L vs) (hr : RowsIn w w.heap.size vs ls) (hL : L = ls.length) (hL63 : L ≤ 9223372036854775807) :
    Calls Try.prog 4 #[.int .i64 r, .slice Al L cl, .agg #[.int .i64 cut, .int .i64 at_, .bool cuts]] w fun e w' => e = .returned (.bool true) ∧ Below w.heap.size w w' := by
  have HBA := Lib.hid ((Below.refl w.heap.size w).alloc (Nat.le_refl _) (.cells #[.int .i64 cut, .int .i64 at_, .bool cuts] 38))
  have HL := Lib.hid hL
  have HV := Lib.hid hv
  have HR := Lib.hid hr
  clear hL hv hr
  go_enter Try.func4, Try.ntmps4
  go_wp2_with fail
  refine (awake_any _).mono ?_
  rintro e w1 ⟨rfl, hbel1⟩
  have HB1 := Lib.hid (HBA.out.trans (hbel1.mono (by simp)))
  clear hbel1
  go_wp2_with fail
  refine (new_any r w1).mono ?_
  rintro e w2 ⟨rfl, hd2, hb2⟩
  obtain ⟨g, hg⟩ : ∃ g, g = w1.heap.size := ⟨_, rfl⟩
  rw [← hg] at hd2 ⊢
  have hgw : w.heap.size ≤ g := by rw [hg]; exact HB1.out.size
  have HB2 := Lib.hid (HB1.out.trans (hb2.mono (by omega)))
  have hsw := swap_any g (fresh r) Lay.none ⟨0, 0, 0⟩ ⟨3, 0, 0⟩ w2 hd2
  rw [show swapE (fresh r).c ⟨0, 0, 0⟩ ⟨3, 0, 0⟩ = 0 from by simp [fresh, swapE, z0], show swapC (fresh r).c ⟨0, 0, 0⟩ ⟨3, 0, 0⟩ = ⟨3, 0, 0⟩ from by simp [fresh, swapC, swapE, z0]] at hsw
  have HS := Lib.hid hsw
  have hg2 : g < w2.heap.size := hd2.glt
  clear hb2 hd2 hg hsw
  by_cases hbig : 20 < L
  · go_wp2_with fail
    go_ret
    exact ⟨rfl, HB2.out⟩
  go_wp2_with fail
  refine HS.out.mono ?_
  rintro e w3 ⟨rfl, hd3, hch3⟩
  have HB3 := Lib.hid (HB2.out.trans (hch3.below (B := w.heap.size) (by omega) (fun k hk e => by omega)))
  have HD3 := Lib.hid hd3
  obtain ⟨x, hx15, ex⟩ := and_small at_ 15 (by omega)
  have ex' : bits BinOp.and .i64 at_ 15 = (x : Int) := ex
  clear HS hch3 hd3 ex
  have hemp : (⟨#[]⟩ : ByteArray) = str [] := rfl
  go_wp2_with fail
  go_loopg [11, 12] L (fun gk s11 s12 wr => ∃ (j : Nat) (d : Dk) (y : Lay), j ≤ L ∧ gk = L - j ∧ s11 = .string (str d.log) ∧ s12 = .int .i64 j ∧ Hid (Keep d j x cut) ∧ Hid (DiskAt wr g d y) ∧ Hid (Below w.heap.size w wr))
  case atStart => exact ⟨0, _, _, Nat.zero_le _, rfl, rfl, rfl, Lib.hid ⟨rfl, fun h => by cases h⟩, HD3, HB3⟩
  case round =>
    clear HB3 HD3 HB2
    obtain ⟨j, d, y, hj, rfl, rfl, rfl, HK, HD, HB⟩ := hrel
    by_cases hjL : j < L
    · have hjl : j < ls.length := by have := HL.out; omega
      obtain ⟨A', c', hv1, hr1⟩ := HR.out.2 j hjl
      obtain ⟨bb, off, rfl, hgb, hcell⟩ := HV.out.at_ hv1
      have hcw : wr.cell? ⟨bb, off + j, none⟩ = some (.slice A' ls[j].length c') := (HB.out.cell (p := ⟨bb, off + j, none⟩) hgb).trans hcell
      have hj1 : (0 : Int) ≤ (j : Int) := by omega
      have hj2 : (j : Int) < (L : Int) := by omega
      have hcap := hr1.cap
      have hle := hr1.le
      obtain ⟨b, hb⟩ : ∃ b, b = ls[j] := ⟨_, rfl⟩
      rw [← hb] at hr1 hcw hle
      obtain ⟨N, hN⟩ : ∃ N, N = b.length := ⟨_, rfl⟩
      rw [← hN] at hcw hle
      have HN := Lib.hid hN
      have HRB := Lib.hid hr1
      clear hb hN hr1 hcell hv1 hjl
      by_cases h2000 : 2000 < N
      · go_wp2_with fail
        go_ret
        exact ⟨rfl, HB.out⟩
      · go_upto_if 53 with fail
        go_cut [13] from 38 to 159 (fun _ w' => ∃ (d' : Dk), d'.log = d.log ∧ d'.room = d.room ∧ Hid (d'.c.e = 3) ∧ Hid (d'.cut = true → d'.at_ = cut ∧ x ≤ j) ∧ Hid (DiskAt w' g d' y) ∧ Hid (Below w.heap.size w w'))
        case first =>
          by_cases hjx : j = x
          · subst hjx
            have hcu := cut_any g d y cut wr HD.out
            have HCU := Lib.hid hcu
            clear hcu
            go_wp2_with fail
            refine HCU.out.mono ?_
            rintro e w4 ⟨rfl, hd4, hch4⟩
            have HD4 := Lib.hid hd4
            have HB4 := Lib.hid (HB.out.trans (hch4.below (B := w.heap.size) (by have := HD.out.glt; omega) (fun k hk e => by omega)))
            clear hd4 hch4 HCU
            go_wp2_with fail
            go_meet
            case rel => exact ⟨{ d with cut := true, at_ := cut }, rfl, rfl, Lib.hid HK.out.e, Lib.hid fun _ => ⟨rfl, by omega⟩, HD4, HB4⟩
          · have hjx' : ((j : Int) == (x : Int)) = false := by rw [beq_eq_false_iff_ne]; omega
            go_wp2_with fail
            go_meet
            case rel => exact ⟨d, rfl, rfl, Lib.hid HK.out.e, Lib.hid fun h => by have := HK.out.k h; omega, HD, HB⟩
        case rest =>
          obtain ⟨d', hlog, hroom, HE, HK', HD', HB'⟩ := hcut
          have hwc : w.heap.size ≤ wc.heap.size := HB'.out.size
          have hcw : wc.cell? ⟨bb, off + j, none⟩ = some (.slice A' N c') := (HB'.out.cell (p := ⟨bb, off + j, none⟩) hgb).trans (((HB.out.cell (p := ⟨bb, off + j, none⟩) hgb).symm).trans hcw)
          have hap := append_any g N d' y 3 (d.log.length : Int) A' c' b wc HD'.out HN.out ((HRB.out.below HB'.out (Nat.le_refl _)).more hwc) (HRB.out.off hgw)
          have hsz : (str d.log).size = d.log.length := str_size _
          have hll : d.log.length ≤ 1048576 := by have h1 := HD'.out.ll; have h2 := HD'.out.r; rw [hlog] at h1; omega
          have hap1 : apE d' 3 (d.log.length : Int) b = if d.room < d.log.length + N then 153 else tookE d' := by
            unfold apE; rw [if_pos HE.out.symm]; unfold appE; rw [hlog, if_pos rfl, hroom, ← HN.out]
          have hap2 : apD d' 3 (d.log.length : Int) b = if d.room < d.log.length + N then d' else { d' with log := d.log ++ b.take (took d' N), cut := false } := by
            unfold apD; rw [if_pos HE.out.symm]; unfold appD; rw [hlog, if_pos rfl, hroom, ← HN.out]
          have hap3 : apN d' 3 (d.log.length : Int) b = if apE d' 3 (d.log.length : Int) b = 0 then ((apD d' 3 (d.log.length : Int) b).log.length : Int) else 0 := rfl
          clear HD HB HK
          by_cases hfit : d.room < d.log.length + N
          · rw [if_pos hfit] at hap1 hap2
            rw [hap1, if_neg (by decide)] at hap3
            rw [hap1, hap2, hap3] at hap
            have HAP := Lib.hid hap
            have HLOG := Lib.hid hlog
            have HROOM := Lib.hid hroom
            clear hap hap1 hap2 hap3 hlog hroom
            go_wp2_with fail
            refine HAP.out.mono ?_
            rintro e w5 ⟨rfl, y5, hd5, hf5⟩
            have HD5 := Lib.hid hd5
            have HB5 := Lib.hid (HB'.out.trans (hf5.below hgw HD'.out))
            have hlo := log_any g d' y5 w5 hd5
            rw [HLOG.out] at hlo
            have HLO := Lib.hid hlo
            clear hd5 hf5 hlo HAP
            go_wp2_with fail
            refine HLO.out.mono ?_
            rintro e w6 ⟨A6, c6, rfl, ho6, hb6⟩
            have HD6 := Lib.hid (HD5.out.chg0 (Chg.of_below hb6))
            have HB6 := Lib.hid (HB5.out.trans (hb6.mono HB5.out.size))
            have z6 : (convert 31 9 (.slice A6 d.log.length c6)).run Try.prog w6 = .ok (.string (str d.log)) w6 := run_string (bytes_own ho6).2 rfl 31 5 9 Try.underlying31 Try.underlying5 Try.underlying9
            have hcw6 : w6.cell? ⟨bb, off + j, none⟩ = some (.slice A' N c') := (HB6.out.cell (p := ⟨bb, off + j, none⟩) hgb).trans (((HB'.out.cell (p := ⟨bb, off + j, none⟩) hgb).symm).trans hcw)
            clear ho6 hb6 HLO
            go_wp2_with fail
            have hwr : IntKind.i64.wrap ((d.log.length : Int) + (N : Int)) = (d.log.length : Int) + (N : Int) := by rw [IntKind.wrap_i64]; omega
            have hfd : decide ((d.log.length : Int) + (N : Int) ≤ (d.room : Int)) = false := by rw [decide_eq_false_iff_not]; omega
            go_region_held3 (fun w' => w'.cell? ⟨bb, off + j, none⟩ = some (.slice A' N c'))
              (first | with_reducible exact hcw6 | with_reducible exact keepD hcw6)
              ((go_at_call 12; refine (room_any g d' y5 _ (show DiskAt w6.drew g d' y5 from HD6.out.chg0 ((Chg.refl _ w6).drew))).mono ?_; rintro e w' ⟨rfl, rfl⟩; rw [HROOM.out]))
            have HD7 : Hid (DiskAt w6.drew g d' y5) := Lib.hid (HD6.out.chg0 ((Chg.refl _ w6).drew))
            have HB7 : Hid (Below w.heap.size w w6.drew) := Lib.hid HB6.out.drew
            go_wp2_with fail
            go_roundg (L - (j + 1))
            case measure => omega
            case rel => exact ⟨j + 1, d', y5, by omega, rfl, by rw [HLOG.out], by go_num, Lib.hid ⟨HE.out, fun h => by have := HK'.out h; omega⟩, HD7, HB7⟩
          · rw [if_neg hfit] at hap1 hap2
            rw [hap1] at hap3
            have hX : ∃ X, X = d.log ++ b.take (took d' N) := ⟨_, rfl⟩
            obtain ⟨X, hX⟩ := hX
            rw [hap2] at hap3
            rw [hap1, hap2, hap3] at hap
            rw [← hX] at hap
            have hk := took_le d' N
            have hXl : X.length = d.log.length + took d' N := by rw [hX, List.length_append, List.length_take, ← HN.out]; omega
            have HROOM := Lib.hid hroom
            have HXL := Lib.hid hXl
            have hsb : (str b).size = N := by rw [str_size, HN.out]
            have hadd : str d.log ++ str b = str (d.log ++ b) := (str_append _ _).symm
            have hXs : (str X).size = X.length := str_size _
            have hbs : (str (d.log ++ b)).size = d.log.length + N := by rw [str_size, List.length_append, ← HN.out]
            clear hap1 hap2 hap3 hlog hroom hXl
            cases hc : d'.cut
            · have e1 : tookE d' = 0 := by unfold tookE; rw [hc]; rfl
              have e2 : took d' N = N := by unfold took; rw [hc]; rfl
              have e3 : X = d.log ++ b := by rw [hX, e2, HN.out, List.take_length]
              rw [e1, if_pos rfl] at hap
              rw [← e3] at hadd
              clear hbs
              have hap' : Calls Try.prog 10 #[.pointer (some ⟨g, 0, none⟩), .int .i64 3, .int .i64 (d.log.length : Int), .slice A' N c'] wc fun e w' => e = .returned (.tuple #[.int .i64 (X.length : Int), .int .i64 0]) ∧ ∃ y', DiskAt w' g { d' with log := X, cut := false } y' ∧ Foot g y y' wc w' := hap
              have HAP := Lib.hid hap'
              clear hap hap' hX e1 e2 e3 hk
              go_wp2_with fail
              refine HAP.out.mono ?_
              rintro e w5 ⟨rfl, y5, hd5, hf5⟩
              have HB5 := Lib.hid (HB'.out.trans (hf5.below hgw HD'.out))
              have hlo := log_any g _ y5 w5 hd5
              have HD5 := Lib.hid hd5
              have hlo2 : Calls Try.prog 11 #[.pointer (some ⟨g, 0, none⟩)] w5 fun e w' => ∃ A2 c2, e = .returned (.slice A2 X.length c2) ∧ w'.ownsRow w5.heap.size 5 1 (.slice A2 X.length c2) X.length (cells8 X) ∧ Below w5.heap.size w5 w' := hlo
              have HLO := Lib.hid hlo2
              clear hd5 hf5 hlo hlo2 HAP
              go_wp2_with fail
              refine HLO.out.mono ?_
              rintro e w6 ⟨A6, c6, rfl, ho6, hb6⟩
              have HD6 := Lib.hid (HD5.out.chg0 (Chg.of_below hb6))
              have HB6 := Lib.hid (HB5.out.trans (hb6.mono HB5.out.size))
              have z6 : (convert 31 9 (.slice A6 X.length c6)).run Try.prog w6 = .ok (.string (str X)) w6 := run_string (bytes_own ho6).2 rfl 31 5 9 Try.underlying31 Try.underlying5 Try.underlying9
              have z7 : (convert 31 9 (.slice A' N c')).run Try.prog w6 = .ok (.string (str b)) w6 := run_string (HRB.out.below HB6.out (Nat.le_refl _)) HN.out 31 5 9 Try.underlying31 Try.underlying5 Try.underlying9
              have hcw6 : w6.cell? ⟨bb, off + j, none⟩ = some (.slice A' N c') := (HB6.out.cell (p := ⟨bb, off + j, none⟩) hgb).trans (((HB'.out.cell (p := ⟨bb, off + j, none⟩) hgb).symm).trans hcw)
              clear ho6 hb6 HLO
              go_wp2_with fail
              go_roundg (L - (j + 1))
              case measure => omega
              case rel => exact ⟨j + 1, { d' with log := X, cut := false }, y5, by omega, rfl, rfl, by go_num, Lib.hid ⟨HE.out, fun h => by cases h⟩, HD6, HB6⟩
            · have hck := HK'.out hc
              have e1 : tookE d' = 152 := by unfold tookE; rw [hc]; rfl
              have e2 : (took d' N : Int) = min (max cut 0) (N : Int) := by unfold took; rw [hc, if_pos rfl, hck.1]; omega
              have hxj := hck.2
              rw [e1, if_neg (by decide)] at hap
              have hap' : Calls Try.prog 10 #[.pointer (some ⟨g, 0, none⟩), .int .i64 3, .int .i64 (d.log.length : Int), .slice A' N c'] wc fun e w' => e = .returned (.tuple #[.int .i64 0, .int .i64 152]) ∧ ∃ y', DiskAt w' g { d' with log := X, cut := false } y' ∧ Foot g y y' wc w' := hap
              have HAP := Lib.hid hap'
              have hXge : d.log.length ≤ X.length := by have := HXL.out; omega
              have hXle : X.length ≤ d.log.length + N := by have := HXL.out; omega
              have hkv : min (max cut 0) (N : Int) = (X.length : Int) - (d.log.length : Int) := by have := HXL.out; omega
              have hex : (str (d.log ++ b)).extract 0 X.length = str X := by
                exact str_extract _ _ (by rw [hX]; exact (List.prefix_append_right_inj _).2 (List.take_prefix _ _))
              clear hap hap' hX e1 e2 hk hck
              go_wp2_with fail
              refine HAP.out.mono ?_
              rintro e w5 ⟨rfl, y5, hd5, hf5⟩
              have HB5 := Lib.hid (HB'.out.trans (hf5.below hgw HD'.out))
              have hlo := log_any g _ y5 w5 hd5
              have HD5 := Lib.hid hd5
              have hlo2 : Calls Try.prog 11 #[.pointer (some ⟨g, 0, none⟩)] w5 fun e w' => ∃ A2 c2, e = .returned (.slice A2 X.length c2) ∧ w'.ownsRow w5.heap.size 5 1 (.slice A2 X.length c2) X.length (cells8 X) ∧ Below w5.heap.size w5 w' := hlo
              have HLO := Lib.hid hlo2
              clear hd5 hf5 hlo hlo2 HAP
              go_wp2_with fail
              refine HLO.out.mono ?_
              rintro e w6 ⟨A6, c6, rfl, ho6, hb6⟩
              have HD6 := Lib.hid (HD5.out.chg0 (Chg.of_below hb6))
              have HB6 := Lib.hid (HB5.out.trans (hb6.mono HB5.out.size))
              have z6 : (convert 31 9 (.slice A6 X.length c6)).run Try.prog w6 = .ok (.string (str X)) w6 := run_string (bytes_own ho6).2 rfl 31 5 9 Try.underlying31 Try.underlying5 Try.underlying9
              have z7 : (convert 31 9 (.slice A' N c')).run Try.prog w6 = .ok (.string (str b)) w6 := run_string (HRB.out.below HB6.out (Nat.le_refl _)) HN.out 31 5 9 Try.underlying31 Try.underlying5 Try.underlying9
              have hcw6 : w6.cell? ⟨bb, off + j, none⟩ = some (.slice A' N c') := (HB6.out.cell (p := ⟨bb, off + j, none⟩) hgb).trans (((HB'.out.cell (p := ⟨bb, off + j, none⟩) hgb).symm).trans hcw)
              clear ho6 hb6 HLO
              go_wp2_with fail
              all_goals first
                | (exfalso; omega)
                | (go_roundg (L - (j + 1))
                   case measure => omega
                   case rel => exact ⟨j + 1, { d' with log := X, cut := false }, y5, by omega, rfl, rfl, by go_num, Lib.hid ⟨HE.out, fun h => by cases h⟩, HD6, HB6⟩)
    · go_wp2_with fail
      refine (log_any g d y wr HD.out).mono ?_
      rintro e w6 ⟨A6, c6, rfl, ho6, hb6⟩
      have HB6 := Lib.hid (HB.out.trans (hb6.mono HB.out.size))
      have z6 : (convert 31 9 (.slice A6 d.log.length c6)).run Try.prog w6 = .ok (.string (str d.log)) w6 := run_string (bytes_own ho6).2 rfl 31 5 9 Try.underlying31 Try.underlying5 Try.underlying9
      clear ho6 hb6
      go_wp2_with fail
      go_ret
      exact ⟨rfl, HB6.out⟩
end Go.Proofs.Ytpkefkoimlecjaa
