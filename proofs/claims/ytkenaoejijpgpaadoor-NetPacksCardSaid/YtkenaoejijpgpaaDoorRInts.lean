/- The document's bytes of a row of numbers. -/
import Derived.Test.YtkenaoejijpgpaaDoorREncT
import Derived.Test.YtkenaoejijpgpaaDoorPkt
namespace Go.Proofs.YtkenaoejijpgpaaDoor
open Go.RowKit

abbrev intsV (l : List Int) : List Value := l.map (Value.int .i64)
set_option maxRecDepth 100000 in
set_option maxHeartbeats 2000000 in
theorem ints_any (A : Option Addr) (c m B : Nat) (l : List Int) (w : World) (h : CellsIn w B 1 A m (intsV l)) (hB : B ≤ w.heap.size) (hm : m = l.length) (hin : ∀ x ∈ l, inI64 x) (hm12 : m ≤ 12) :
    Calls Tryd.prog 66 #[.slice A m c] w fun e w' => ∃ A2 c2 k, e = .returned (.slice A2 k c2) ∧ k = (vrow l).length ∧ w'.ownsRow w.heap.size 5 1 (.slice A2 k c2) k (cells8 (vrow l)) ∧ Below w.heap.size w w' := by
  obtain ⟨i5, hi, hz0, hz1, hz2⟩ := info_parts Tryd.info5
  have HC := Lib.hid h
  have HM := Lib.hid hm
  have HIN := Lib.hid hin
  obtain ⟨S, hS⟩ : ∃ S, S = w.heap.size := ⟨_, rfl⟩
  rw [← hS] at hB ⊢
  have hs0 : S ≤ w.heap.size := by omega
  clear h hm hin hS
  go_enter Tryd.func66, Tryd.ntmps66
  go_wp2_with fail
  go_loopw [3, 4] (fun r i wr => ∃ (j n2 : Nat) (A2 : Option Addr) (c2 : Nat), j ≤ m ∧ i = .int .i64 j ∧ r = .slice A2 n2 c2 ∧ n2 ≤ 10 * j ∧ S ≤ wr.heap.size ∧ Hid (n2 = (vrow (l.take j)).length) ∧ Hid (wr.ownsRow S 5 1 (.slice A2 n2 c2) n2 (cells8 (vrow (l.take j)))) ∧ Hid (Below S w wr)) (fun _ i _ => m - (intOf i).toNat)
  case atStart => exact ⟨0, 0, none, 0, by omega, rfl, rfl, by omega, hs0, Lib.hid rfl, Lib.hid (World.ownsRow_nil _ _ _ _), Lib.hid (Below.refl _ _)⟩
  case round =>
    clear hs0
    obtain ⟨j, n2, A2, c2, hj, rfl, rfl, hn2, hs, HN2, HO, HB⟩ := hrel
    by_cases hjm : j < m
    · have hj' : (j : Int) < (m : Int) := by omega
      have hj0 : (0 : Int) ≤ (j : Int) := by omega
      have hjl : j < l.length := by have := HM.out; omega
      obtain ⟨x, hx⟩ : ∃ x, x = l[j] := ⟨_, rfl⟩
      have hxi : inI64 x := by rw [hx]; exact HIN.out _ (List.getElem_mem hjl)
      obtain ⟨b, off, hA, hbB, hcell⟩ := HC.out.at_ (k := j) (u := .int .i64 x) (by simp [intsV, hjl, hx])
      subst hA
      have hc := (HB.out.cell (p := ⟨b, off + j, none⟩) (show b < S by omega)).trans hcell
      have hnx : vrow (l.take (j + 1)) = vrow (l.take j) ++ vb (zz x) := by rw [List.take_succ_eq_append_getElem hjl, vrow_snoc, ← hx]
      have hv := vb_len10 (zz x) (zz_lt _ hxi.1 hxi.2)
      have HNX := Lib.hid hnx
      have HXI := Lib.hid hxi
      clear hnx hx hcell hxi hjl hbB
      go_wp2_with fail
      clear hc
      refine (rei_any x wr HXI.out).mono ?_
      rintro e w1 ⟨A3, c3, rfl, ho, hb⟩
      obtain ⟨k, hk⟩ : ∃ k, k = (vb (zz x)).length := ⟨_, rfl⟩
      rw [← hk] at ho hv ⊢
      have HK := Lib.hid hk
      have HR1 := Lib.hid (cellsIn_of_own ho)
      have HO1 : Hid (w1.ownsRow S 5 1 (.slice A2 n2 c2) n2 (cells8 (vrow (l.take j)))) := Lib.hid (HO.out.kept (grown_of_below hb none) (by cases A2 <;> simp [Value.ownBlock]))
      have HB1 := Lib.hid (HB.out.trans (hb.mono hs))
      have hs1 : S ≤ w1.heap.size := Nat.le_trans hs hb.size
      clear ho hb hk HO HB
      go_wp2_with (at_builtin; refine wpList_append_row _ rfl (.tmp 11) (.tmp 16) _ rfl S 5 i5 _ 1 1 Tryd.underlying24 hi hz0 hz1 hz2 rfl (by omega) A2 n2 c2 _ rfl HO1.out _ _ k _ _ rfl HR1.out (cells8_one _) (by unfold maxLen; omega) (by omega) hs1 (fun A4 c4 w2 hown hg hor => ?_))
      have HO2 : Hid (w2.ownsRow S 5 1 (.slice A4 (n2 + k) c4) (n2 + k) (cells8 (vrow (l.take (j + 1))))) := Lib.hid (by rw [HNX.out, cells8_append]; exact hown)
      have HN3 : Hid (n2 + k = (vrow (l.take (j + 1))).length) := Lib.hid (by rw [HNX.out, List.length_append, HN2.out, HK.out])
      have HB2 := Lib.hid (HB1.out.grown hg hs1 (fun k hk => (HO1.out.lt k hk).1))
      have hs2 : S ≤ w2.heap.size := Nat.le_trans hs1 hg.size
      clear hown hg hor HO1 HB1 HR1 HNX HN2 HK
      go_wp2_with fail
      go_roundw
      case rel => exact ⟨j + 1, n2 + k, A4, c4, by omega, by go_num, rfl, by omega, hs2, HN3, HO2, HB2⟩
      case measure => simp [intOf]; omega
    · have hj : j = m := by omega
      have htk : l.take j = l := List.take_of_length_le (by rw [← HM.out]; omega)
      rw [htk] at HN2 HO
      clear htk
      go_wp2_with fail
      go_ret
      exact ⟨A2, c2, n2, rfl, HN2.out, HO.out, HB.out⟩
end Go.Proofs.YtkenaoejijpgpaaDoor
