/- Slices of pairs of numbers; up to when a node was granted a lease, by all grants. -/
import Derived.Test.YtcpaimgenfbidaaKeeper2
import Derived.Deep.SlicePairs
namespace Go.Proofs.Ytcpaimgenfbidaa
open Go.RowKit

/-- The pairs lie at A, two cells each. -/
def PairsIn (w : World) (B : Nat) (A : Option Addr) (gs : List (Int × Int)) : Prop :=
  gs = [] ∨ ∃ b off, A = some ⟨b, off, none⟩ ∧ b < B ∧ ∀ i, i < gs.length → w.cell? ⟨b, off + i * 2, none⟩ = some (.int .i64 (gs.getD i (0, 0)).1) ∧ w.cell? ⟨b, off + i * 2 + 1, none⟩ = some (.int .i64 (gs.getD i (0, 0)).2)

def ustep (i : Int) (best : Int) (g : Int × Int) : Int := if g.1 = i then (if best < g.2 + 24 then g.2 + 24 else best) else best
def untilS (gs : List (Int × Int)) (i : Int) : Int := gs.foldl (ustep i) 0
def Ticks (gs : List (Int × Int)) : Prop := ∀ g ∈ gs, 0 ≤ g.2 ∧ g.2 < 1099511627776
theorem untilS_snoc (gs : List (Int × Int)) (g : Int × Int) (i : Int) : untilS (gs ++ [g]) i = ustep i (untilS gs i) g := by simp [untilS]
theorem ustep_bd (i best : Int) (g : Int × Int) (h : 0 ≤ best ∧ best ≤ 1099511627800) (hg : 0 ≤ g.2 ∧ g.2 < 1099511627776) : 0 ≤ ustep i best g ∧ ustep i best g ≤ 1099511627800 := by
  unfold ustep; split
  · split <;> omega
  · exact h

set_option maxHeartbeats 1000000 in
theorem runtil_any (A : Option Addr) (c B : Nat) (gs : List (Int × Int)) (i : Int) (w : World) (h : PairsIn w B A gs) (ht : Ticks gs) (hn : gs.length ≤ 1000) :
    Calls Try.prog 18 #[.slice A gs.length c, .int .i64 i] w fun e w' => e = .returned (.int .i64 (untilS gs i)) ∧ w = w' := by
  obtain ⟨n, hN⟩ : ∃ n, n = gs.length := ⟨_, rfl⟩
  rw [← hN]
  rw [← hN] at hn
  have HN := Lib.hid hN
  have HP := Lib.hid h
  have HT := Lib.hid ht
  clear hN h ht
  go_enter Try.func18, Try.ntmps18
  go_wp2_with fail
  go_loop [5, 6] (fun b k => ∃ (j : Nat) (x : Int), j ≤ n ∧ k = .int .i64 j ∧ b = .int .i64 x ∧ 0 ≤ x ∧ x ≤ 1099511627800 ∧ Hid (x = untilS (gs.take j) i)) (fun _ k => n - (intOf k).toNat)
  case atStart => exact ⟨0, 0, Nat.zero_le _, rfl, rfl, by omega, by omega, rfl⟩
  case round =>
    obtain ⟨j, x, hj, rfl, rfl, hx1, hx2, HX⟩ := hrel
    by_cases hlt : j < n
    · have hjl : j < gs.length := by rw [← HN.out]; exact hlt
      obtain ⟨b, off, rfl, hc⟩ : ∃ b off, A = some ⟨b, off, none⟩ ∧ (w.cell? ⟨b, off + j * 2, none⟩ = some (.int .i64 (gs.getD j (0, 0)).1) ∧ w.cell? ⟨b, off + j * 2 + 1, none⟩ = some (.int .i64 (gs.getD j (0, 0)).2)) := by
        rcases HP.out with h | ⟨b, off, rfl, _, h⟩
        · rw [h] at hjl; simp at hjl
        · exact ⟨b, off, rfl, h j hjl⟩
      have hg : gs.take (j + 1) = gs.take j ++ [gs.getD j (0, 0)] := by
        rw [List.take_add_one, List.getD_eq_getElem?_getD, List.getElem?_eq_getElem hjl]; rfl
      have hmem : gs.getD j (0, 0) ∈ gs := by
        rw [List.getD_eq_getElem?_getD, List.getElem?_eq_getElem hjl]; exact List.getElem_mem hjl
      have htk := HT.out _ hmem
      have hst : untilS (gs.take (j + 1)) i = ustep i x (gs.getD j (0, 0)) := by rw [hg, untilS_snoc, HX.out]
      have hsb := ustep_bd i x _ ⟨hx1, hx2⟩ htk
      generalize gs.getD j (0, 0) = y at hc htk hst hsb
      obtain ⟨y1, y2⟩ := y
      simp only at hc htk hst hsb
      obtain ⟨hc1, hc2⟩ := hc
      obtain ⟨ht1, ht2⟩ := htk
      clear hg hmem
      unfold ustep at hst hsb
      simp only at hst hsb
      by_cases he : y1 = i
      · rw [if_pos he] at hst hsb
        have q : (y1 == i) = true := by rw [beq_iff_eq]; exact he
        by_cases hb : x < y2 + 24
        · rw [if_pos hb] at hst hsb
          have HS := Lib.hid hst
          clear hst he
          go_wp2_with fail
          go_round
          case rel => exact ⟨j + 1, y2 + 24, by omega, by go_num, by go_num, hsb.1, hsb.2, HS.out.symm⟩
          case measure => simp [intOf]; omega
        · rw [if_neg hb] at hst hsb
          have HS := Lib.hid hst
          clear hst he
          go_wp2_with fail
          go_round
          case rel => exact ⟨j + 1, x, by omega, by go_num, by go_num, hsb.1, hsb.2, HS.out.symm⟩
          case measure => simp [intOf]; omega
      · rw [if_neg he] at hst hsb
        have q : (y1 == i) = false := by rw [beq_eq_false_iff_ne]; exact he
        have HS := Lib.hid hst
        clear hst he
        go_wp2_with fail
        go_round
        case rel => exact ⟨j + 1, x, by omega, by go_num, by go_num, hsb.1, hsb.2, HS.out.symm⟩
        case measure => simp [intOf]; omega
    · have e0 : gs.take j = gs := List.take_of_length_le (by rw [← HN.out]; omega)
      rw [e0] at HX
      clear e0
      go_wp2_with fail
      go_ret
      exact ⟨by rw [← HX.out]; rfl, rfl⟩
end Go.Proofs.Ytcpaimgenfbidaa
