/- The law FrameScans: the walk. -/
import Derived.Test.YthocckhpkfcemaaDoorAwake
namespace Go.Proofs.YthocckhpkfcemaaDoor
open Go.RowKit

/-- Rows of bytes of the call's own, whatever the bytes. -/
def RowsSome (w : World) (base : Nat) (vs : List Value) : Prop :=
  ∀ i, i < vs.length → ∃ A c l, vs[i]? = some (.slice A (l : List UInt8).length c) ∧ w.ownsRow base 5 1 (.slice A l.length c) l.length (cells8 l)
theorem RowsOwn.some {w : World} {base : Nat} {vs : List Value} {ls : List (List UInt8)} (h : RowsOwn w base vs ls) : RowsSome w base vs := by
  intro i hi
  obtain ⟨A, c, h1, h2⟩ := h.2 i (by rw [← h.1]; exact hi)
  exact ⟨A, c, _, h1, h2⟩
theorem own_form8 {w : World} {base : Nat} {e : TypeId} {size n c : Nat} {A : Option Addr} {xs : List Value} (h : w.ownsRow base e size (.slice A n c) n xs) (hn : 0 < n) : ∃ g, A = some ⟨g, 0, none⟩ ∧ base ≤ g ∧ g < w.heap.size ∧ n ≤ c ∧ ∃ cur, w.heap[g]? = some (.cells cur e (0, 0)) := by
  rcases h.2 with ⟨hv, h0⟩ | ⟨g, cap, cur, hv, hb, hg, hnc, _⟩
  · omega
  · injection hv with e1 e2 e3
    exact ⟨g, e1, hb, (Array.getElem?_eq_some_iff.1 hg).1, by omega, cur, hg⟩
theorem cells8_set' (l : List UInt8) (k : Nat) (d : UInt8) : (cells8 l).set k (.int .u8 (d.toNat : Int)) = cells8 (l.set k d) := by unfold cells8; rw [List.map_set]
theorem RowsSome.set {w : World} {base : Nat} {vs : List Value} (h : RowsSome w base vs) (g k : Nat) (d : UInt8) : RowsSome (w.setCell ⟨g, k, none⟩ (.int .u8 (d.toNat : Int))) base vs := by
  intro i hi
  obtain ⟨A, c, l, h1, h2⟩ := h i hi
  by_cases hA : A = Option.some ⟨g, 0, none⟩
  · subst hA
    have h3 := (h2.stored k (.int .u8 (d.toNat : Int))).1
    rw [cells8_set'] at h3
    refine ⟨Option.some ⟨g, 0, none⟩, c, l.set k d, ?_, ?_⟩
    · rw [List.length_set]; exact h1
    · rw [List.length_set]; exact h3
  · refine ⟨A, c, l, h1, ?_⟩
    refine ⟨h2.1, ?_⟩
    rcases h2.2 with hn | ⟨g', cap, cur, hv, hb, hg, rest⟩
    · exact .inl hn
    · refine .inr ⟨g', cap, cur, hv, hb, ?_, rest⟩
      have hne : g' ≠ g := by
        rintro rfl
        injection hv with e1 e2 e3
        exact hA e1
      rw [← hg]
      exact Below.heap_setCell w ⟨g, k, none⟩ _ g' hne
theorem xor255 (c : UInt8) : ∃ d : UInt8, bits .xor .u8 (c.toNat : Int) 255 = (d.toNat : Int) := by
  refine ⟨UInt8.ofNat (c.toNat ^^^ 255), ?_⟩
  have hc := c.toNat_lt
  have hx : c.toNat ^^^ 255 < 256 := Nat.xor_lt_two_pow (n := 8) hc (by omega)
  rw [show (255 : Int) = ((255 : Nat) : Int) from rfl, u8_xor_nat _ _ hc (by omega), UInt8.toNat_ofNat', Nat.mod_eq_of_lt hx]

theorem scanL_len (m : Nat) : ∀ l : List UInt8, l.length ≤ m → (scanL l).length ≤ l.length := by
  induction m with
  | zero =>
    intro l hl
    have : l = [] := List.eq_nil_of_length_eq_zero (by omega)
    subst this
    rw [scanL_no (by decide)]; simp
  | succ m ih =>
    intro l hl
    by_cases h : lookE l = 0
    · have := lookE_ok h
      have h2 := ih (l.drop (num4 l + 8)) (by rw [List.length_drop]; omega)
      rw [scanL_ok h, List.length_cons]
      rw [List.length_drop] at h2
      omega
    · rw [scanL_no h]; simp

set_option maxHeartbeats 2000000 in
theorem law_scans (A : Option Addr) (c n : Nat) (l : List UInt8) (w : World) (h : BytesIn w w.heap.size A c l) (hn : n = l.length) (h0 : 0 < w.heap.size) (hh : Hal w) :
    Calls Tryd.prog 4 #[.slice A n c] w fun e w' => e = .returned (.bool true) ∧ Below w.heap.size w w' := by
  have hc1 := h.cap
  have hnc : n ≤ c := by have := h.le; omega
  have HN := Lib.hid hn; clear hn
  have HB := Lib.hid h; clear h
  have HH := Lib.hid hh; clear hh
  go_enter Tryd.func4, Tryd.ntmps4
  go_wp2_with fail
  refine (awake_any w h0 HH.out).mono ?_
  rintro e w1 ⟨rfl, hb1⟩
  have HB1 := Lib.hid hb1
  have hs1 : w.heap.size ≤ w1.heap.size := hb1.size
  clear hb1
  by_cases hbig : 20000 < n
  · go_wp2_with fail
    go_ret
    exact ⟨rfl, HB1.out⟩
  · have z1 : (convert 22 9 (.slice A n c)).run Tryd.prog w1 = .ok (.string (str l)) w1 := run_string (HB.out.below HB1.out (Nat.le_refl _)) HN.out 22 5 9 Tryd.underlying22 Tryd.underlying5 Tryd.underlying9
    go_wp2_with fail
    refine (scan_any _ _ _ l w1 ((HB.out.below HB1.out (Nat.le_refl _)).more hs1) (by omega) (HH.out.below HB1.out h0) HN.out (by omega)).mono ?_
    rintro e w2 ⟨Ao, co, vs, rfl, hown2, hrow2, hb2⟩
    have HB2 := Lib.hid (HB1.out.trans (hb2.mono hs1))
    have hs2 : w.heap.size ≤ w2.heap.size := HB2.out.size
    obtain ⟨L, hL⟩ : ∃ L, L = (scanL l).length := ⟨_, rfl⟩
    rw [← hL] at hown2 ⊢
    have hLn : L ≤ n := by rw [hL, HN.out]; exact scanL_len _ l (Nat.le_refl _)
    have HL := Lib.hid hL
    have HO2 := Lib.hid hown2
    have HR2 := Lib.hid hrow2
    clear z1 hL hown2 hrow2 hb2
    go_wp2_with fail
    refine (rscan_any _ _ _ l w2 w.heap.size (HB.out.below HB2.out (Nat.le_refl _)) hs2 HN.out (by omega)).mono ?_
    rw [← HL.out]
    rintro e w3 ⟨Ap, cp, vp, rfl, hown3, hrow3, hb3⟩
    have HB3 := Lib.hid (HB2.out.trans (hb3.mono hs2))
    have hs3 : w.heap.size ≤ w3.heap.size := HB3.out.size
    have HO3 : Hid (w3.ownsRow w1.heap.size 22 1 (.slice Ao L co) L vs) := Lib.hid (HO2.out.kept (grown_of_below hb3 none) (by cases Ao <;> simp [Value.ownBlock]))
    have HR3 : Hid (RowsOwn w3 w1.heap.size vs (scanL l)) := Lib.hid (HR2.out.keep (Chg.of_below (S := NoBlk) hb3) (fun _ _ _ _ h => h))
    have hsm := same_any Ao Ap co cp L vs vp (scanL l) w3 w3.heap.size w3.heap.size HL.out (by omega) (cellsIn_of_own HO3.out) (.of_own HR3.out) (cellsIn_of_own hown3) (hrow3.more hs3)
    have HSM := Lib.hid hsm
    clear hb3 hown3 hrow3 hsm
    go_wp2_with fail
    refine HSM.out.mono ?_
    rintro e w' ⟨rfl, k1, rfl⟩
    have HB4 := Lib.hid (below_dn (n := k1) HB3.out)
    have HO4 : Hid ((w3.drewN k1).ownsRow w1.heap.size 22 1 (.slice Ao L co) L vs) := HO3
    have HR4 : Hid (RowsSome (w3.drewN k1) w1.heap.size vs) := Lib.hid (fun i hi => HR3.out.some i hi)
    generalize w3.drewN k1 = w4 at HB4 HO4 HR4 ⊢
    go_wp2_with fail
    have hL2 := (cellsIn_of_own HO4.out).len
    have HL2 : Hid (vs.length = L) := Lib.hid (by omega)
    clear hL2
    go_loopw [9] (fun i wr => ∃ k : Nat, k ≤ L ∧ i = .int .i64 k ∧ Hid (wr.ownsRow w1.heap.size 22 1 (.slice Ao L co) L vs) ∧ Hid (RowsSome wr w1.heap.size vs) ∧ Hid (Below w.heap.size w wr)) (fun i _ => L - (intOf i).toNat)
    case atStart => exact ⟨0, Nat.zero_le _, rfl, HO4, HR4, HB4⟩
    case round =>
      obtain ⟨k, hk, rfl, HO, HR, HBw⟩ := hrel
      by_cases hkL : k < L
      · obtain ⟨A', c', l0, hv, hrow0⟩ := HR.out k (by rw [HL2.out]; exact hkL)
        obtain ⟨N, hN⟩ : ∃ N, N = l0.length := ⟨_, rfl⟩
        rw [← hN] at hv
        have hN63 : N ≤ 9223372036854775807 := by have h1 := (bytesIn_of_own hrow0).2.le; have h2 := (bytesIn_of_own hrow0).2.cap; omega
        have HV := Lib.hid hv
        clear hv hrow0 hN
        obtain ⟨wo, rfl⟩ : ∃ wo : World, wo = wr := ⟨_, rfl⟩
        go_wp2_with fail
        go_loopw [10] (fun i wr => ∃ j : Nat, j ≤ N ∧ i = .int .i64 j ∧ Hid (wr.ownsRow w1.heap.size 22 1 (.slice Ao L co) L vs) ∧ Hid (RowsSome wr w1.heap.size vs) ∧ Hid (Below w.heap.size w wr)) (fun i _ => N - (intOf i).toNat)
        case atStart => exact ⟨0, Nat.zero_le _, rfl, HO, HR, HBw⟩
        case round =>
          clear HO HR HBw
          obtain ⟨j, hj, rfl, HO, HR, HBw⟩ := hrel
          obtain ⟨go, oo, rfl, _, hco⟩ := (cellsIn_of_own HO.out).at_ HV.out
          have hkL' : (k : Int) < (L : Int) := by omega
          by_cases hjN : j < N
          · obtain ⟨A2, c2, l2, hv2, hrow2⟩ := HR.out k (by rw [HL2.out]; exact hkL)
            rw [HV.out] at hv2
            injection hv2 with hv2
            injection hv2 with e1 e2 e3
            subst e1 e3
            rw [← e2] at hrow2
            obtain ⟨g, rfl, hgb, hgl, hgc, cur, hgh⟩ := own_form8 hrow2 (by omega)
            have hcj : wr.cell? ⟨g, j, none⟩ = some (.int .u8 (l2[j].toNat : Int)) := by
              rw [hrow2.cellAt j (by omega)]; exact cells8_get l2 j (by omega)
            have hfj := hrow2.frozenAt j
            obtain ⟨d, hd⟩ := xor255 l2[j]
            have hjN' : (j : Int) < (N : Int) := by omega
            have hk0 : (0 : Int) ≤ (k : Int) := by omega
            have hj0 : (0 : Int) ≤ (j : Int) := by omega
            have hne : ∀ q, Value.ownBlock (.slice (some ⟨go, oo, none⟩) L co) = some q → q ≠ g := by
              intro q hq e
              subst e
              obtain ⟨cur2, f2, h2⟩ := own_elem HO.out hq
              rw [hgh] at h2
              simp at h2
            have hch : Chg (fun q => q = g) wr (wr.setCell ⟨g, j, none⟩ (.int .u8 (d.toNat : Int))) := (Chg.refl (fun q => q = g) wr).setCell (p := ⟨g, j, none⟩) (.inr rfl) _
            have HO5 := Lib.hid (hch.own HO.out hne)
            have HR5 := Lib.hid (HR.out.set g j d)
            have HB5 := Lib.hid (HBw.out.setCell (p := ⟨g, j, none⟩) (by show w.heap.size ≤ g; omega) (.int .u8 (d.toNat : Int)))
            obtain ⟨u, hu⟩ : ∃ u, u = l2[j] := ⟨_, rfl⟩
            rw [← hu] at hcj hd
            clear hu e2 hrow2 hgh hne hch HO HR HBw
            go_wp2_with fail
            go_region
            go_wp2_with fail
            go_roundw
            case rel => exact ⟨j + 1, by omega, by go_num, Lib.hid HO5.out.drew, Lib.hid (fun i hi => HR5.out i hi), Lib.hid HB5.out.drew⟩
            case measure => simp [intOf]; omega
          · go_wp2_with fail
            go_roundw
            case rel => exact ⟨k + 1, by omega, by go_num, HO, HR, HBw⟩
            case measure => simp [intOf]; omega
      · have z5 : (convert 22 9 (.slice A n c)).run Tryd.prog wr = .ok (.string (str l)) wr := run_string (HB.out.below HBw.out (Nat.le_refl _)) HN.out 22 5 9 Tryd.underlying22 Tryd.underlying5 Tryd.underlying9
        go_wp2_with fail
        go_ret
        exact ⟨rfl, HBw.out⟩
end Go.Proofs.YthocckhpkfcemaaDoor
