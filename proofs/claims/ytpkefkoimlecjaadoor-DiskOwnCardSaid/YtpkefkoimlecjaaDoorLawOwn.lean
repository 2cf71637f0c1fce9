/- The law DiskOwn: the walk. -/
import Derived.Test.YtpkefkoimlecjaaDoorNilDisk
import Derived.Test.YtpkefkoimlecjaaDoorActs
import Derived.Test.YtpkefkoimlecjaaDoorDone0
import Derived.Test.YtpkefkoimlecjaaDoorAwake
import Derived.Test.YtpkefkoimlecjaaDoorSnapPre
namespace Go.Proofs.YtpkefkoimlecjaaDoor
open Go.RowKit

theorem own_form8 {w : World} {base : Nat} {e : TypeId} {size n c : Nat} {A : Option Addr} {xs : List Value} (h : w.ownsRow base e size (.slice A n c) n xs) (hn : 0 < n) : ∃ g, A = some ⟨g, 0, none⟩ ∧ base ≤ g ∧ g < w.heap.size ∧ n ≤ c ∧ ∃ cur, w.heap[g]? = some (.cells cur e (0, 0)) := by
  rcases h.2 with ⟨hv, h0⟩ | ⟨g, cap, cur, hv, hb, hg, hnc, _⟩
  · omega
  · injection hv with e1 e2 e3
    exact ⟨g, e1, hb, (Array.getElem?_eq_some_iff.1 hg).1, by omega, cur, hg⟩
theorem cells8_set' (l : List UInt8) (k : Nat) (d : UInt8) : (cells8 l).set k (.int .u8 (d.toNat : Int)) = cells8 (l.set k d) := by unfold cells8; rw [List.map_set]
theorem xor255 (c : UInt8) : ∃ d : UInt8, bits .xor .u8 (c.toNat : Int) 255 = (d.toNat : Int) := by
  refine ⟨UInt8.ofNat (c.toNat ^^^ 255), ?_⟩
  have hc := c.toNat_lt
  have hx : c.toNat ^^^ 255 < 256 := Nat.xor_lt_two_pow (n := 8) hc (by omega)
  rw [show (255 : Int) = ((255 : Nat) : Int) from rfl, u8_xor_nat _ _ hc (by omega), UInt8.toNat_ofNat', Nat.mod_eq_of_lt hx]
/-- Bytes of the call's own, whatever they are. -/
def RowSome (w : World) (base : Nat) (A : Option Addr) (n c : Nat) : Prop := ∃ l : List UInt8, l.length = n ∧ w.ownsRow base 5 1 (.slice A n c) n (cells8 l)
theorem RowSome.at_ {w : World} {base n c j : Nat} {A : Option Addr} (h : RowSome w base A n c) (hj : j < n) : ∃ g u v, A = some ⟨g, 0, none⟩ ∧ base ≤ g ∧ g < w.heap.size ∧ n ≤ c ∧ w.cell? ⟨g, j, none⟩ = some (.int .u8 u) ∧ w.frozen? ⟨g, j, none⟩ = false ∧ bits .xor .u8 u 255 = v ∧ RowSome (w.setCell ⟨g, j, none⟩ (.int .u8 v)) base A n c := by
  obtain ⟨l, hl, ho⟩ := h
  subst hl
  obtain ⟨g, rfl, hgb, hgl, hgc, cur, hgh⟩ := own_form8 ho (by omega)
  obtain ⟨d, hd⟩ := xor255 l[j]
  refine ⟨g, _, _, rfl, hgb, hgl, hgc, ?_, ho.frozenAt j, hd, l.set j d, List.length_set .., ?_⟩
  · rw [ho.cellAt j (by omega)]; exact cells8_get l j (by omega)
  · have h3 := (ho.stored j (.int .u8 (d.toNat : Int))).1
    rw [cells8_set'] at h3
    exact h3
theorem RowSome.below {w w' : World} {base n c : Nat} {A : Option Addr} (h : RowSome w base A n c) (hb : Below w.heap.size w w') : RowSome w' base A n c := by
  obtain ⟨l, hl, ho⟩ := h
  exact ⟨l, hl, (Chg.of_below (S := NoBlk) hb).own ho (fun _ _ h => h)⟩

set_option maxRecDepth 100000 in
set_option maxHeartbeats 40000000 in
theorem law_own (A : Option Addr) (c n : Nat) (l : List UInt8) (s : Ac) (w : World) (hB : BytesIn w w.heap.size A c l) (hn : n = l.length) (_hby : BytesIn w w.heap.size s.ba s.bc s.b) (hh : Hal w) (h0w : 0 < w.heap.size) :
    Calls Tryd.prog 6 #[.slice A n c, av s] w fun e w' => e = .returned (.bool true) ∧ Below w.heap.size w w' := by
  have HN := Lib.hid hn
  have HB := Lib.hid hB
  have HH := Lib.hid hh
  obtain ⟨N, hN⟩ : ∃ N, N = s.b.length := ⟨_, rfl⟩
  have hsz : w.heap.size + 1 ≤ (w.alloc (.cells #[.int .i64 s.kind, .bool s.near, .int .i64 s.ep, .int .i64 s.at_, .slice s.ba s.b.length s.bc, .int .u32 s.sum, .int .i64 s.o.e, .int .i64 s.o.h, .int .i64 s.o.u, .int .i64 s.c.e, .int .i64 s.c.h, .int .i64 s.c.u] 47)).heap.size := by simp
  have hbx := heap_alloc_new w (.cells #[.int .i64 s.kind, .bool s.near, .int .i64 s.ep, .int .i64 s.at_, .slice s.ba s.b.length s.bc, .int .u32 s.sum, .int .i64 s.o.e, .int .i64 s.o.h, .int .i64 s.o.u, .int .i64 s.c.e, .int .i64 s.c.h, .int .i64 s.c.u] 47)
  have HB0 := Lib.hid ((Below.refl w.heap.size w).alloc (Nat.le_refl _) (.cells #[.int .i64 s.kind, .bool s.near, .int .i64 s.ep, .int .i64 s.at_, .slice s.ba s.b.length s.bc, .int .u32 s.sum, .int .i64 s.o.e, .int .i64 s.o.h, .int .i64 s.o.u, .int .i64 s.c.e, .int .i64 s.c.h, .int .i64 s.c.u] 47))
  have HX0 := Lib.hid hbx
  clear hn hh hB hbx
  obtain ⟨i5, hi, hz0, hz1, hz2⟩ := info_parts info5
  unfold av
  go_enter Tryd.func6, Tryd.ntmps6
  go_wp2_with fail
  generalize w.alloc (.cells #[.int .i64 s.kind, .bool s.near, .int .i64 s.ep, .int .i64 s.at_, .slice s.ba s.b.length s.bc, .int .u32 s.sum, .int .i64 s.o.e, .int .i64 s.o.h, .int .i64 s.o.u, .int .i64 s.c.e, .int .i64 s.c.h, .int .i64 s.c.u] 47) = w0 at HX0 HB0 hsz ⊢
  have hx0 := HX0.out
  rw [← hN] at hx0
  have HX0 := Lib.hid hx0
  clear hN hx0
  refine (awake_any _).mono ?_
  rintro e w1 ⟨rfl, hb⟩
  have HB1 := Lib.hid (HB0.out.trans (hb.mono (by omega)))
  have HX1 := Lib.hid ((hb.block w.heap.size (by omega)).trans HX0.out)
  have hs1 := HB1.out.size
  have hp1 : w.heap.size < w1.heap.size := by have := hb.size; omega
  clear hb HB0 HX0
  have k2 := cellb (i := 2) HX1.out rfl
  have k3 := cellb (i := 3) HX1.out rfl
  have k4 := cellb (i := 4) HX1.out rfl
  have k5 := cellb (i := 5) HX1.out rfl
  have k6 := cellb (i := 6) HX1.out rfl
  have k7 := cellb (i := 7) HX1.out rfl
  have k8 := cellb (i := 8) HX1.out rfl
  have k9 := cellb (i := 9) HX1.out rfl
  have k10 := cellb (i := 10) HX1.out rfl
  have k11 := cellb (i := 11) HX1.out rfl
  by_cases hbig : 2000 < n
  · go_wp2_with fail
    go_ret
    exact ⟨rfl, HB1.out⟩
  by_cases hbig2 : 2000 < N
  · go_wp2_with fail
    go_ret
    exact ⟨rfl, HB1.out⟩
  go_wp2_with fail
  refine (cut_nil _ _).mono ?_
  rintro e w' ⟨rfl, rfl⟩
  go_wp2_with fail
  refine (append_nil _ _ _ _ _ _).mono ?_
  clear k2 k3 k4 k5 k6 k7 k8 k9 k10 k11
  rintro e w2 ⟨rfl, hb⟩
  have HB2 := Lib.hid (HB1.out.trans (hb.mono hs1))
  have HX2 := Lib.hid ((hb.block w.heap.size hp1).trans HX1.out)
  have hs2 := HB2.out.size
  have hp2 : w.heap.size < w2.heap.size := by have := hb.size; omega
  clear hb HB1 HX1
  have k2 := cellb (i := 2) HX2.out rfl
  have k3 := cellb (i := 3) HX2.out rfl
  have k4 := cellb (i := 4) HX2.out rfl
  have k5 := cellb (i := 5) HX2.out rfl
  have k6 := cellb (i := 6) HX2.out rfl
  have k7 := cellb (i := 7) HX2.out rfl
  have k8 := cellb (i := 8) HX2.out rfl
  have k9 := cellb (i := 9) HX2.out rfl
  have k10 := cellb (i := 10) HX2.out rfl
  have k11 := cellb (i := 11) HX2.out rfl
  go_wp2_with fail
  refine (swap_nil s.o s.c _).mono ?_
  clear k2 k3 k4 k5 k6 k7 k8 k9 k10 k11
  rintro e w3 ⟨rfl, hb⟩
  have HB3 := Lib.hid (HB2.out.trans (hb.mono hs2))
  have HX3 := Lib.hid ((hb.block w.heap.size hp2).trans HX2.out)
  have hs3 := HB3.out.size
  have hp3 : w.heap.size < w3.heap.size := by have := hb.size; omega
  clear hb HB2 HX2
  have k2 := cellb (i := 2) HX3.out rfl
  have k3 := cellb (i := 3) HX3.out rfl
  have k4 := cellb (i := 4) HX3.out rfl
  have k5 := cellb (i := 5) HX3.out rfl
  have k6 := cellb (i := 6) HX3.out rfl
  have k7 := cellb (i := 7) HX3.out rfl
  have k8 := cellb (i := 8) HX3.out rfl
  have k9 := cellb (i := 9) HX3.out rfl
  have k10 := cellb (i := 10) HX3.out rfl
  have k11 := cellb (i := 11) HX3.out rfl
  go_wp2_with fail
  refine (chop_nil _ _ _).mono ?_
  clear k2 k3 k4 k5 k6 k7 k8 k9 k10 k11
  rintro e w4 ⟨rfl, hb⟩
  have HB4 := Lib.hid (HB3.out.trans (hb.mono hs3))
  have HX4 := Lib.hid ((hb.block w.heap.size hp3).trans HX3.out)
  have hs4 := HB4.out.size
  have hp4 : w.heap.size < w4.heap.size := by have := hb.size; omega
  clear hb HB3 HX3
  have k2 := cellb (i := 2) HX4.out rfl
  have k3 := cellb (i := 3) HX4.out rfl
  have k4 := cellb (i := 4) HX4.out rfl
  have k5 := cellb (i := 5) HX4.out rfl
  have k6 := cellb (i := 6) HX4.out rfl
  have k7 := cellb (i := 7) HX4.out rfl
  have k8 := cellb (i := 8) HX4.out rfl
  have k9 := cellb (i := 9) HX4.out rfl
  have k10 := cellb (i := 10) HX4.out rfl
  have k11 := cellb (i := 11) HX4.out rfl
  go_wp2_with fail
  refine (stage_nil _ _ _ _ _).mono ?_
  clear k2 k3 k4 k5 k6 k7 k8 k9 k10 k11
  rintro e w5 ⟨rfl, hb⟩
  have HB5 := Lib.hid (HB4.out.trans (hb.mono hs4))
  have HX5 := Lib.hid ((hb.block w.heap.size hp4).trans HX4.out)
  have hs5 := HB5.out.size
  have hp5 : w.heap.size < w5.heap.size := by have := hb.size; omega
  clear hb HB4 HX4
  have k2 := cellb (i := 2) HX5.out rfl
  have k3 := cellb (i := 3) HX5.out rfl
  have k4 := cellb (i := 4) HX5.out rfl
  have k5 := cellb (i := 5) HX5.out rfl
  have k6 := cellb (i := 6) HX5.out rfl
  have k7 := cellb (i := 7) HX5.out rfl
  have k8 := cellb (i := 8) HX5.out rfl
  have k9 := cellb (i := 9) HX5.out rfl
  have k10 := cellb (i := 10) HX5.out rfl
  have k11 := cellb (i := 11) HX5.out rfl
  go_wp2_with fail
  refine (commit_nil _ _ _ _).mono ?_
  clear k2 k3 k4 k5 k6 k7 k8 k9 k10 k11
  rintro e w6 ⟨rfl, hb⟩
  have HB6 := Lib.hid (HB5.out.trans (hb.mono hs5))
  have HX6 := Lib.hid ((hb.block w.heap.size hp5).trans HX5.out)
  have hs6 := HB6.out.size
  have hp6 : w.heap.size < w6.heap.size := by have := hb.size; omega
  clear hb HB5 HX5
  have k2 := cellb (i := 2) HX6.out rfl
  have k3 := cellb (i := 3) HX6.out rfl
  have k4 := cellb (i := 4) HX6.out rfl
  have k5 := cellb (i := 5) HX6.out rfl
  have k6 := cellb (i := 6) HX6.out rfl
  have k7 := cellb (i := 7) HX6.out rfl
  have k8 := cellb (i := 8) HX6.out rfl
  have k9 := cellb (i := 9) HX6.out rfl
  have k10 := cellb (i := 10) HX6.out rfl
  have k11 := cellb (i := 11) HX6.out rfl
  go_wp2_with fail
  refine (room_nil _).mono ?_
  rintro e w' ⟨rfl, rfl⟩
  go_wp2_with fail
  refine (claim_nil _).mono ?_
  clear k2 k3 k4 k5 k6 k7 k8 k9 k10 k11
  rintro e w7 ⟨rfl, hb⟩
  have HB7 := Lib.hid (HB6.out.trans (hb.mono hs6))
  have HX7 := Lib.hid ((hb.block w.heap.size hp6).trans HX6.out)
  have hs7 := HB7.out.size
  have hp7 : w.heap.size < w7.heap.size := by have := hb.size; omega
  clear hb HB6 HX6
  have k2 := cellb (i := 2) HX7.out rfl
  have k3 := cellb (i := 3) HX7.out rfl
  have k4 := cellb (i := 4) HX7.out rfl
  have k5 := cellb (i := 5) HX7.out rfl
  have k6 := cellb (i := 6) HX7.out rfl
  have k7 := cellb (i := 7) HX7.out rfl
  have k8 := cellb (i := 8) HX7.out rfl
  have k9 := cellb (i := 9) HX7.out rfl
  have k10 := cellb (i := 10) HX7.out rfl
  have k11 := cellb (i := 11) HX7.out rfl
  go_wp2_with fail
  refine (log_nil _).mono ?_
  rintro e w' ⟨rfl, rfl⟩
  go_wp2_with fail
  refine (snap_nil _).mono ?_
  rintro e w' ⟨rfl, rfl⟩
  clear k2 k3 k4 k5 k6 k7 k8 k9 k10 k11 HX7
  have z1 := zc (HB.out.below HB7.out (Nat.le_refl _)) HN.out
  have ow0 : (w7.alloc (.cells #[] 5)).ownsRow w.heap.size 5 1 (.slice (some ⟨w7.heap.size, 0, none⟩) 0 0) 0 (cells8 []) := own_alloc w7 #[] 5 1 0 _ rfl (by unfold maxLen; omega) hs7
  have OW0 := Lib.hid ow0
  have HBA := Lib.hid ((Below.refl w7.heap.size w7).alloc (Nat.le_refl _) (.cells #[] 5))
  have hsa : w.heap.size ≤ (w7.alloc (.cells #[] 5)).heap.size := by simp; omega
  have HSA := Lib.hid hsa
  clear ow0 hsa
  go_wp2_with (at_builtin; refine wpList_append_row _ rfl (.tmp 111) (.tmp 112) _ rfl w.heap.size 5 i5 _ 1 1 Tryd.underlying22 hi hz0 hz1 hz2 rfl (by omega) (some ⟨w7.heap.size, 0, none⟩) 0 0 (cells8 []) rfl OW0.out _ A n c (cells8 l) rfl (((HB.out.below HB7.out (Nat.le_refl _)).below HBA.out hs7).cellsN HN.out) (cells8_one _) (by unfold maxLen; omega) (by omega) HSA.out ?_; intro A8 c8 w8 hown8 hg8 _; have HB8 := Lib.hid ((HB7.out.trans (HBA.out.mono hs7)).grown hg8 HSA.out (fun q hq => (OW0.out.lt q hq).1)); have hs8 := HB8.out.size; have HO8 := Lib.hid (own_norm hown8); clear hown8 hg8)
  obtain ⟨g, hg⟩ : ∃ g, g = w8.heap.size := ⟨_, rfl⟩
  have hgw : w.heap.size ≤ g := by omega
  have hkg : ∀ k, Value.ownBlock (.slice A8 n c8) = some k → k < g := fun k hk => by rw [hg]; exact (HO8.out.lt k hk).2
  have HKG := Lib.hid hkg
  have hnew : Calls Tryd.prog 8 #[.int .i64 5000] w8 fun e w' => e = .returned (.pointer (some ⟨g, 0, none⟩)) ∧ DiskAt w' g ⟨5000, ⟨0, 0, 0⟩, [], [], [], false, 0⟩ Lay.none ∧ Below w8.heap.size w8 w' := by
    have h := new_any 5000 w8
    rw [hg]
    exact h
  clear z1 hkg hg
  refine hnew.mono ?_
  clear hnew
  rintro e w9 ⟨rfl, hd9, hb9⟩
  have HD9 := Lib.hid hd9
  have HB9 := Lib.hid (HB8.out.trans (hb9.mono hs8))
  have HO9 := Lib.hid ((Chg.of_below (S := NoBlk) hb9).own HO8.out (fun _ _ h => h))
  have hs9 := HB9.out.size
  have hg9 := hd9.glt
  have hA8 : l ≠ [] → ∀ ad, A8 = some ad → ad.block ≠ g := fun _ ad h e => by
    have := HKG.out ad.block (by rw [ownBlock_map, h]; rfl)
    omega
  have hap := append_any g n ⟨5000, ⟨0, 0, 0⟩, [], [], [], false, 0⟩ Lay.none 0 0 A8 c8 l w9 hd9 HN.out (bytesIn_of_own HO9.out).2 hA8
  have hap1 : apD ⟨5000, ⟨0, 0, 0⟩, [], [], [], false, 0⟩ 0 0 l = ⟨5000, ⟨0, 0, 0⟩, l, [], [], false, 0⟩ := by
    have := HN.out
    have hf : ¬ 5000 < l.length := by omega
    unfold apD appD
    simp [took, hf]
  rw [hap1] at hap
  have HAP := Lib.hid hap
  clear hap hap1 hd9 hb9 HB8 HO8
  go_wp2_with fail
  refine HAP.out.mono ?_
  clear HAP
  rintro e w10 ⟨rfl, y10, hd10, F10⟩
  have HD10 := Lib.hid hd10
  have HB10 := Lib.hid (HB9.out.trans (F10.below hgw HD9.out))
  have HO10 := Lib.hid (F10.ch.own HO9.out (fun k hk e => by
    have h1 := HKG.out k hk
    rcases e with e | e
    · omega
    · have := (HD9.out.lbl k e).1; omega))
  have hs10 := HB10.out.size
  have hg10 := hd10.glt
  have hst := stage_any g n ⟨5000, ⟨0, 0, 0⟩, l, [], [], false, 0⟩ y10 0 A8 c8 l w10 HD10.out HN.out (bytesIn_of_own HO10.out).2 hA8
  have hst2 : sgD ⟨5000, ⟨0, 0, 0⟩, l, [], [], false, 0⟩ 0 l = ⟨5000, ⟨0, 0, 0⟩, l, [], l, false, 0⟩ := by
    have hf : ¬ 5000 < l.length := by have := HN.out; omega
    simp [sgD, stD, took, hf]
  rw [hst2] at hst
  have HST := Lib.hid hst
  clear hst hst2 hd10 F10 HB9 HO9 HD9 hA8
  go_wp2_with fail
  refine HST.out.mono ?_
  clear HST
  rintro e w11 ⟨rfl, y11, hd11, F11⟩
  have HD11 := Lib.hid hd11
  have HB11 := Lib.hid (HB10.out.trans (F11.below hgw HD10.out))
  have HO11 := Lib.hid (show RowSome w11 w.heap.size A8 n c8 from ⟨l, HN.out.symm, F11.ch.own HO10.out (fun k hk e => by
    have h1 := HKG.out k hk
    rcases e with e | e
    · omega
    · have := (HD10.out.lbl k e).1; omega)⟩)
  have hs11 := HB11.out.size
  clear hd11 F11 HB10 HO10 HD10
  go_wp2_with fail
  go_loopw [12] (fun i wr => ∃ j : Nat, j ≤ n ∧ i = .int .i64 j ∧ Hid (DiskAt wr g ⟨5000, ⟨0, 0, 0⟩, l, [], l, false, 0⟩ y11) ∧ Hid (RowSome wr w.heap.size A8 n c8) ∧ Hid (Below w.heap.size w wr)) (fun i _ => n - (intOf i).toNat)
  case atStart => exact ⟨0, Nat.zero_le _, rfl, HD11, HO11, HB11⟩
  case round =>
    clear HD11 HO11 HB11
    obtain ⟨j, hj, rfl, HD, HO, HBw⟩ := hrel
    by_cases hjN : j < n
    · obtain ⟨b, u, v, rfl, hbb, hbl, hbc, hcj, hfj, hx, hnx⟩ := HO.out.at_ hjN
      have hj0 : (0 : Int) ≤ (j : Int) := by omega
      have hjn : (j : Int) < (n : Int) := by omega
      have hbg : b < g := HKG.out b rfl
      have hch : Chg (fun q => q = b) wr (wr.setCell ⟨b, j, none⟩ (.int .u8 v)) := (Chg.refl (fun q => q = b) wr).setCell (p := ⟨b, j, none⟩) (.inr rfl) _
      have HD5 := Lib.hid (HD.out.chg hch (fun k h1 h2 e => by omega))
      have HO5 := Lib.hid hnx
      have HB5 := Lib.hid (HBw.out.setCell (p := ⟨b, j, none⟩) (by show w.heap.size ≤ b; omega) (.int .u8 v))
      clear hch hnx HD HO HBw
      go_wp2_with fail
      go_roundw
      case rel => exact ⟨j + 1, by omega, by go_num, HD5, HO5, HB5⟩
      case measure => simp [intOf]; omega
    · clear HO
      have hsw := HBw.out.size
      go_wp2_with fail
      have HBa := Lib.hid HBw.out
      have hsa1 := hsw
      clear HBw hsw
      obtain ⟨wa, rfl⟩ : ∃ wa : World, wa = wr := ⟨_, rfl⟩
      refine (log_any g ⟨5000, ⟨0, 0, 0⟩, l, [], l, false, 0⟩ y11 wa HD.out).mono ?_
      rintro e w12 ⟨A7, c7, rfl, ho, hb⟩
      simp only [← HN.out] at ho ⊢
      have HL7 := Lib.hid hb
      have HR7 := Lib.hid (show RowSome w12 wa.heap.size A7 n c7 from ⟨l, HN.out.symm, ho⟩)
      clear ho hb
      go_wp2_with fail
      go_loopw [14] (fun i wr => ∃ j : Nat, j ≤ n ∧ i = .int .i64 j ∧ Hid (Below wa.heap.size wa wr) ∧ Hid (RowSome wr wa.heap.size A7 n c7)) (fun i _ => n - (intOf i).toNat)
      case atStart => exact ⟨0, Nat.zero_le _, rfl, HL7, HR7⟩
      case round =>
        clear HL7 HR7
        obtain ⟨j, hj, rfl, HBw, HO⟩ := hrel
        by_cases hjN : j < n
        · obtain ⟨b, u, v, rfl, hbb, hbl, hbc, hcj, hfj, hx, hnx⟩ := HO.out.at_ hjN
          have hj0 : (0 : Int) ≤ (j : Int) := by omega
          have hjn : (j : Int) < (n : Int) := by omega
          have HO5 := Lib.hid hnx
          have HB5 := Lib.hid (HBw.out.setCell (p := ⟨b, j, none⟩) (by show wa.heap.size ≤ b; omega) (.int .u8 v))
          clear hnx HO HBw
          go_wp2_with fail
          go_roundw
          case rel => exact ⟨j + 1, by omega, by go_num, HB5, HO5⟩
          case measure => simp [intOf]; omega
        · clear HO
          have HDb := Lib.hid (HD.out.chg0 (Chg.of_below HBw.out))
          have HBb := Lib.hid (HBa.out.trans (HBw.out.mono hsa1))
          have hsb := HBb.out.size
          clear HD HBa HBw
          obtain ⟨wb, rfl⟩ : ∃ wb : World, wb = wr := ⟨_, rfl⟩
          go_wp2_with fail
          refine (log_any g ⟨5000, ⟨0, 0, 0⟩, l, [], l, false, 0⟩ y11 wb HDb.out).mono ?_
          rintro e w14 ⟨A9, c9, rfl, ho, hb⟩
          simp only [← HN.out] at ho ⊢
          have z14 := zc (bytesIn_of_own ho).2 HN.out
          have HD14 := Lib.hid (HDb.out.chg0 (Chg.of_below hb))
          have HB14 := Lib.hid (HBb.out.trans (hb.mono hsb))
          have hs14 := HB14.out.size
          clear ho hb HDb HBb
          go_wp2_with fail
          refine (rsum_n A c n l w14 _ (HB.out.below HB14.out (Nat.le_refl _)) HN.out).mono ?_
          rintro e w' ⟨rfl, rfl⟩
          clear z14
          have hcm := commit_any g ⟨5000, ⟨0, 0, 0⟩, l, [], l, false, 0⟩ y11 0 (crc l : Int) 0 w14 HD14.out (HH.out.below HB14.out h0w) (by omega)
          have hcm1 : comE ⟨5000, ⟨0, 0, 0⟩, l, [], l, false, 0⟩ 0 (crc l : Int) 0 = 0 := by
            simp [comE, cmE]
          have hcm2 : comD ⟨5000, ⟨0, 0, 0⟩, l, [], l, false, 0⟩ 0 (crc l : Int) 0 = ⟨5000, ⟨0, 0, 0⟩, l, l, [], false, 0⟩ := by
            have hf : ¬ (l.length : Int) < 0 := by omega
            simp [comD, cmD, hf]
          rw [hcm1, hcm2] at hcm
          have HCM := Lib.hid hcm
          clear hcm hcm1 hcm2
          go_wp2_with fail
          refine HCM.out.mono ?_
          clear HCM
          rintro e w15 ⟨rfl, y15, hd15, F15⟩
          have HD := Lib.hid hd15
          have HB15 := Lib.hid (HB14.out.trans (F15.below hgw HD14.out))
          have hs15 := HB15.out.size
          clear hd15 F15 HD14 HB14
          go_wp2_with fail
          refine (snap_any g ⟨5000, ⟨0, 0, 0⟩, l, l, [], false, 0⟩ y15 w15 HD.out).mono ?_
          rintro e w16 ⟨A6, c6, rfl, ho, hb⟩
          simp only [← HN.out] at ho ⊢
          have HL6 := Lib.hid hb
          have HR6 := Lib.hid (show RowSome w16 w15.heap.size A6 n c6 from ⟨l, HN.out.symm, ho⟩)
          clear ho hb
          go_wp2_with fail
          go_loopw [16] (fun i wr => ∃ j : Nat, j ≤ n ∧ i = .int .i64 j ∧ Hid (Below w15.heap.size w15 wr) ∧ Hid (RowSome wr w15.heap.size A6 n c6)) (fun i _ => n - (intOf i).toNat)
          case atStart => exact ⟨0, Nat.zero_le _, rfl, HL6, HR6⟩
          case round =>
            clear HL6 HR6
            obtain ⟨j, hj, rfl, HBw, HO⟩ := hrel
            by_cases hjN : j < n
            · obtain ⟨b, u, v, rfl, hbb, hbl, hbc, hcj, hfj, hx, hnx⟩ := HO.out.at_ hjN
              have hj0 : (0 : Int) ≤ (j : Int) := by omega
              have hjn : (j : Int) < (n : Int) := by omega
              have HO5 := Lib.hid hnx
              have HB5 := Lib.hid (HBw.out.setCell (p := ⟨b, j, none⟩) (by show w15.heap.size ≤ b; omega) (.int .u8 v))
              clear hnx HO HBw
              go_wp2_with fail
              go_roundw
              case rel => exact ⟨j + 1, by omega, by go_num, HB5, HO5⟩
              case measure => simp [intOf]; omega
            · clear HO
              have HDe := Lib.hid (HD.out.chg0 (Chg.of_below HBw.out))
              have HBe := Lib.hid (HB15.out.trans (HBw.out.mono hs15))
              have hse := HBe.out.size
              clear HD HB15 HBw
              obtain ⟨we, rfl⟩ : ∃ we : World, we = wr := ⟨_, rfl⟩
              go_wp2_with fail
              refine (snap_any g ⟨5000, ⟨0, 0, 0⟩, l, l, [], false, 0⟩ y15 we HDe.out).mono ?_
              rintro e w17 ⟨A5, c5, rfl, ho, hb⟩
              simp only [← HN.out] at ho ⊢
              have z17 := zc (bytesIn_of_own ho).2 HN.out
              have HD17 := Lib.hid (HDe.out.chg0 (Chg.of_below hb))
              have HB17 := Lib.hid (HBe.out.trans (hb.mono hse))
              have hs17 := HB17.out.size
              clear ho hb HDe HBe
              go_wp2_with fail
              clear z17
              refine (log_any g ⟨5000, ⟨0, 0, 0⟩, l, l, [], false, 0⟩ y15 w17 HD17.out).mono ?_
              rintro e w18 ⟨A4, c4, rfl, ho, hb⟩
              simp only [← HN.out] at ho ⊢
              have z18 := zc (bytesIn_of_own ho).2 HN.out
              have HB18 := Lib.hid (HB17.out.trans (hb.mono hs17))
              clear ho hb HD17 HB17
              go_wp2_with fail
              go_ret
              exact ⟨rfl, HB18.out⟩
end Go.Proofs.YtpkefkoimlecjaaDoor
