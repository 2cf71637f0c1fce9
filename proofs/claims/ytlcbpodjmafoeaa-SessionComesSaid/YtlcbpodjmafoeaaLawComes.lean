/- The law SessionComes: the walk. -/
import Derived.Test.YtlcbpodjmafoeaaAwk19
import Derived.Test.YtlcbpodjmafoeaaSame19
import Derived.Deep.LoopGhost
namespace Go.Proofs.Ytlcbpodjmafoeaa
open Go.RowKit

theorem BytesIn.chgB {S : Nat → Prop} {w w' : World} {B c : Nat} {A : Option Addr} {l : List UInt8} (h : BytesIn w B A c l) (hB : B ≤ w.heap.size) (hc : Chg S w w') (hs : ∀ k, k < B → ¬ S k) : BytesIn w' B A c l := by
  refine ⟨h.le, h.cap, ?_⟩
  rcases h.rd with e | ⟨b, off, e, hlt, hr⟩
  · exact .inl e
  · exact .inr ⟨b, off, e, hlt, fun i hi => by
      have hb := hc.block b (by omega) (hs b hlt)
      have e2 : w'.cell? ⟨b, off + i, none⟩ = w.cell? ⟨b, off + i, none⟩ := by simp [World.cell?, hb]
      rw [e2]; exact hr i hi⟩
theorem BytesIn.blt {w : World} {B c : Nat} {A : Option Addr} {l : List UInt8} (h : BytesIn w B A c l) {ad : Addr} (hne : l ≠ []) (e : A = some ad) : ad.block < B := by
  rcases h.rd with h0 | ⟨b, off, e', hlt, _⟩
  · exact absurd h0 hne
  · rw [e] at e'; injection e' with e'; rw [e']; exact hlt
theorem ok7 {E id : Int} {n : Nat} (h0 : 0 ≤ E) (h1 : E ≤ 1099511627776) (h2 : 1 ≤ id) (h3 : id ≤ 16) (hn : n ≤ 4096) : OkL [⟨1, 0, 1099511627776⟩, ⟨15, 1, 16⟩, ⟨16, 1, 1099511627776⟩] (askV E id 1) n 4096 := by
  unfold OkL Nil zap noL fitV askV
  simp [okb]; omega
theorem okR8 {E id sq a b : Int} (h0 : 0 ≤ E) (h1 : E ≤ 1099511627776) (h2 : 1 ≤ id) (h3 : id ≤ 16) (h4 : 1 ≤ sq) (h5 : sq ≤ 1099511627776) (ha : 0 ≤ a) (ha' : a ≤ 999) (hb : 0 ≤ b) (hb' : b ≤ 100) : OkR E id sq a b 0 := by
  unfold OkR OkL Nil zap noL fitV repV
  simp [okb]; omega
theorem wfid {id : Int} (h2 : 1 ≤ id) (h3 : id ≤ 16) : (Lit.int .i64 id).wf = true := by
  show (decide ((-9223372036854775808 : Int) ≤ id) && decide (id ≤ 9223372036854775807)) = true
  simp; omega
/-- A client of one's own, between two blocks. -/
def askS (id E at_ : Int) (b : Bool) (l : List UInt8) : Ct := ⟨id, 1, E, true, b, at_, l⟩

set_option maxRecDepth 100000 in
theorem comes_out (id ep : Int) (A : Option Addr) (c : Nat) (l : List UInt8) (w : World) (h : id < 1 ∨ 16 < id ∨ ep < 1 ∨ 1099511627776 < ep ∨ 4096 < l.length) (hl : l.length ≤ 9223372036854775807) :
    Calls Try.prog 6 #[.int .i64 id, .int .i64 ep, .slice A l.length c] w fun e w' => e = .returned (.bool true) ∧ Below w.heap.size w w' := by
  have key : id < 1 ∨ (¬ id < 1 ∧ 16 < id) ∨ (¬ id < 1 ∧ ¬ 16 < id ∧ ep < 1) ∨ (¬ id < 1 ∧ ¬ 16 < id ∧ ¬ ep < 1 ∧ 1099511627776 < ep) ∨ (¬ id < 1 ∧ ¬ 16 < id ∧ ¬ ep < 1 ∧ ¬ 1099511627776 < ep ∧ (4096 : Int) < (l.length : Int)) := by omega
  clear h
  rcases key with h1 | ⟨h1, h2⟩ | ⟨h1, h2, h3⟩ | ⟨h1, h2, h3, h4⟩ | ⟨h1, h2, h3, h4, h5⟩
  all_goals
    go_enter Try.func6, Try.ntmps6
    go_wp2_with fail
    refine (awake_any w).mono ?_
    rintro e w1 ⟨rfl, hb⟩
    have HB := Lib.hid hb
    clear hb
    go_wp2_with fail
    go_ret
    exact ⟨rfl, HB.out⟩

set_option maxRecDepth 100000 in
set_option maxHeartbeats 16000000 in
theorem comes_in (id ep : Int) (A : Option Addr) (c : Nat) (l : List UInt8) (w : World) (i1 : 1 ≤ id) (i2 : id ≤ 16) (e1 : 1 ≤ ep) (e2 : ep ≤ 1099511627776) (hl : l.length ≤ 4096) (hB : BytesIn w w.heap.size A c l) :
    Calls Try.prog 6 #[.int .i64 id, .int .i64 ep, .slice A l.length c] w fun e w' => e = .returned (.bool true) ∧ Below w.heap.size w w' := by
  have h1 : ¬ id < 1 := by omega
  have h2 : ¬ 16 < id := by omega
  have h3 : ¬ ep < 1 := by omega
  have h4 : ¬ 1099511627776 < ep := by omega
  have h5 : ¬ (4096 : Int) < (l.length : Int) := by omega
  have HY_0 := Lib.hid hB
  clear hB
  go_enter Try.func6, Try.ntmps6
  go_wp2_with fail
  refine (awake_any w).mono ?_
  rintro e w1 ⟨rfl, hb⟩
  have HB_1 := Lib.hid hb
  have HY_1 : Hid (BytesIn w1 w.heap.size A c l) := Lib.hid (HY_0.out.below hb (Nat.le_refl _))
  clear hb HY_0
  go_wp2_with fail
  obtain ⟨gc, hgc⟩ : ∃ g, g = w1.heap.size := ⟨_, rfl⟩
  have hnc := newc_any id w1 i1 i2
  rw [← hgc] at hnc
  have hwg : w.heap.size ≤ gc := by have := HB_1.out.size; omega
  refine hnc.mono ?_
  clear hnc
  rintro e w2 ⟨rfl, hc, hb⟩
  have hb : Below w1.heap.size w1 w2 := by rw [← hgc]; exact hb
  clear hgc
  have HB_2 : Hid (Below w.heap.size w w2) := Lib.hid (HB_1.out.trans (hb.mono HB_1.out.size))
  have HY_2 : Hid (BytesIn w2 w.heap.size A c l) := Lib.hid (HY_1.out.below hb HB_1.out.size)
  clear hb HB_1 HY_1
  have HC_2 : Hid (CAt w2 gc ⟨id, 0, 0, false, false, 0, []⟩ none 0) := Lib.hid hc
  clear hc
  go_wp2_with fail
  obtain ⟨M, hM⟩ : ∃ M, M = w2.heap.size := ⟨_, rfl⟩
  have hns := news_any ep w2 e1 e2
  rw [← hM] at hns
  have hgM : gc < M := by have := HC_2.out.glt; omega
  refine hns.mono ?_
  clear hns
  rintro e w3 ⟨rfl, hs, hb⟩
  have hb : Below w2.heap.size w2 w3 := by rw [← hM]; exact hb
  clear hM
  have HC_3 := Lib.hid (HC_2.out.below hb)
  clear HC_2
  have HB_3 : Hid (Below w.heap.size w w3) := Lib.hid (HB_2.out.trans (hb.mono HB_2.out.size))
  have HY_3 : Hid (BytesIn w3 w.heap.size A c l) := Lib.hid (HY_2.out.below hb HB_2.out.size)
  clear hb HB_2 HY_2
  have HS_3 : Hid (SAt w3 (M + 1) ep M 0 (fun _ => ⟨0, 0, 0, 0⟩)) := Lib.hid hs
  clear hs
  go_wp2_with fail
  refine (ask_any gc l.length ⟨id, 0, 0, false, false, 0, []⟩ none 0 A c l w3 HC_3.out (HY_3.out.more HB_3.out.size) rfl (fun hne ad e => by have := HY_3.out.blt hne e; omega) (Int.le_refl 0)).mono ?_
  rintro e w4 ⟨rfl, A4, c4, hc, hch⟩
  have hae : askE ⟨id, 0, 0, false, false, 0, []⟩ l.length = 0 := by unfold askE; rw [if_neg (by show ¬ (false = true); decide), if_neg (by show ¬ (4096 < l.length ∨ (1099511627776 : Int) ≤ 0); omega)]
  have HC_4 : Hid (CAt w4 gc (askS id 0 0 false l) A4 c4) := Lib.hid (by
    have := hc; unfold askD at this; rw [if_pos hae] at this; exact this)
  rw [hae]
  clear hae hc HC_3
  have HB_4 : Hid (Below w.heap.size w w4) := Lib.hid (HB_3.out.trans (hch.below HB_3.out.size (fun k hk e => by omega)))
  have HY_4 : Hid (BytesIn w4 w.heap.size A c l) := Lib.hid (HY_3.out.chgB HB_3.out.size hch (fun k hk e => by omega))
  have HS_4 : Hid (SAt w4 (M + 1) ep M 0 (fun _ => ⟨0, 0, 0, 0⟩)) := Lib.hid (HS_3.out.chg hch (by omega) (by omega))
  clear hch HB_3 HY_3 HS_3
  go_wp2_with fail
  go_loopg [10] 1 (fun gk s10 wr => ∃ (E at_ : Int) (A4 : Option Addr) (c4 : Nat), ((gk = 1 ∧ s10 = .int .i64 0 ∧ E = 0 ∧ at_ = 0) ∨ (gk = 0 ∧ s10 = .int .i64 1 ∧ ep = E ∧ at_ = 4)) ∧ Hid (CAt wr gc (askS id E at_ false l) A4 c4) ∧ Hid (SAt wr (M + 1) ep M 0 (fun _ => ⟨0, 0, 0, 0⟩)) ∧ Hid (BytesIn wr w.heap.size A c l) ∧ Hid (Below w.heap.size w wr))
  case atStart => exact ⟨0, 0, A4, c4, .inl ⟨rfl, rfl, rfl, rfl⟩, HC_4, HS_4, HY_4, HB_4⟩
  case round =>
    clear HC_4 HS_4 HY_4 HB_4
    clear A4 c4
    obtain ⟨w5, rfl⟩ : ∃ x : World, x = wr := ⟨_, rfl⟩
    obtain ⟨E, at_, A4, c4, hd, HC_5, HS_5, HY_5, HB_5⟩ := hrel
    rcases hd with ⟨rfl, rfl, rfl, rfl⟩ | ⟨rfl, rfl, rfl, rfl⟩
    · skip
      have hM0 : gc < M := hgM
      go_wp2_with fail
      refine (send_ok gc (askS id 0 0 false l) A4 c4 0 w5 HC_5.out (by unfold SendNo askS; simp) (by unfold askS; show l.length ≤ 5000; omega) (by show (0 : Int) < 1099511627776; decide)).mono ?_
      rintro e w6 ⟨A6, c6, rfl, hc, ho, hch⟩
      simp only [askS]
      have hc' : CAt w6 gc (askS id 0 0 true l) A4 c4 := hc
      have ho' : w6.ownsRow w5.heap.size 5 1 (.slice A6 l.length c6) l.length (cells8 l) := ho
      clear hc ho HC_5
      obtain ⟨Z1, hZ1⟩ : ∃ x, x = w5.heap.size := ⟨_, rfl⟩
      have hgn : gc < Z1 ∧ M + 1 < Z1 ∧ Z1 ≤ w6.heap.size := by have := HS_5.out.glt; have := hch.size; have := hM0; omega
      obtain ⟨hgZ1, hmZ1, hzZ1⟩ := hgn
      rw [← hZ1] at ho'
      clear hZ1
      have HB_6 : Hid (Below w.heap.size w w6) := Lib.hid (HB_5.out.trans (hch.below HB_5.out.size (fun k hk e => by omega)))
      have HY_6 : Hid (BytesIn w6 w.heap.size A c l) := Lib.hid (HY_5.out.chgB HB_5.out.size hch (fun k hk e => by omega))
      have HS_6 : Hid (SAt w6 (M + 1) ep M 0 (fun _ => ⟨0, 0, 0, 0⟩)) := Lib.hid (HS_5.out.chg hch (by omega) (by omega))
      clear hch HB_5 HY_5 HS_5
      have HC_6 : Hid (CAt w6 gc (askS id 0 0 true l) A4 c4) := Lib.hid hc'
      have HR1_6 := Lib.hid ho'
      clear hc' ho'
      obtain ⟨P11, hP11⟩ : ∃ x, x = w6.heap.size := ⟨_, rfl⟩
      have hqP11 : gc < P11 ∧ M + 1 < P11 := by have := HC_6.out.glt; have := HS_6.out.glt; omega
      obtain ⟨hqP11, hrP11⟩ := hqP11
      have hal : Below w6.heap.size w6 (w6.alloc (.cells #[.int .i64 7, .int .i64 0, .int .i64 0, .int .i64 0, .int .i64 0, .int .i64 0, .int .i64 0, .int .i64 0, .int .i64 0, .int .i64 0, .int .i64 0, .int .i64 0, .int .i64 0, .int .i64 0, .int .i64 0, .int .i64 id, .int .i64 1, .slice A6 l.length c6, .int .i64 0, .int .i64 0, .int .i64 0] 36)) := (Below.refl _ _).alloc (Nat.le_refl _) _
      have hnew : (w6.alloc (.cells #[.int .i64 7, .int .i64 0, .int .i64 0, .int .i64 0, .int .i64 0, .int .i64 0, .int .i64 0, .int .i64 0, .int .i64 0, .int .i64 0, .int .i64 0, .int .i64 0, .int .i64 0, .int .i64 0, .int .i64 0, .int .i64 id, .int .i64 1, .slice A6 l.length c6, .int .i64 0, .int .i64 0, .int .i64 0] 36)).heap[P11]? = some (.cells #[.int .i64 7, .int .i64 0, .int .i64 0, .int .i64 0, .int .i64 0, .int .i64 0, .int .i64 0, .int .i64 0, .int .i64 0, .int .i64 0, .int .i64 0, .int .i64 0, .int .i64 0, .int .i64 0, .int .i64 0, .int .i64 id, .int .i64 1, .slice A6 l.length c6, .int .i64 0, .int .i64 0, .int .i64 0] 36 (0, 0)) := by rw [hP11]; exact heap_alloc_new _ _
      have HB_7 : Hid (Below w.heap.size w (w6.alloc (.cells #[.int .i64 7, .int .i64 0, .int .i64 0, .int .i64 0, .int .i64 0, .int .i64 0, .int .i64 0, .int .i64 0, .int .i64 0, .int .i64 0, .int .i64 0, .int .i64 0, .int .i64 0, .int .i64 0, .int .i64 0, .int .i64 id, .int .i64 1, .slice A6 l.length c6, .int .i64 0, .int .i64 0, .int .i64 0] 36))) := Lib.hid (HB_6.out.trans (hal.mono HB_6.out.size))
      have HY_7 : Hid (BytesIn (w6.alloc (.cells #[.int .i64 7, .int .i64 0, .int .i64 0, .int .i64 0, .int .i64 0, .int .i64 0, .int .i64 0, .int .i64 0, .int .i64 0, .int .i64 0, .int .i64 0, .int .i64 0, .int .i64 0, .int .i64 0, .int .i64 0, .int .i64 id, .int .i64 1, .slice A6 l.length c6, .int .i64 0, .int .i64 0, .int .i64 0] 36)) w.heap.size A c l) := Lib.hid (HY_6.out.below hal HB_6.out.size)
      have HS_7 : Hid (SAt (w6.alloc (.cells #[.int .i64 7, .int .i64 0, .int .i64 0, .int .i64 0, .int .i64 0, .int .i64 0, .int .i64 0, .int .i64 0, .int .i64 0, .int .i64 0, .int .i64 0, .int .i64 0, .int .i64 0, .int .i64 0, .int .i64 0, .int .i64 id, .int .i64 1, .slice A6 l.length c6, .int .i64 0, .int .i64 0, .int .i64 0] 36)) (M + 1) ep M 0 (fun _ => ⟨0, 0, 0, 0⟩)) := Lib.hid (HS_6.out.below hal)
      have HC_7 : Hid (CAt (w6.alloc (.cells #[.int .i64 7, .int .i64 0, .int .i64 0, .int .i64 0, .int .i64 0, .int .i64 0, .int .i64 0, .int .i64 0, .int .i64 0, .int .i64 0, .int .i64 0, .int .i64 0, .int .i64 0, .int .i64 0, .int .i64 0, .int .i64 id, .int .i64 1, .slice A6 l.length c6, .int .i64 0, .int .i64 0, .int .i64 0] 36)) gc (askS id 0 0 true l) A4 c4) := Lib.hid (HC_6.out.below hal)
      have HR1_7 : Hid ((w6.alloc (.cells #[.int .i64 7, .int .i64 0, .int .i64 0, .int .i64 0, .int .i64 0, .int .i64 0, .int .i64 0, .int .i64 0, .int .i64 0, .int .i64 0, .int .i64 0, .int .i64 0, .int .i64 0, .int .i64 0, .int .i64 0, .int .i64 id, .int .i64 1, .slice A6 l.length c6, .int .i64 0, .int .i64 0, .int .i64 0] 36)).ownsRow Z1 5 1 (.slice A6 l.length c6) l.length (cells8 l)) := Lib.hid ((Chg.of_below (S := fun _ => False) hal).own HR1_6.out (fun _ _ h => h))
      clear hal HB_6 HY_6 HS_6 HC_6 HR1_6
      have HP11_7 : Hid ((w6.alloc (.cells #[.int .i64 7, .int .i64 0, .int .i64 0, .int .i64 0, .int .i64 0, .int .i64 0, .int .i64 0, .int .i64 0, .int .i64 0, .int .i64 0, .int .i64 0, .int .i64 0, .int .i64 0, .int .i64 0, .int .i64 0, .int .i64 id, .int .i64 1, .slice A6 l.length c6, .int .i64 0, .int .i64 0, .int .i64 0] 36)).heap[P11]? = some (.cells #[.int .i64 7, .int .i64 0, .int .i64 0, .int .i64 0, .int .i64 0, .int .i64 0, .int .i64 0, .int .i64 0, .int .i64 0, .int .i64 0, .int .i64 0, .int .i64 0, .int .i64 0, .int .i64 0, .int .i64 0, .int .i64 id, .int .i64 1, .slice A6 l.length c6, .int .i64 0, .int .i64 0, .int .i64 0] 36 (0, 0))) := Lib.hid hnew
      clear hnew
      go_wp2_with (refine wpList_store_row rfl 36 (.tmp 11) (.tmp 64) rfl w6.heap.size _ rfl rfl 36 _ (heap_alloc_new w6 _) (by kernel_rfl) rfl (by simp [Value.oneCell']) ?_; rw [World.setRow_alloc_new])
      rw [← hP11]
      clear hP11
      generalize w6.alloc (.cells #[.int .i64 7, .int .i64 0, .int .i64 0, .int .i64 0, .int .i64 0, .int .i64 0, .int .i64 0, .int .i64 0, .int .i64 0, .int .i64 0, .int .i64 0, .int .i64 0, .int .i64 0, .int .i64 0, .int .i64 0, .int .i64 id, .int .i64 1, .slice A6 l.length c6, .int .i64 0, .int .i64 0, .int .i64 0] 36) = w7 at HB_7 HY_7 HS_7 HC_7 HR1_7 HP11_7 ⊢
      refine (send_no gc (askS id 0 0 true l) A4 c4 3 w7 HC_7.out (by unfold SendNo askS; simp) (by show (0 : Int) < 1099511627776; decide)).mono ?_
      rintro e w8 ⟨rfl, hb⟩
      have HB_8 : Hid (Below w.heap.size w w8) := Lib.hid (HB_7.out.trans (hb.mono HB_7.out.size))
      have HY_8 : Hid (BytesIn w8 w.heap.size A c l) := Lib.hid (HY_7.out.below hb HB_7.out.size)
      have HS_8 : Hid (SAt w8 (M + 1) ep M 0 (fun _ => ⟨0, 0, 0, 0⟩)) := Lib.hid (HS_7.out.below hb)
      have HC_8 : Hid (CAt w8 gc (askS id 0 0 true l) A4 c4) := Lib.hid (HC_7.out.below hb)
      have HR1_8 : Hid (w8.ownsRow Z1 5 1 (.slice A6 l.length c6) l.length (cells8 l)) := Lib.hid ((Chg.of_below (S := fun _ => False) hb).own HR1_7.out (fun _ _ h => h))
      have HP11_8 : Hid (w8.heap[P11]? = some (.cells #[.int .i64 7, .int .i64 0, .int .i64 0, .int .i64 0, .int .i64 0, .int .i64 0, .int .i64 0, .int .i64 0, .int .i64 0, .int .i64 0, .int .i64 0, .int .i64 0, .int .i64 0, .int .i64 0, .int .i64 0, .int .i64 id, .int .i64 1, .slice A6 l.length c6, .int .i64 0, .int .i64 0, .int .i64 0] 36 (0, 0))) := Lib.hid ((hb.block P11 (ltb HP11_7.out)).trans HP11_7.out)
      clear hb HB_7 HY_7 HS_7 HC_7 HR1_7 HP11_7
      obtain ⟨P13, hP13⟩ : ∃ x, x = w8.heap.size := ⟨_, rfl⟩
      have hqP13 : gc < P13 ∧ M + 1 < P13 := by have := HC_8.out.glt; have := HS_8.out.glt; omega
      obtain ⟨hqP13, hrP13⟩ := hqP13
      have hal : Below w8.heap.size w8 (w8.alloc (.cells #[.int .i64 0, .int .i64 0, .int .i64 0, .int .i64 0, .int .i64 0, .int .i64 0, .int .i64 0, .int .i64 0, .int .i64 0, .int .i64 0, .int .i64 0, .int .i64 0, .int .i64 0, .int .i64 0, .int .i64 0, .int .i64 0, .int .i64 0, .slice none 0 0, .int .i64 0, .int .i64 0, .int .i64 0] 36)) := (Below.refl _ _).alloc (Nat.le_refl _) _
      have hnew : (w8.alloc (.cells #[.int .i64 0, .int .i64 0, .int .i64 0, .int .i64 0, .int .i64 0, .int .i64 0, .int .i64 0, .int .i64 0, .int .i64 0, .int .i64 0, .int .i64 0, .int .i64 0, .int .i64 0, .int .i64 0, .int .i64 0, .int .i64 0, .int .i64 0, .slice none 0 0, .int .i64 0, .int .i64 0, .int .i64 0] 36)).heap[P13]? = some (.cells #[.int .i64 0, .int .i64 0, .int .i64 0, .int .i64 0, .int .i64 0, .int .i64 0, .int .i64 0, .int .i64 0, .int .i64 0, .int .i64 0, .int .i64 0, .int .i64 0, .int .i64 0, .int .i64 0, .int .i64 0, .int .i64 0, .int .i64 0, .slice none 0 0, .int .i64 0, .int .i64 0, .int .i64 0] 36 (0, 0)) := by rw [hP13]; exact heap_alloc_new _ _
      have HB_9 : Hid (Below w.heap.size w (w8.alloc (.cells #[.int .i64 0, .int .i64 0, .int .i64 0, .int .i64 0, .int .i64 0, .int .i64 0, .int .i64 0, .int .i64 0, .int .i64 0, .int .i64 0, .int .i64 0, .int .i64 0, .int .i64 0, .int .i64 0, .int .i64 0, .int .i64 0, .int .i64 0, .slice none 0 0, .int .i64 0, .int .i64 0, .int .i64 0] 36))) := Lib.hid (HB_8.out.trans (hal.mono HB_8.out.size))
      have HY_9 : Hid (BytesIn (w8.alloc (.cells #[.int .i64 0, .int .i64 0, .int .i64 0, .int .i64 0, .int .i64 0, .int .i64 0, .int .i64 0, .int .i64 0, .int .i64 0, .int .i64 0, .int .i64 0, .int .i64 0, .int .i64 0, .int .i64 0, .int .i64 0, .int .i64 0, .int .i64 0, .slice none 0 0, .int .i64 0, .int .i64 0, .int .i64 0] 36)) w.heap.size A c l) := Lib.hid (HY_8.out.below hal HB_8.out.size)
      have HS_9 : Hid (SAt (w8.alloc (.cells #[.int .i64 0, .int .i64 0, .int .i64 0, .int .i64 0, .int .i64 0, .int .i64 0, .int .i64 0, .int .i64 0, .int .i64 0, .int .i64 0, .int .i64 0, .int .i64 0, .int .i64 0, .int .i64 0, .int .i64 0, .int .i64 0, .int .i64 0, .slice none 0 0, .int .i64 0, .int .i64 0, .int .i64 0] 36)) (M + 1) ep M 0 (fun _ => ⟨0, 0, 0, 0⟩)) := Lib.hid (HS_8.out.below hal)
      have HC_9 : Hid (CAt (w8.alloc (.cells #[.int .i64 0, .int .i64 0, .int .i64 0, .int .i64 0, .int .i64 0, .int .i64 0, .int .i64 0, .int .i64 0, .int .i64 0, .int .i64 0, .int .i64 0, .int .i64 0, .int .i64 0, .int .i64 0, .int .i64 0, .int .i64 0, .int .i64 0, .slice none 0 0, .int .i64 0, .int .i64 0, .int .i64 0] 36)) gc (askS id 0 0 true l) A4 c4) := Lib.hid (HC_8.out.below hal)
      have HR1_9 : Hid ((w8.alloc (.cells #[.int .i64 0, .int .i64 0, .int .i64 0, .int .i64 0, .int .i64 0, .int .i64 0, .int .i64 0, .int .i64 0, .int .i64 0, .int .i64 0, .int .i64 0, .int .i64 0, .int .i64 0, .int .i64 0, .int .i64 0, .int .i64 0, .int .i64 0, .slice none 0 0, .int .i64 0, .int .i64 0, .int .i64 0] 36)).ownsRow Z1 5 1 (.slice A6 l.length c6) l.length (cells8 l)) := Lib.hid ((Chg.of_below (S := fun _ => False) hal).own HR1_8.out (fun _ _ h => h))
      have HP11_9 : Hid ((w8.alloc (.cells #[.int .i64 0, .int .i64 0, .int .i64 0, .int .i64 0, .int .i64 0, .int .i64 0, .int .i64 0, .int .i64 0, .int .i64 0, .int .i64 0, .int .i64 0, .int .i64 0, .int .i64 0, .int .i64 0, .int .i64 0, .int .i64 0, .int .i64 0, .slice none 0 0, .int .i64 0, .int .i64 0, .int .i64 0] 36)).heap[P11]? = some (.cells #[.int .i64 7, .int .i64 0, .int .i64 0, .int .i64 0, .int .i64 0, .int .i64 0, .int .i64 0, .int .i64 0, .int .i64 0, .int .i64 0, .int .i64 0, .int .i64 0, .int .i64 0, .int .i64 0, .int .i64 0, .int .i64 id, .int .i64 1, .slice A6 l.length c6, .int .i64 0, .int .i64 0, .int .i64 0] 36 (0, 0))) := Lib.hid ((hal.block P11 (ltb HP11_8.out)).trans HP11_8.out)
      clear hal HB_8 HY_8 HS_8 HC_8 HR1_8 HP11_8
      have HP13_9 : Hid ((w8.alloc (.cells #[.int .i64 0, .int .i64 0, .int .i64 0, .int .i64 0, .int .i64 0, .int .i64 0, .int .i64 0, .int .i64 0, .int .i64 0, .int .i64 0, .int .i64 0, .int .i64 0, .int .i64 0, .int .i64 0, .int .i64 0, .int .i64 0, .int .i64 0, .slice none 0 0, .int .i64 0, .int .i64 0, .int .i64 0] 36)).heap[P13]? = some (.cells #[.int .i64 0, .int .i64 0, .int .i64 0, .int .i64 0, .int .i64 0, .int .i64 0, .int .i64 0, .int .i64 0, .int .i64 0, .int .i64 0, .int .i64 0, .int .i64 0, .int .i64 0, .int .i64 0, .int .i64 0, .int .i64 0, .int .i64 0, .slice none 0 0, .int .i64 0, .int .i64 0, .int .i64 0] 36 (0, 0))) := Lib.hid hnew
      clear hnew
      go_wp2_with (refine wpList_store_row rfl 36 (.tmp 13) (.tmp 72) rfl w8.heap.size _ rfl rfl 36 _ (heap_alloc_new w8 _) (by kernel_rfl) rfl (by simp [Value.oneCell']) ?_; rw [World.setRow_alloc_new])
      rw [← hP13]
      clear hP13
      generalize w8.alloc (.cells #[.int .i64 0, .int .i64 0, .int .i64 0, .int .i64 0, .int .i64 0, .int .i64 0, .int .i64 0, .int .i64 0, .int .i64 0, .int .i64 0, .int .i64 0, .int .i64 0, .int .i64 0, .int .i64 0, .int .i64 0, .int .i64 0, .int .i64 0, .slice none 0 0, .int .i64 0, .int .i64 0, .int .i64 0] 36) = w9 at HB_9 HY_9 HS_9 HC_9 HR1_9 HP11_9 HP13_9 ⊢
      clear HP13_9
      refine (send_ok gc (askS id 0 0 true l) A4 c4 4 w9 HC_9.out (by unfold SendNo askS; simp) (by unfold askS; show l.length ≤ 5000; omega) (by show (0 : Int) < 1099511627776; decide)).mono ?_
      rintro e w10 ⟨A10, c10, rfl, hc, ho, hch⟩
      simp only [askS]
      have hc' : CAt w10 gc (askS id 0 4 true l) A4 c4 := hc
      have ho' : w10.ownsRow w9.heap.size 5 1 (.slice A10 l.length c10) l.length (cells8 l) := ho
      clear hc ho HC_9
      obtain ⟨Z2, hZ2⟩ : ∃ x, x = w9.heap.size := ⟨_, rfl⟩
      have hgn : gc < Z2 ∧ M + 1 < Z2 ∧ Z2 ≤ w10.heap.size := by have := HS_9.out.glt; have := hch.size; have := hM0; omega
      obtain ⟨hgZ2, hmZ2, hzZ2⟩ := hgn
      rw [← hZ2] at ho'
      clear hZ2
      have HB_10 : Hid (Below w.heap.size w w10) := Lib.hid (HB_9.out.trans (hch.below HB_9.out.size (fun k hk e => by omega)))
      have HY_10 : Hid (BytesIn w10 w.heap.size A c l) := Lib.hid (HY_9.out.chgB HB_9.out.size hch (fun k hk e => by omega))
      have HS_10 : Hid (SAt w10 (M + 1) ep M 0 (fun _ => ⟨0, 0, 0, 0⟩)) := Lib.hid (HS_9.out.chg hch (by omega) (by omega))
      have HR1_10 : Hid (w10.ownsRow Z1 5 1 (.slice A6 l.length c6) l.length (cells8 l)) := Lib.hid (hch.own HR1_9.out (fun k hk e => by have := (HR1_9.out.lt k hk).1; omega))
      have HP11_10 : Hid (w10.heap[P11]? = some (.cells #[.int .i64 7, .int .i64 0, .int .i64 0, .int .i64 0, .int .i64 0, .int .i64 0, .int .i64 0, .int .i64 0, .int .i64 0, .int .i64 0, .int .i64 0, .int .i64 0, .int .i64 0, .int .i64 0, .int .i64 0, .int .i64 id, .int .i64 1, .slice A6 l.length c6, .int .i64 0, .int .i64 0, .int .i64 0] 36 (0, 0))) := Lib.hid ((hch.block P11 (ltb HP11_9.out) (by omega)).trans HP11_9.out)
      clear hch HB_9 HY_9 HS_9 HR1_9 HP11_9
      have HC_10 : Hid (CAt w10 gc (askS id 0 4 true l) A4 c4) := Lib.hid hc'
      have HR2_10 := Lib.hid ho'
      clear hc' ho'
      obtain ⟨P15, hP15⟩ : ∃ x, x = w10.heap.size := ⟨_, rfl⟩
      have hqP15 : gc < P15 ∧ M + 1 < P15 := by have := HC_10.out.glt; have := HS_10.out.glt; omega
      obtain ⟨hqP15, hrP15⟩ := hqP15
      have hal : Below w10.heap.size w10 (w10.alloc (.cells #[.int .i64 7, .int .i64 0, .int .i64 0, .int .i64 0, .int .i64 0, .int .i64 0, .int .i64 0, .int .i64 0, .int .i64 0, .int .i64 0, .int .i64 0, .int .i64 0, .int .i64 0, .int .i64 0, .int .i64 0, .int .i64 id, .int .i64 1, .slice A10 l.length c10, .int .i64 0, .int .i64 0, .int .i64 0] 36)) := (Below.refl _ _).alloc (Nat.le_refl _) _
      have hnew : (w10.alloc (.cells #[.int .i64 7, .int .i64 0, .int .i64 0, .int .i64 0, .int .i64 0, .int .i64 0, .int .i64 0, .int .i64 0, .int .i64 0, .int .i64 0, .int .i64 0, .int .i64 0, .int .i64 0, .int .i64 0, .int .i64 0, .int .i64 id, .int .i64 1, .slice A10 l.length c10, .int .i64 0, .int .i64 0, .int .i64 0] 36)).heap[P15]? = some (.cells #[.int .i64 7, .int .i64 0, .int .i64 0, .int .i64 0, .int .i64 0, .int .i64 0, .int .i64 0, .int .i64 0, .int .i64 0, .int .i64 0, .int .i64 0, .int .i64 0, .int .i64 0, .int .i64 0, .int .i64 0, .int .i64 id, .int .i64 1, .slice A10 l.length c10, .int .i64 0, .int .i64 0, .int .i64 0] 36 (0, 0)) := by rw [hP15]; exact heap_alloc_new _ _
      have HB_11 : Hid (Below w.heap.size w (w10.alloc (.cells #[.int .i64 7, .int .i64 0, .int .i64 0, .int .i64 0, .int .i64 0, .int .i64 0, .int .i64 0, .int .i64 0, .int .i64 0, .int .i64 0, .int .i64 0, .int .i64 0, .int .i64 0, .int .i64 0, .int .i64 0, .int .i64 id, .int .i64 1, .slice A10 l.length c10, .int .i64 0, .int .i64 0, .int .i64 0] 36))) := Lib.hid (HB_10.out.trans (hal.mono HB_10.out.size))
      have HY_11 : Hid (BytesIn (w10.alloc (.cells #[.int .i64 7, .int .i64 0, .int .i64 0, .int .i64 0, .int .i64 0, .int .i64 0, .int .i64 0, .int .i64 0, .int .i64 0, .int .i64 0, .int .i64 0, .int .i64 0, .int .i64 0, .int .i64 0, .int .i64 0, .int .i64 id, .int .i64 1, .slice A10 l.length c10, .int .i64 0, .int .i64 0, .int .i64 0] 36)) w.heap.size A c l) := Lib.hid (HY_10.out.below hal HB_10.out.size)
      have HS_11 : Hid (SAt (w10.alloc (.cells #[.int .i64 7, .int .i64 0, .int .i64 0, .int .i64 0, .int .i64 0, .int .i64 0, .int .i64 0, .int .i64 0, .int .i64 0, .int .i64 0, .int .i64 0, .int .i64 0, .int .i64 0, .int .i64 0, .int .i64 0, .int .i64 id, .int .i64 1, .slice A10 l.length c10, .int .i64 0, .int .i64 0, .int .i64 0] 36)) (M + 1) ep M 0 (fun _ => ⟨0, 0, 0, 0⟩)) := Lib.hid (HS_10.out.below hal)
      have HR1_11 : Hid ((w10.alloc (.cells #[.int .i64 7, .int .i64 0, .int .i64 0, .int .i64 0, .int .i64 0, .int .i64 0, .int .i64 0, .int .i64 0, .int .i64 0, .int .i64 0, .int .i64 0, .int .i64 0, .int .i64 0, .int .i64 0, .int .i64 0, .int .i64 id, .int .i64 1, .slice A10 l.length c10, .int .i64 0, .int .i64 0, .int .i64 0] 36)).ownsRow Z1 5 1 (.slice A6 l.length c6) l.length (cells8 l)) := Lib.hid ((Chg.of_below (S := fun _ => False) hal).own HR1_10.out (fun _ _ h => h))
      have HP11_11 : Hid ((w10.alloc (.cells #[.int .i64 7, .int .i64 0, .int .i64 0, .int .i64 0, .int .i64 0, .int .i64 0, .int .i64 0, .int .i64 0, .int .i64 0, .int .i64 0, .int .i64 0, .int .i64 0, .int .i64 0, .int .i64 0, .int .i64 0, .int .i64 id, .int .i64 1, .slice A10 l.length c10, .int .i64 0, .int .i64 0, .int .i64 0] 36)).heap[P11]? = some (.cells #[.int .i64 7, .int .i64 0, .int .i64 0, .int .i64 0, .int .i64 0, .int .i64 0, .int .i64 0, .int .i64 0, .int .i64 0, .int .i64 0, .int .i64 0, .int .i64 0, .int .i64 0, .int .i64 0, .int .i64 0, .int .i64 id, .int .i64 1, .slice A6 l.length c6, .int .i64 0, .int .i64 0, .int .i64 0] 36 (0, 0))) := Lib.hid ((hal.block P11 (ltb HP11_10.out)).trans HP11_10.out)
      have HC_11 : Hid (CAt (w10.alloc (.cells #[.int .i64 7, .int .i64 0, .int .i64 0, .int .i64 0, .int .i64 0, .int .i64 0, .int .i64 0, .int .i64 0, .int .i64 0, .int .i64 0, .int .i64 0, .int .i64 0, .int .i64 0, .int .i64 0, .int .i64 0, .int .i64 id, .int .i64 1, .slice A10 l.length c10, .int .i64 0, .int .i64 0, .int .i64 0] 36)) gc (askS id 0 4 true l) A4 c4) := Lib.hid (HC_10.out.below hal)
      have HR2_11 : Hid ((w10.alloc (.cells #[.int .i64 7, .int .i64 0, .int .i64 0, .int .i64 0, .int .i64 0, .int .i64 0, .int .i64 0, .int .i64 0, .int .i64 0, .int .i64 0, .int .i64 0, .int .i64 0, .int .i64 0, .int .i64 0, .int .i64 0, .int .i64 id, .int .i64 1, .slice A10 l.length c10, .int .i64 0, .int .i64 0, .int .i64 0] 36)).ownsRow Z2 5 1 (.slice A10 l.length c10) l.length (cells8 l)) := Lib.hid ((Chg.of_below (S := fun _ => False) hal).own HR2_10.out (fun _ _ h => h))
      clear hal HB_10 HY_10 HS_10 HR1_10 HP11_10 HC_10 HR2_10
      have HP15_11 : Hid ((w10.alloc (.cells #[.int .i64 7, .int .i64 0, .int .i64 0, .int .i64 0, .int .i64 0, .int .i64 0, .int .i64 0, .int .i64 0, .int .i64 0, .int .i64 0, .int .i64 0, .int .i64 0, .int .i64 0, .int .i64 0, .int .i64 0, .int .i64 id, .int .i64 1, .slice A10 l.length c10, .int .i64 0, .int .i64 0, .int .i64 0] 36)).heap[P15]? = some (.cells #[.int .i64 7, .int .i64 0, .int .i64 0, .int .i64 0, .int .i64 0, .int .i64 0, .int .i64 0, .int .i64 0, .int .i64 0, .int .i64 0, .int .i64 0, .int .i64 0, .int .i64 0, .int .i64 0, .int .i64 0, .int .i64 id, .int .i64 1, .slice A10 l.length c10, .int .i64 0, .int .i64 0, .int .i64 0] 36 (0, 0))) := Lib.hid hnew
      clear hnew
      go_upto_region 15 with (refine wpList_store_row rfl 36 (.tmp 15) (.tmp 80) rfl w10.heap.size _ rfl rfl 36 _ (heap_alloc_new w10 _) (by kernel_rfl) rfl (by simp [Value.oneCell']) ?_; rw [World.setRow_alloc_new])
      rw [← hP15]
      clear hP15
      generalize w10.alloc (.cells #[.int .i64 7, .int .i64 0, .int .i64 0, .int .i64 0, .int .i64 0, .int .i64 0, .int .i64 0, .int .i64 0, .int .i64 0, .int .i64 0, .int .i64 0, .int .i64 0, .int .i64 0, .int .i64 0, .int .i64 0, .int .i64 id, .int .i64 1, .slice A10 l.length c10, .int .i64 0, .int .i64 0, .int .i64 0] 36) = w11 at HB_11 HY_11 HS_11 HR1_11 HP11_11 HC_11 HR2_11 HP15_11 ⊢
      go_wp2_with (first | (refine wpList_load_g rfl 36 (.tmp 15) rfl P15 rfl 36 _ (0, 0) _ HP15_11.out Try.underlying36 rfl (by kernel_rfl) ?_) | (refine wpList_load_g rfl 36 (.tmp 11) rfl P11 rfl 36 _ (0, 0) _ HP11_11.out Try.underlying36 rfl (by kernel_rfl) ?_))
      refine (same_eq (askV 0 id 1) A10 A6 l.length c10 c6 l w11 (bytesIn_of_own HR2_11.out).2 (bytesIn_of_own HR1_11.out).2 rfl).mono ?_
      rintro e w12 ⟨rfl, hb⟩
      have HB_12 : Hid (Below w.heap.size w w12) := Lib.hid (HB_11.out.trans (hb.mono HB_11.out.size))
      have HY_12 : Hid (BytesIn w12 w.heap.size A c l) := Lib.hid (HY_11.out.below hb HB_11.out.size)
      have HS_12 : Hid (SAt w12 (M + 1) ep M 0 (fun _ => ⟨0, 0, 0, 0⟩)) := Lib.hid (HS_11.out.below hb)
      have HR1_12 : Hid (w12.ownsRow Z1 5 1 (.slice A6 l.length c6) l.length (cells8 l)) := Lib.hid ((Chg.of_below (S := fun _ => False) hb).own HR1_11.out (fun _ _ h => h))
      have HP11_12 : Hid (w12.heap[P11]? = some (.cells #[.int .i64 7, .int .i64 0, .int .i64 0, .int .i64 0, .int .i64 0, .int .i64 0, .int .i64 0, .int .i64 0, .int .i64 0, .int .i64 0, .int .i64 0, .int .i64 0, .int .i64 0, .int .i64 0, .int .i64 0, .int .i64 id, .int .i64 1, .slice A6 l.length c6, .int .i64 0, .int .i64 0, .int .i64 0] 36 (0, 0))) := Lib.hid ((hb.block P11 (ltb HP11_11.out)).trans HP11_11.out)
      have HC_12 : Hid (CAt w12 gc (askS id 0 4 true l) A4 c4) := Lib.hid (HC_11.out.below hb)
      have HR2_12 : Hid (w12.ownsRow Z2 5 1 (.slice A10 l.length c10) l.length (cells8 l)) := Lib.hid ((Chg.of_below (S := fun _ => False) hb).own HR2_11.out (fun _ _ h => h))
      have HP15_12 : Hid (w12.heap[P15]? = some (.cells #[.int .i64 7, .int .i64 0, .int .i64 0, .int .i64 0, .int .i64 0, .int .i64 0, .int .i64 0, .int .i64 0, .int .i64 0, .int .i64 0, .int .i64 0, .int .i64 0, .int .i64 0, .int .i64 0, .int .i64 0, .int .i64 id, .int .i64 1, .slice A10 l.length c10, .int .i64 0, .int .i64 0, .int .i64 0] 36 (0, 0))) := Lib.hid ((hb.block P15 (ltb HP15_11.out)).trans HP15_11.out)
      clear hb HB_11 HY_11 HS_11 HR1_11 HP11_11 HC_11 HR2_11 HP15_11
      clear HR1_12 HP11_12
      have m17 : w12.cell? ⟨P15, 17, none⟩ = some (.slice A10 l.length c10) := cellb (i := 17) HP15_12.out rfl
      have z1 := zc (bytesIn_of_own HR2_12.out).2 rfl
      have z2 := zc HY_12.out rfl
      go_wp2_with (refine wpList_load_row rfl 36 (.tmp 15) rfl P15 rfl 36 _ (0, 0) _ HP15_12.out Try.underlying36 rfl (by kernel_rfl) ?_)
      clear m17 z1 z2
      refine (look_ok (M + 1) ep M 0 (fun _ => ⟨0, 0, 0, 0⟩) (askV 0 id 1) A10 l.length c10 0 0 0 0 w12 HS_12.out rfl (ok7 (by omega) (by omega) i1 i2 hl) (wfid i1 i2)).mono ?_
      rintro e w13 ⟨hp, hb⟩
      unfold LookPost at hp
      rw [if_neg (show ¬ askV 0 id 1 1 = ep from (by show ¬ (0 : Int) = ep; omega))] at hp
      obtain ⟨k, hk, rfl⟩ := hp
      obtain rfl : k = true := hk.2 (okR8 (by omega) e2 i1 i2 (by show (1 : Int) ≤ 1; decide) (by show (1 : Int) ≤ 1099511627776; decide) (by decide) (by decide) (by decide) (by decide))
      simp only [if_true, show askV 0 id 1 15 = id from rfl, show askV 0 id 1 16 = 1 from rfl]
      clear hk
      have HB_13 : Hid (Below w.heap.size w w13) := Lib.hid (HB_12.out.trans (hb.mono HB_12.out.size))
      have HY_13 : Hid (BytesIn w13 w.heap.size A c l) := Lib.hid (HY_12.out.below hb HB_12.out.size)
      have HS_13 : Hid (SAt w13 (M + 1) ep M 0 (fun _ => ⟨0, 0, 0, 0⟩)) := Lib.hid (HS_12.out.below hb)
      have HC_13 : Hid (CAt w13 gc (askS id 0 4 true l) A4 c4) := Lib.hid (HC_12.out.below hb)
      have HR2_13 : Hid (w13.ownsRow Z2 5 1 (.slice A10 l.length c10) l.length (cells8 l)) := Lib.hid ((Chg.of_below (S := fun _ => False) hb).own HR2_12.out (fun _ _ h => h))
      have HP15_13 : Hid (w13.heap[P15]? = some (.cells #[.int .i64 7, .int .i64 0, .int .i64 0, .int .i64 0, .int .i64 0, .int .i64 0, .int .i64 0, .int .i64 0, .int .i64 0, .int .i64 0, .int .i64 0, .int .i64 0, .int .i64 0, .int .i64 0, .int .i64 0, .int .i64 id, .int .i64 1, .slice A10 l.length c10, .int .i64 0, .int .i64 0, .int .i64 0] 36 (0, 0))) := Lib.hid ((hb.block P15 (ltb HP15_12.out)).trans HP15_12.out)
      clear hb HB_12 HY_12 HS_12 HC_12 HR2_12 HP15_12
      clear HR2_13
      clear HP15_13
      obtain ⟨P18, hP18⟩ : ∃ x, x = w13.heap.size := ⟨_, rfl⟩
      have hqP18 : gc < P18 ∧ M + 1 < P18 := by have := HC_13.out.glt; have := HS_13.out.glt; omega
      obtain ⟨hqP18, hrP18⟩ := hqP18
      have hal : Below w13.heap.size w13 (w13.alloc (.cells #[.int .i64 8, .int .i64 ep, .int .i64 0, .int .i64 0, .int .i64 0, .int .i64 0, .int .i64 0, .int .i64 0, .int .i64 0, .int .i64 0, .int .i64 0, .int .i64 0, .int .i64 0, .int .i64 0, .int .i64 0, .int .i64 id, .int .i64 1, .slice none 0 0, .int .i64 190, .int .i64 0, .int .i64 0] 36)) := (Below.refl _ _).alloc (Nat.le_refl _) _
      have hnew : (w13.alloc (.cells #[.int .i64 8, .int .i64 ep, .int .i64 0, .int .i64 0, .int .i64 0, .int .i64 0, .int .i64 0, .int .i64 0, .int .i64 0, .int .i64 0, .int .i64 0, .int .i64 0, .int .i64 0, .int .i64 0, .int .i64 0, .int .i64 id, .int .i64 1, .slice none 0 0, .int .i64 190, .int .i64 0, .int .i64 0] 36)).heap[P18]? = some (.cells #[.int .i64 8, .int .i64 ep, .int .i64 0, .int .i64 0, .int .i64 0, .int .i64 0, .int .i64 0, .int .i64 0, .int .i64 0, .int .i64 0, .int .i64 0, .int .i64 0, .int .i64 0, .int .i64 0, .int .i64 0, .int .i64 id, .int .i64 1, .slice none 0 0, .int .i64 190, .int .i64 0, .int .i64 0] 36 (0, 0)) := by rw [hP18]; exact heap_alloc_new _ _
      have HB_14 : Hid (Below w.heap.size w (w13.alloc (.cells #[.int .i64 8, .int .i64 ep, .int .i64 0, .int .i64 0, .int .i64 0, .int .i64 0, .int .i64 0, .int .i64 0, .int .i64 0, .int .i64 0, .int .i64 0, .int .i64 0, .int .i64 0, .int .i64 0, .int .i64 0, .int .i64 id, .int .i64 1, .slice none 0 0, .int .i64 190, .int .i64 0, .int .i64 0] 36))) := Lib.hid (HB_13.out.trans (hal.mono HB_13.out.size))
      have HY_14 : Hid (BytesIn (w13.alloc (.cells #[.int .i64 8, .int .i64 ep, .int .i64 0, .int .i64 0, .int .i64 0, .int .i64 0, .int .i64 0, .int .i64 0, .int .i64 0, .int .i64 0, .int .i64 0, .int .i64 0, .int .i64 0, .int .i64 0, .int .i64 0, .int .i64 id, .int .i64 1, .slice none 0 0, .int .i64 190, .int .i64 0, .int .i64 0] 36)) w.heap.size A c l) := Lib.hid (HY_13.out.below hal HB_13.out.size)
      have HS_14 : Hid (SAt (w13.alloc (.cells #[.int .i64 8, .int .i64 ep, .int .i64 0, .int .i64 0, .int .i64 0, .int .i64 0, .int .i64 0, .int .i64 0, .int .i64 0, .int .i64 0, .int .i64 0, .int .i64 0, .int .i64 0, .int .i64 0, .int .i64 0, .int .i64 id, .int .i64 1, .slice none 0 0, .int .i64 190, .int .i64 0, .int .i64 0] 36)) (M + 1) ep M 0 (fun _ => ⟨0, 0, 0, 0⟩)) := Lib.hid (HS_13.out.below hal)
      have HC_14 : Hid (CAt (w13.alloc (.cells #[.int .i64 8, .int .i64 ep, .int .i64 0, .int .i64 0, .int .i64 0, .int .i64 0, .int .i64 0, .int .i64 0, .int .i64 0, .int .i64 0, .int .i64 0, .int .i64 0, .int .i64 0, .int .i64 0, .int .i64 0, .int .i64 id, .int .i64 1, .slice none 0 0, .int .i64 190, .int .i64 0, .int .i64 0] 36)) gc (askS id 0 4 true l) A4 c4) := Lib.hid (HC_13.out.below hal)
      clear hal HB_13 HY_13 HS_13 HC_13
      have HP18_14 : Hid ((w13.alloc (.cells #[.int .i64 8, .int .i64 ep, .int .i64 0, .int .i64 0, .int .i64 0, .int .i64 0, .int .i64 0, .int .i64 0, .int .i64 0, .int .i64 0, .int .i64 0, .int .i64 0, .int .i64 0, .int .i64 0, .int .i64 0, .int .i64 id, .int .i64 1, .slice none 0 0, .int .i64 190, .int .i64 0, .int .i64 0] 36)).heap[P18]? = some (.cells #[.int .i64 8, .int .i64 ep, .int .i64 0, .int .i64 0, .int .i64 0, .int .i64 0, .int .i64 0, .int .i64 0, .int .i64 0, .int .i64 0, .int .i64 0, .int .i64 0, .int .i64 0, .int .i64 0, .int .i64 0, .int .i64 id, .int .i64 1, .slice none 0 0, .int .i64 190, .int .i64 0, .int .i64 0] 36 (0, 0))) := Lib.hid hnew
      clear hnew
      go_wp2_with (first | (refine wpList_store_row rfl 36 (.tmp 18) (.tmp 111) rfl w13.heap.size _ rfl rfl 36 _ (heap_alloc_new w13 _) (by kernel_rfl) rfl (by simp [Value.oneCell']) ?_; rw [World.setRow_alloc_new]) | (refine wpList_load_row rfl 36 (.tmp 18) rfl w13.heap.size rfl 36 _ (0, 0) _ (by rw [← hP18]; exact HP18_14.out) Try.underlying36 rfl (by kernel_rfl) ?_))
      rw [← hP18]
      clear hP18
      generalize w13.alloc (.cells #[.int .i64 8, .int .i64 ep, .int .i64 0, .int .i64 0, .int .i64 0, .int .i64 0, .int .i64 0, .int .i64 0, .int .i64 0, .int .i64 0, .int .i64 0, .int .i64 0, .int .i64 0, .int .i64 0, .int .i64 0, .int .i64 id, .int .i64 1, .slice none 0 0, .int .i64 190, .int .i64 0, .int .i64 0] 36) = w14 at HB_14 HY_14 HS_14 HC_14 HP18_14 ⊢
      refine (hear_asked gc (askS id 0 4 true l) A4 c4 (repV ep id 1 190 0 0) none 0 0 w14 HC_14.out ⟨rfl, rfl, rfl, rfl⟩).mono ?_
      rintro e w15 ⟨k, hk, rfl, hc, hch⟩
      obtain rfl : k = true := hk.2 (okR8 (by omega) e2 i1 i2 (by decide) (by decide) (by decide) (by decide) (by decide) (by decide))
      clear hk HC_14
      have HB_15 : Hid (Below w.heap.size w w15) := Lib.hid (HB_14.out.trans (hch.below HB_14.out.size (fun k hk e => by omega)))
      have HY_15 : Hid (BytesIn w15 w.heap.size A c l) := Lib.hid (HY_14.out.chgB HB_14.out.size hch (fun k hk e => by omega))
      have HS_15 : Hid (SAt w15 (M + 1) ep M 0 (fun _ => ⟨0, 0, 0, 0⟩)) := Lib.hid (HS_14.out.chg hch (by omega) (by omega))
      have HP18_15 : Hid (w15.heap[P18]? = some (.cells #[.int .i64 8, .int .i64 ep, .int .i64 0, .int .i64 0, .int .i64 0, .int .i64 0, .int .i64 0, .int .i64 0, .int .i64 0, .int .i64 0, .int .i64 0, .int .i64 0, .int .i64 0, .int .i64 0, .int .i64 0, .int .i64 id, .int .i64 1, .slice none 0 0, .int .i64 190, .int .i64 0, .int .i64 0] 36 (0, 0))) := Lib.hid ((hch.block P18 (ltb HP18_14.out) (by omega)).trans HP18_14.out)
      clear hch HB_14 HY_14 HS_14 HP18_14
      clear HP18_15
      have hd : hearD (askS id 0 4 true l) (repV ep id 1 190 0 0) true = askS id ep 4 false l := by unfold hearD; rw [if_pos rfl, if_pos (show repV ep id 1 190 0 0 18 = 190 from rfl), if_pos (show (askS id 0 4 true l).epoch < repV ep id 1 190 0 0 1 from (by show (0 : Int) < ep; omega))]; rfl
      rw [hd] at hc
      have HC_15 := Lib.hid hc
      clear hc hd
      rw [show hearK (askS id 0 4 true l) (repV ep id 1 190 0 0) true = false from rfl]
      simp only [Bool.false_eq_true, if_false]
      obtain ⟨P19, hP19⟩ : ∃ x, x = w15.heap.size := ⟨_, rfl⟩
      have hqP19 : gc < P19 ∧ M + 1 < P19 := by have := HC_15.out.glt; have := HS_15.out.glt; omega
      obtain ⟨hqP19, hrP19⟩ := hqP19
      have hal : Below w15.heap.size w15 (w15.alloc (.cells #[.int .i64 0, .int .i64 0, .int .i64 0] 34)) := (Below.refl _ _).alloc (Nat.le_refl _) _
      have hnew : (w15.alloc (.cells #[.int .i64 0, .int .i64 0, .int .i64 0] 34)).heap[P19]? = some (.cells #[.int .i64 0, .int .i64 0, .int .i64 0] 34 (0, 0)) := by rw [hP19]; exact heap_alloc_new _ _
      have HB_16 : Hid (Below w.heap.size w (w15.alloc (.cells #[.int .i64 0, .int .i64 0, .int .i64 0] 34))) := Lib.hid (HB_15.out.trans (hal.mono HB_15.out.size))
      have HY_16 : Hid (BytesIn (w15.alloc (.cells #[.int .i64 0, .int .i64 0, .int .i64 0] 34)) w.heap.size A c l) := Lib.hid (HY_15.out.below hal HB_15.out.size)
      have HS_16 : Hid (SAt (w15.alloc (.cells #[.int .i64 0, .int .i64 0, .int .i64 0] 34)) (M + 1) ep M 0 (fun _ => ⟨0, 0, 0, 0⟩)) := Lib.hid (HS_15.out.below hal)
      have HC_16 : Hid (CAt (w15.alloc (.cells #[.int .i64 0, .int .i64 0, .int .i64 0] 34)) gc (askS id ep 4 false l) A4 c4) := Lib.hid (HC_15.out.below hal)
      clear hal HB_15 HY_15 HS_15 HC_15
      have HP19_16 : Hid ((w15.alloc (.cells #[.int .i64 0, .int .i64 0, .int .i64 0] 34)).heap[P19]? = some (.cells #[.int .i64 0, .int .i64 0, .int .i64 0] 34 (0, 0))) := Lib.hid hnew
      clear hnew
      go_wp2_with fail
      rw [← hP19]
      clear hP19
      generalize w15.alloc (.cells #[.int .i64 0, .int .i64 0, .int .i64 0] 34) = w16 at HB_16 HY_16 HS_16 HC_16 HP19_16 ⊢
      go_roundg 0
      case measure => decide
      case rel => exact ⟨ep, 4, A4, c4, .inr ⟨rfl, rfl, rfl, rfl⟩, HC_16, HS_16, HY_16, HB_16⟩
    · skip
      have hM0 : gc < M := hgM
      go_wp2_with fail
      refine (send_ok gc (askS id ep 4 false l) A4 c4 10 w5 HC_5.out (by unfold SendNo askS; simp) (by unfold askS; show l.length ≤ 5000; omega) (by show (4 : Int) < 1099511627776; decide)).mono ?_
      rintro e w6 ⟨A6, c6, rfl, hc, ho, hch⟩
      simp only [askS]
      have hc' : CAt w6 gc (askS id ep 10 true l) A4 c4 := hc
      have ho' : w6.ownsRow w5.heap.size 5 1 (.slice A6 l.length c6) l.length (cells8 l) := ho
      clear hc ho HC_5
      obtain ⟨Z1, hZ1⟩ : ∃ x, x = w5.heap.size := ⟨_, rfl⟩
      have hgn : gc < Z1 ∧ M + 1 < Z1 ∧ Z1 ≤ w6.heap.size := by have := HS_5.out.glt; have := hch.size; have := hM0; omega
      obtain ⟨hgZ1, hmZ1, hzZ1⟩ := hgn
      rw [← hZ1] at ho'
      clear hZ1
      have HB_6 : Hid (Below w.heap.size w w6) := Lib.hid (HB_5.out.trans (hch.below HB_5.out.size (fun k hk e => by omega)))
      have HY_6 : Hid (BytesIn w6 w.heap.size A c l) := Lib.hid (HY_5.out.chgB HB_5.out.size hch (fun k hk e => by omega))
      have HS_6 : Hid (SAt w6 (M + 1) ep M 0 (fun _ => ⟨0, 0, 0, 0⟩)) := Lib.hid (HS_5.out.chg hch (by omega) (by omega))
      clear hch HB_5 HY_5 HS_5
      have HC_6 : Hid (CAt w6 gc (askS id ep 10 true l) A4 c4) := Lib.hid hc'
      have HR1_6 := Lib.hid ho'
      clear hc' ho'
      obtain ⟨P11, hP11⟩ : ∃ x, x = w6.heap.size := ⟨_, rfl⟩
      have hqP11 : gc < P11 ∧ M + 1 < P11 := by have := HC_6.out.glt; have := HS_6.out.glt; omega
      obtain ⟨hqP11, hrP11⟩ := hqP11
      have hal : Below w6.heap.size w6 (w6.alloc (.cells #[.int .i64 7, .int .i64 ep, .int .i64 0, .int .i64 0, .int .i64 0, .int .i64 0, .int .i64 0, .int .i64 0, .int .i64 0, .int .i64 0, .int .i64 0, .int .i64 0, .int .i64 0, .int .i64 0, .int .i64 0, .int .i64 id, .int .i64 1, .slice A6 l.length c6, .int .i64 0, .int .i64 0, .int .i64 0] 36)) := (Below.refl _ _).alloc (Nat.le_refl _) _
      have hnew : (w6.alloc (.cells #[.int .i64 7, .int .i64 ep, .int .i64 0, .int .i64 0, .int .i64 0, .int .i64 0, .int .i64 0, .int .i64 0, .int .i64 0, .int .i64 0, .int .i64 0, .int .i64 0, .int .i64 0, .int .i64 0, .int .i64 0, .int .i64 id, .int .i64 1, .slice A6 l.length c6, .int .i64 0, .int .i64 0, .int .i64 0] 36)).heap[P11]? = some (.cells #[.int .i64 7, .int .i64 ep, .int .i64 0, .int .i64 0, .int .i64 0, .int .i64 0, .int .i64 0, .int .i64 0, .int .i64 0, .int .i64 0, .int .i64 0, .int .i64 0, .int .i64 0, .int .i64 0, .int .i64 0, .int .i64 id, .int .i64 1, .slice A6 l.length c6, .int .i64 0, .int .i64 0, .int .i64 0] 36 (0, 0)) := by rw [hP11]; exact heap_alloc_new _ _
      have HB_7 : Hid (Below w.heap.size w (w6.alloc (.cells #[.int .i64 7, .int .i64 ep, .int .i64 0, .int .i64 0, .int .i64 0, .int .i64 0, .int .i64 0, .int .i64 0, .int .i64 0, .int .i64 0, .int .i64 0, .int .i64 0, .int .i64 0, .int .i64 0, .int .i64 0, .int .i64 id, .int .i64 1, .slice A6 l.length c6, .int .i64 0, .int .i64 0, .int .i64 0] 36))) := Lib.hid (HB_6.out.trans (hal.mono HB_6.out.size))
      have HY_7 : Hid (BytesIn (w6.alloc (.cells #[.int .i64 7, .int .i64 ep, .int .i64 0, .int .i64 0, .int .i64 0, .int .i64 0, .int .i64 0, .int .i64 0, .int .i64 0, .int .i64 0, .int .i64 0, .int .i64 0, .int .i64 0, .int .i64 0, .int .i64 0, .int .i64 id, .int .i64 1, .slice A6 l.length c6, .int .i64 0, .int .i64 0, .int .i64 0] 36)) w.heap.size A c l) := Lib.hid (HY_6.out.below hal HB_6.out.size)
      have HS_7 : Hid (SAt (w6.alloc (.cells #[.int .i64 7, .int .i64 ep, .int .i64 0, .int .i64 0, .int .i64 0, .int .i64 0, .int .i64 0, .int .i64 0, .int .i64 0, .int .i64 0, .int .i64 0, .int .i64 0, .int .i64 0, .int .i64 0, .int .i64 0, .int .i64 id, .int .i64 1, .slice A6 l.length c6, .int .i64 0, .int .i64 0, .int .i64 0] 36)) (M + 1) ep M 0 (fun _ => ⟨0, 0, 0, 0⟩)) := Lib.hid (HS_6.out.below hal)
      have HC_7 : Hid (CAt (w6.alloc (.cells #[.int .i64 7, .int .i64 ep, .int .i64 0, .int .i64 0, .int .i64 0, .int .i64 0, .int .i64 0, .int .i64 0, .int .i64 0, .int .i64 0, .int .i64 0, .int .i64 0, .int .i64 0, .int .i64 0, .int .i64 0, .int .i64 id, .int .i64 1, .slice A6 l.length c6, .int .i64 0, .int .i64 0, .int .i64 0] 36)) gc (askS id ep 10 true l) A4 c4) := Lib.hid (HC_6.out.below hal)
      have HR1_7 : Hid ((w6.alloc (.cells #[.int .i64 7, .int .i64 ep, .int .i64 0, .int .i64 0, .int .i64 0, .int .i64 0, .int .i64 0, .int .i64 0, .int .i64 0, .int .i64 0, .int .i64 0, .int .i64 0, .int .i64 0, .int .i64 0, .int .i64 0, .int .i64 id, .int .i64 1, .slice A6 l.length c6, .int .i64 0, .int .i64 0, .int .i64 0] 36)).ownsRow Z1 5 1 (.slice A6 l.length c6) l.length (cells8 l)) := Lib.hid ((Chg.of_below (S := fun _ => False) hal).own HR1_6.out (fun _ _ h => h))
      clear hal HB_6 HY_6 HS_6 HC_6 HR1_6
      have HP11_7 : Hid ((w6.alloc (.cells #[.int .i64 7, .int .i64 ep, .int .i64 0, .int .i64 0, .int .i64 0, .int .i64 0, .int .i64 0, .int .i64 0, .int .i64 0, .int .i64 0, .int .i64 0, .int .i64 0, .int .i64 0, .int .i64 0, .int .i64 0, .int .i64 id, .int .i64 1, .slice A6 l.length c6, .int .i64 0, .int .i64 0, .int .i64 0] 36)).heap[P11]? = some (.cells #[.int .i64 7, .int .i64 ep, .int .i64 0, .int .i64 0, .int .i64 0, .int .i64 0, .int .i64 0, .int .i64 0, .int .i64 0, .int .i64 0, .int .i64 0, .int .i64 0, .int .i64 0, .int .i64 0, .int .i64 0, .int .i64 id, .int .i64 1, .slice A6 l.length c6, .int .i64 0, .int .i64 0, .int .i64 0] 36 (0, 0))) := Lib.hid hnew
      clear hnew
      go_wp2_with (refine wpList_store_row rfl 36 (.tmp 11) (.tmp 64) rfl w6.heap.size _ rfl rfl 36 _ (heap_alloc_new w6 _) (by kernel_rfl) rfl (by simp [Value.oneCell']) ?_; rw [World.setRow_alloc_new])
      rw [← hP11]
      clear hP11
      generalize w6.alloc (.cells #[.int .i64 7, .int .i64 ep, .int .i64 0, .int .i64 0, .int .i64 0, .int .i64 0, .int .i64 0, .int .i64 0, .int .i64 0, .int .i64 0, .int .i64 0, .int .i64 0, .int .i64 0, .int .i64 0, .int .i64 0, .int .i64 id, .int .i64 1, .slice A6 l.length c6, .int .i64 0, .int .i64 0, .int .i64 0] 36) = w7 at HB_7 HY_7 HS_7 HC_7 HR1_7 HP11_7 ⊢
      refine (send_no gc (askS id ep 10 true l) A4 c4 13 w7 HC_7.out (by unfold SendNo askS; simp) (by show (10 : Int) < 1099511627776; decide)).mono ?_
      rintro e w8 ⟨rfl, hb⟩
      have HB_8 : Hid (Below w.heap.size w w8) := Lib.hid (HB_7.out.trans (hb.mono HB_7.out.size))
      have HY_8 : Hid (BytesIn w8 w.heap.size A c l) := Lib.hid (HY_7.out.below hb HB_7.out.size)
      have HS_8 : Hid (SAt w8 (M + 1) ep M 0 (fun _ => ⟨0, 0, 0, 0⟩)) := Lib.hid (HS_7.out.below hb)
      have HC_8 : Hid (CAt w8 gc (askS id ep 10 true l) A4 c4) := Lib.hid (HC_7.out.below hb)
      have HR1_8 : Hid (w8.ownsRow Z1 5 1 (.slice A6 l.length c6) l.length (cells8 l)) := Lib.hid ((Chg.of_below (S := fun _ => False) hb).own HR1_7.out (fun _ _ h => h))
      have HP11_8 : Hid (w8.heap[P11]? = some (.cells #[.int .i64 7, .int .i64 ep, .int .i64 0, .int .i64 0, .int .i64 0, .int .i64 0, .int .i64 0, .int .i64 0, .int .i64 0, .int .i64 0, .int .i64 0, .int .i64 0, .int .i64 0, .int .i64 0, .int .i64 0, .int .i64 id, .int .i64 1, .slice A6 l.length c6, .int .i64 0, .int .i64 0, .int .i64 0] 36 (0, 0))) := Lib.hid ((hb.block P11 (ltb HP11_7.out)).trans HP11_7.out)
      clear hb HB_7 HY_7 HS_7 HC_7 HR1_7 HP11_7
      obtain ⟨P13, hP13⟩ : ∃ x, x = w8.heap.size := ⟨_, rfl⟩
      have hqP13 : gc < P13 ∧ M + 1 < P13 := by have := HC_8.out.glt; have := HS_8.out.glt; omega
      obtain ⟨hqP13, hrP13⟩ := hqP13
      have hal : Below w8.heap.size w8 (w8.alloc (.cells #[.int .i64 0, .int .i64 0, .int .i64 0, .int .i64 0, .int .i64 0, .int .i64 0, .int .i64 0, .int .i64 0, .int .i64 0, .int .i64 0, .int .i64 0, .int .i64 0, .int .i64 0, .int .i64 0, .int .i64 0, .int .i64 0, .int .i64 0, .slice none 0 0, .int .i64 0, .int .i64 0, .int .i64 0] 36)) := (Below.refl _ _).alloc (Nat.le_refl _) _
      have hnew : (w8.alloc (.cells #[.int .i64 0, .int .i64 0, .int .i64 0, .int .i64 0, .int .i64 0, .int .i64 0, .int .i64 0, .int .i64 0, .int .i64 0, .int .i64 0, .int .i64 0, .int .i64 0, .int .i64 0, .int .i64 0, .int .i64 0, .int .i64 0, .int .i64 0, .slice none 0 0, .int .i64 0, .int .i64 0, .int .i64 0] 36)).heap[P13]? = some (.cells #[.int .i64 0, .int .i64 0, .int .i64 0, .int .i64 0, .int .i64 0, .int .i64 0, .int .i64 0, .int .i64 0, .int .i64 0, .int .i64 0, .int .i64 0, .int .i64 0, .int .i64 0, .int .i64 0, .int .i64 0, .int .i64 0, .int .i64 0, .slice none 0 0, .int .i64 0, .int .i64 0, .int .i64 0] 36 (0, 0)) := by rw [hP13]; exact heap_alloc_new _ _
      have HB_9 : Hid (Below w.heap.size w (w8.alloc (.cells #[.int .i64 0, .int .i64 0, .int .i64 0, .int .i64 0, .int .i64 0, .int .i64 0, .int .i64 0, .int .i64 0, .int .i64 0, .int .i64 0, .int .i64 0, .int .i64 0, .int .i64 0, .int .i64 0, .int .i64 0, .int .i64 0, .int .i64 0, .slice none 0 0, .int .i64 0, .int .i64 0, .int .i64 0] 36))) := Lib.hid (HB_8.out.trans (hal.mono HB_8.out.size))
      have HY_9 : Hid (BytesIn (w8.alloc (.cells #[.int .i64 0, .int .i64 0, .int .i64 0, .int .i64 0, .int .i64 0, .int .i64 0, .int .i64 0, .int .i64 0, .int .i64 0, .int .i64 0, .int .i64 0, .int .i64 0, .int .i64 0, .int .i64 0, .int .i64 0, .int .i64 0, .int .i64 0, .slice none 0 0, .int .i64 0, .int .i64 0, .int .i64 0] 36)) w.heap.size A c l) := Lib.hid (HY_8.out.below hal HB_8.out.size)
      have HS_9 : Hid (SAt (w8.alloc (.cells #[.int .i64 0, .int .i64 0, .int .i64 0, .int .i64 0, .int .i64 0, .int .i64 0, .int .i64 0, .int .i64 0, .int .i64 0, .int .i64 0, .int .i64 0, .int .i64 0, .int .i64 0, .int .i64 0, .int .i64 0, .int .i64 0, .int .i64 0, .slice none 0 0, .int .i64 0, .int .i64 0, .int .i64 0] 36)) (M + 1) ep M 0 (fun _ => ⟨0, 0, 0, 0⟩)) := Lib.hid (HS_8.out.below hal)
      have HC_9 : Hid (CAt (w8.alloc (.cells #[.int .i64 0, .int .i64 0, .int .i64 0, .int .i64 0, .int .i64 0, .int .i64 0, .int .i64 0, .int .i64 0, .int .i64 0, .int .i64 0, .int .i64 0, .int .i64 0, .int .i64 0, .int .i64 0, .int .i64 0, .int .i64 0, .int .i64 0, .slice none 0 0, .int .i64 0, .int .i64 0, .int .i64 0] 36)) gc (askS id ep 10 true l) A4 c4) := Lib.hid (HC_8.out.below hal)
      have HR1_9 : Hid ((w8.alloc (.cells #[.int .i64 0, .int .i64 0, .int .i64 0, .int .i64 0, .int .i64 0, .int .i64 0, .int .i64 0, .int .i64 0, .int .i64 0, .int .i64 0, .int .i64 0, .int .i64 0, .int .i64 0, .int .i64 0, .int .i64 0, .int .i64 0, .int .i64 0, .slice none 0 0, .int .i64 0, .int .i64 0, .int .i64 0] 36)).ownsRow Z1 5 1 (.slice A6 l.length c6) l.length (cells8 l)) := Lib.hid ((Chg.of_below (S := fun _ => False) hal).own HR1_8.out (fun _ _ h => h))
      have HP11_9 : Hid ((w8.alloc (.cells #[.int .i64 0, .int .i64 0, .int .i64 0, .int .i64 0, .int .i64 0, .int .i64 0, .int .i64 0, .int .i64 0, .int .i64 0, .int .i64 0, .int .i64 0, .int .i64 0, .int .i64 0, .int .i64 0, .int .i64 0, .int .i64 0, .int .i64 0, .slice none 0 0, .int .i64 0, .int .i64 0, .int .i64 0] 36)).heap[P11]? = some (.cells #[.int .i64 7, .int .i64 ep, .int .i64 0, .int .i64 0, .int .i64 0, .int .i64 0, .int .i64 0, .int .i64 0, .int .i64 0, .int .i64 0, .int .i64 0, .int .i64 0, .int .i64 0, .int .i64 0, .int .i64 0, .int .i64 id, .int .i64 1, .slice A6 l.length c6, .int .i64 0, .int .i64 0, .int .i64 0] 36 (0, 0))) := Lib.hid ((hal.block P11 (ltb HP11_8.out)).trans HP11_8.out)
      clear hal HB_8 HY_8 HS_8 HC_8 HR1_8 HP11_8
      have HP13_9 : Hid ((w8.alloc (.cells #[.int .i64 0, .int .i64 0, .int .i64 0, .int .i64 0, .int .i64 0, .int .i64 0, .int .i64 0, .int .i64 0, .int .i64 0, .int .i64 0, .int .i64 0, .int .i64 0, .int .i64 0, .int .i64 0, .int .i64 0, .int .i64 0, .int .i64 0, .slice none 0 0, .int .i64 0, .int .i64 0, .int .i64 0] 36)).heap[P13]? = some (.cells #[.int .i64 0, .int .i64 0, .int .i64 0, .int .i64 0, .int .i64 0, .int .i64 0, .int .i64 0, .int .i64 0, .int .i64 0, .int .i64 0, .int .i64 0, .int .i64 0, .int .i64 0, .int .i64 0, .int .i64 0, .int .i64 0, .int .i64 0, .slice none 0 0, .int .i64 0, .int .i64 0, .int .i64 0] 36 (0, 0))) := Lib.hid hnew
      clear hnew
      go_wp2_with (refine wpList_store_row rfl 36 (.tmp 13) (.tmp 72) rfl w8.heap.size _ rfl rfl 36 _ (heap_alloc_new w8 _) (by kernel_rfl) rfl (by simp [Value.oneCell']) ?_; rw [World.setRow_alloc_new])
      rw [← hP13]
      clear hP13
      generalize w8.alloc (.cells #[.int .i64 0, .int .i64 0, .int .i64 0, .int .i64 0, .int .i64 0, .int .i64 0, .int .i64 0, .int .i64 0, .int .i64 0, .int .i64 0, .int .i64 0, .int .i64 0, .int .i64 0, .int .i64 0, .int .i64 0, .int .i64 0, .int .i64 0, .slice none 0 0, .int .i64 0, .int .i64 0, .int .i64 0] 36) = w9 at HB_9 HY_9 HS_9 HC_9 HR1_9 HP11_9 HP13_9 ⊢
      clear HP13_9
      refine (send_ok gc (askS id ep 10 true l) A4 c4 14 w9 HC_9.out (by unfold SendNo askS; simp) (by unfold askS; show l.length ≤ 5000; omega) (by show (10 : Int) < 1099511627776; decide)).mono ?_
      rintro e w10 ⟨A10, c10, rfl, hc, ho, hch⟩
      simp only [askS]
      have hc' : CAt w10 gc (askS id ep 14 true l) A4 c4 := hc
      have ho' : w10.ownsRow w9.heap.size 5 1 (.slice A10 l.length c10) l.length (cells8 l) := ho
      clear hc ho HC_9
      obtain ⟨Z2, hZ2⟩ : ∃ x, x = w9.heap.size := ⟨_, rfl⟩
      have hgn : gc < Z2 ∧ M + 1 < Z2 ∧ Z2 ≤ w10.heap.size := by have := HS_9.out.glt; have := hch.size; have := hM0; omega
      obtain ⟨hgZ2, hmZ2, hzZ2⟩ := hgn
      rw [← hZ2] at ho'
      clear hZ2
      have HB_10 : Hid (Below w.heap.size w w10) := Lib.hid (HB_9.out.trans (hch.below HB_9.out.size (fun k hk e => by omega)))
      have HY_10 : Hid (BytesIn w10 w.heap.size A c l) := Lib.hid (HY_9.out.chgB HB_9.out.size hch (fun k hk e => by omega))
      have HS_10 : Hid (SAt w10 (M + 1) ep M 0 (fun _ => ⟨0, 0, 0, 0⟩)) := Lib.hid (HS_9.out.chg hch (by omega) (by omega))
      have HR1_10 : Hid (w10.ownsRow Z1 5 1 (.slice A6 l.length c6) l.length (cells8 l)) := Lib.hid (hch.own HR1_9.out (fun k hk e => by have := (HR1_9.out.lt k hk).1; omega))
      have HP11_10 : Hid (w10.heap[P11]? = some (.cells #[.int .i64 7, .int .i64 ep, .int .i64 0, .int .i64 0, .int .i64 0, .int .i64 0, .int .i64 0, .int .i64 0, .int .i64 0, .int .i64 0, .int .i64 0, .int .i64 0, .int .i64 0, .int .i64 0, .int .i64 0, .int .i64 id, .int .i64 1, .slice A6 l.length c6, .int .i64 0, .int .i64 0, .int .i64 0] 36 (0, 0))) := Lib.hid ((hch.block P11 (ltb HP11_9.out) (by omega)).trans HP11_9.out)
      clear hch HB_9 HY_9 HS_9 HR1_9 HP11_9
      have HC_10 : Hid (CAt w10 gc (askS id ep 14 true l) A4 c4) := Lib.hid hc'
      have HR2_10 := Lib.hid ho'
      clear hc' ho'
      obtain ⟨P15, hP15⟩ : ∃ x, x = w10.heap.size := ⟨_, rfl⟩
      have hqP15 : gc < P15 ∧ M + 1 < P15 := by have := HC_10.out.glt; have := HS_10.out.glt; omega
      obtain ⟨hqP15, hrP15⟩ := hqP15
      have hal : Below w10.heap.size w10 (w10.alloc (.cells #[.int .i64 7, .int .i64 ep, .int .i64 0, .int .i64 0, .int .i64 0, .int .i64 0, .int .i64 0, .int .i64 0, .int .i64 0, .int .i64 0, .int .i64 0, .int .i64 0, .int .i64 0, .int .i64 0, .int .i64 0, .int .i64 id, .int .i64 1, .slice A10 l.length c10, .int .i64 0, .int .i64 0, .int .i64 0] 36)) := (Below.refl _ _).alloc (Nat.le_refl _) _
      have hnew : (w10.alloc (.cells #[.int .i64 7, .int .i64 ep, .int .i64 0, .int .i64 0, .int .i64 0, .int .i64 0, .int .i64 0, .int .i64 0, .int .i64 0, .int .i64 0, .int .i64 0, .int .i64 0, .int .i64 0, .int .i64 0, .int .i64 0, .int .i64 id, .int .i64 1, .slice A10 l.length c10, .int .i64 0, .int .i64 0, .int .i64 0] 36)).heap[P15]? = some (.cells #[.int .i64 7, .int .i64 ep, .int .i64 0, .int .i64 0, .int .i64 0, .int .i64 0, .int .i64 0, .int .i64 0, .int .i64 0, .int .i64 0, .int .i64 0, .int .i64 0, .int .i64 0, .int .i64 0, .int .i64 0, .int .i64 id, .int .i64 1, .slice A10 l.length c10, .int .i64 0, .int .i64 0, .int .i64 0] 36 (0, 0)) := by rw [hP15]; exact heap_alloc_new _ _
      have HB_11 : Hid (Below w.heap.size w (w10.alloc (.cells #[.int .i64 7, .int .i64 ep, .int .i64 0, .int .i64 0, .int .i64 0, .int .i64 0, .int .i64 0, .int .i64 0, .int .i64 0, .int .i64 0, .int .i64 0, .int .i64 0, .int .i64 0, .int .i64 0, .int .i64 0, .int .i64 id, .int .i64 1, .slice A10 l.length c10, .int .i64 0, .int .i64 0, .int .i64 0] 36))) := Lib.hid (HB_10.out.trans (hal.mono HB_10.out.size))
      have HY_11 : Hid (BytesIn (w10.alloc (.cells #[.int .i64 7, .int .i64 ep, .int .i64 0, .int .i64 0, .int .i64 0, .int .i64 0, .int .i64 0, .int .i64 0, .int .i64 0, .int .i64 0, .int .i64 0, .int .i64 0, .int .i64 0, .int .i64 0, .int .i64 0, .int .i64 id, .int .i64 1, .slice A10 l.length c10, .int .i64 0, .int .i64 0, .int .i64 0] 36)) w.heap.size A c l) := Lib.hid (HY_10.out.below hal HB_10.out.size)
      have HS_11 : Hid (SAt (w10.alloc (.cells #[.int .i64 7, .int .i64 ep, .int .i64 0, .int .i64 0, .int .i64 0, .int .i64 0, .int .i64 0, .int .i64 0, .int .i64 0, .int .i64 0, .int .i64 0, .int .i64 0, .int .i64 0, .int .i64 0, .int .i64 0, .int .i64 id, .int .i64 1, .slice A10 l.length c10, .int .i64 0, .int .i64 0, .int .i64 0] 36)) (M + 1) ep M 0 (fun _ => ⟨0, 0, 0, 0⟩)) := Lib.hid (HS_10.out.below hal)
      have HR1_11 : Hid ((w10.alloc (.cells #[.int .i64 7, .int .i64 ep, .int .i64 0, .int .i64 0, .int .i64 0, .int .i64 0, .int .i64 0, .int .i64 0, .int .i64 0, .int .i64 0, .int .i64 0, .int .i64 0, .int .i64 0, .int .i64 0, .int .i64 0, .int .i64 id, .int .i64 1, .slice A10 l.length c10, .int .i64 0, .int .i64 0, .int .i64 0] 36)).ownsRow Z1 5 1 (.slice A6 l.length c6) l.length (cells8 l)) := Lib.hid ((Chg.of_below (S := fun _ => False) hal).own HR1_10.out (fun _ _ h => h))
      have HP11_11 : Hid ((w10.alloc (.cells #[.int .i64 7, .int .i64 ep, .int .i64 0, .int .i64 0, .int .i64 0, .int .i64 0, .int .i64 0, .int .i64 0, .int .i64 0, .int .i64 0, .int .i64 0, .int .i64 0, .int .i64 0, .int .i64 0, .int .i64 0, .int .i64 id, .int .i64 1, .slice A10 l.length c10, .int .i64 0, .int .i64 0, .int .i64 0] 36)).heap[P11]? = some (.cells #[.int .i64 7, .int .i64 ep, .int .i64 0, .int .i64 0, .int .i64 0, .int .i64 0, .int .i64 0, .int .i64 0, .int .i64 0, .int .i64 0, .int .i64 0, .int .i64 0, .int .i64 0, .int .i64 0, .int .i64 0, .int .i64 id, .int .i64 1, .slice A6 l.length c6, .int .i64 0, .int .i64 0, .int .i64 0] 36 (0, 0))) := Lib.hid ((hal.block P11 (ltb HP11_10.out)).trans HP11_10.out)
      have HC_11 : Hid (CAt (w10.alloc (.cells #[.int .i64 7, .int .i64 ep, .int .i64 0, .int .i64 0, .int .i64 0, .int .i64 0, .int .i64 0, .int .i64 0, .int .i64 0, .int .i64 0, .int .i64 0, .int .i64 0, .int .i64 0, .int .i64 0, .int .i64 0, .int .i64 id, .int .i64 1, .slice A10 l.length c10, .int .i64 0, .int .i64 0, .int .i64 0] 36)) gc (askS id ep 14 true l) A4 c4) := Lib.hid (HC_10.out.below hal)
      have HR2_11 : Hid ((w10.alloc (.cells #[.int .i64 7, .int .i64 ep, .int .i64 0, .int .i64 0, .int .i64 0, .int .i64 0, .int .i64 0, .int .i64 0, .int .i64 0, .int .i64 0, .int .i64 0, .int .i64 0, .int .i64 0, .int .i64 0, .int .i64 0, .int .i64 id, .int .i64 1, .slice A10 l.length c10, .int .i64 0, .int .i64 0, .int .i64 0] 36)).ownsRow Z2 5 1 (.slice A10 l.length c10) l.length (cells8 l)) := Lib.hid ((Chg.of_below (S := fun _ => False) hal).own HR2_10.out (fun _ _ h => h))
      clear hal HB_10 HY_10 HS_10 HR1_10 HP11_10 HC_10 HR2_10
      have HP15_11 : Hid ((w10.alloc (.cells #[.int .i64 7, .int .i64 ep, .int .i64 0, .int .i64 0, .int .i64 0, .int .i64 0, .int .i64 0, .int .i64 0, .int .i64 0, .int .i64 0, .int .i64 0, .int .i64 0, .int .i64 0, .int .i64 0, .int .i64 0, .int .i64 id, .int .i64 1, .slice A10 l.length c10, .int .i64 0, .int .i64 0, .int .i64 0] 36)).heap[P15]? = some (.cells #[.int .i64 7, .int .i64 ep, .int .i64 0, .int .i64 0, .int .i64 0, .int .i64 0, .int .i64 0, .int .i64 0, .int .i64 0, .int .i64 0, .int .i64 0, .int .i64 0, .int .i64 0, .int .i64 0, .int .i64 0, .int .i64 id, .int .i64 1, .slice A10 l.length c10, .int .i64 0, .int .i64 0, .int .i64 0] 36 (0, 0))) := Lib.hid hnew
      clear hnew
      go_upto_region 15 with (refine wpList_store_row rfl 36 (.tmp 15) (.tmp 80) rfl w10.heap.size _ rfl rfl 36 _ (heap_alloc_new w10 _) (by kernel_rfl) rfl (by simp [Value.oneCell']) ?_; rw [World.setRow_alloc_new])
      rw [← hP15]
      clear hP15
      generalize w10.alloc (.cells #[.int .i64 7, .int .i64 ep, .int .i64 0, .int .i64 0, .int .i64 0, .int .i64 0, .int .i64 0, .int .i64 0, .int .i64 0, .int .i64 0, .int .i64 0, .int .i64 0, .int .i64 0, .int .i64 0, .int .i64 0, .int .i64 id, .int .i64 1, .slice A10 l.length c10, .int .i64 0, .int .i64 0, .int .i64 0] 36) = w11 at HB_11 HY_11 HS_11 HR1_11 HP11_11 HC_11 HR2_11 HP15_11 ⊢
      go_wp2_with (first | (refine wpList_load_g rfl 36 (.tmp 15) rfl P15 rfl 36 _ (0, 0) _ HP15_11.out Try.underlying36 rfl (by kernel_rfl) ?_) | (refine wpList_load_g rfl 36 (.tmp 11) rfl P11 rfl 36 _ (0, 0) _ HP11_11.out Try.underlying36 rfl (by kernel_rfl) ?_))
      refine (same_eq (askV ep id 1) A10 A6 l.length c10 c6 l w11 (bytesIn_of_own HR2_11.out).2 (bytesIn_of_own HR1_11.out).2 rfl).mono ?_
      rintro e w12 ⟨rfl, hb⟩
      have HB_12 : Hid (Below w.heap.size w w12) := Lib.hid (HB_11.out.trans (hb.mono HB_11.out.size))
      have HY_12 : Hid (BytesIn w12 w.heap.size A c l) := Lib.hid (HY_11.out.below hb HB_11.out.size)
      have HS_12 : Hid (SAt w12 (M + 1) ep M 0 (fun _ => ⟨0, 0, 0, 0⟩)) := Lib.hid (HS_11.out.below hb)
      have HR1_12 : Hid (w12.ownsRow Z1 5 1 (.slice A6 l.length c6) l.length (cells8 l)) := Lib.hid ((Chg.of_below (S := fun _ => False) hb).own HR1_11.out (fun _ _ h => h))
      have HP11_12 : Hid (w12.heap[P11]? = some (.cells #[.int .i64 7, .int .i64 ep, .int .i64 0, .int .i64 0, .int .i64 0, .int .i64 0, .int .i64 0, .int .i64 0, .int .i64 0, .int .i64 0, .int .i64 0, .int .i64 0, .int .i64 0, .int .i64 0, .int .i64 0, .int .i64 id, .int .i64 1, .slice A6 l.length c6, .int .i64 0, .int .i64 0, .int .i64 0] 36 (0, 0))) := Lib.hid ((hb.block P11 (ltb HP11_11.out)).trans HP11_11.out)
      have HC_12 : Hid (CAt w12 gc (askS id ep 14 true l) A4 c4) := Lib.hid (HC_11.out.below hb)
      have HR2_12 : Hid (w12.ownsRow Z2 5 1 (.slice A10 l.length c10) l.length (cells8 l)) := Lib.hid ((Chg.of_below (S := fun _ => False) hb).own HR2_11.out (fun _ _ h => h))
      have HP15_12 : Hid (w12.heap[P15]? = some (.cells #[.int .i64 7, .int .i64 ep, .int .i64 0, .int .i64 0, .int .i64 0, .int .i64 0, .int .i64 0, .int .i64 0, .int .i64 0, .int .i64 0, .int .i64 0, .int .i64 0, .int .i64 0, .int .i64 0, .int .i64 0, .int .i64 id, .int .i64 1, .slice A10 l.length c10, .int .i64 0, .int .i64 0, .int .i64 0] 36 (0, 0))) := Lib.hid ((hb.block P15 (ltb HP15_11.out)).trans HP15_11.out)
      clear hb HB_11 HY_11 HS_11 HR1_11 HP11_11 HC_11 HR2_11 HP15_11
      clear HR1_12 HP11_12
      have m17 : w12.cell? ⟨P15, 17, none⟩ = some (.slice A10 l.length c10) := cellb (i := 17) HP15_12.out rfl
      have z1 := zc (bytesIn_of_own HR2_12.out).2 rfl
      have z2 := zc HY_12.out rfl
      go_wp2_with (refine wpList_load_row rfl 36 (.tmp 15) rfl P15 rfl 36 _ (0, 0) _ HP15_12.out Try.underlying36 rfl (by kernel_rfl) ?_)
      clear m17 z1 z2
      refine (look_ok (M + 1) ep M 0 (fun _ => ⟨0, 0, 0, 0⟩) (askV ep id 1) A10 l.length c10 0 0 0 0 w12 HS_12.out rfl (ok7 (by omega) (by omega) i1 i2 hl) (wfid i1 i2)).mono ?_
      rintro e w13 ⟨hp, hb⟩
      unfold LookPost at hp
      rw [if_pos (show askV ep id 1 1 = ep from rfl), if_pos (show (lookK ⟨0, 0, 0, 0⟩ 0 0 0 0).q < askV ep id 1 16 from (by show (lookK ⟨0, 0, 0, 0⟩ 0 0 0 0).q < 1; decide))] at hp
      subst hp
      have HB_13 : Hid (Below w.heap.size w w13) := Lib.hid (HB_12.out.trans (hb.mono HB_12.out.size))
      have HY_13 : Hid (BytesIn w13 w.heap.size A c l) := Lib.hid (HY_12.out.below hb HB_12.out.size)
      have HS_13 : Hid (SAt w13 (M + 1) ep M 0 (fun _ => ⟨0, 0, 0, 0⟩)) := Lib.hid (HS_12.out.below hb)
      have HC_13 : Hid (CAt w13 gc (askS id ep 14 true l) A4 c4) := Lib.hid (HC_12.out.below hb)
      have HR2_13 : Hid (w13.ownsRow Z2 5 1 (.slice A10 l.length c10) l.length (cells8 l)) := Lib.hid ((Chg.of_below (S := fun _ => False) hb).own HR2_12.out (fun _ _ h => h))
      have HP15_13 : Hid (w13.heap[P15]? = some (.cells #[.int .i64 7, .int .i64 ep, .int .i64 0, .int .i64 0, .int .i64 0, .int .i64 0, .int .i64 0, .int .i64 0, .int .i64 0, .int .i64 0, .int .i64 0, .int .i64 0, .int .i64 0, .int .i64 0, .int .i64 0, .int .i64 id, .int .i64 1, .slice A10 l.length c10, .int .i64 0, .int .i64 0, .int .i64 0] 36 (0, 0))) := Lib.hid ((hb.block P15 (ltb HP15_12.out)).trans HP15_12.out)
      clear hb HB_12 HY_12 HS_12 HC_12 HR2_12 HP15_12
      clear HR2_13
      obtain ⟨P18, hP18⟩ : ∃ x, x = w13.heap.size := ⟨_, rfl⟩
      have hqP18 : gc < P18 ∧ M + 1 < P18 := by have := HC_13.out.glt; have := HS_13.out.glt; omega
      obtain ⟨hqP18, hrP18⟩ := hqP18
      have hal : Below w13.heap.size w13 (w13.alloc (.cells #[.int .i64 0, .int .i64 0, .int .i64 0, .int .i64 0, .int .i64 0, .int .i64 0, .int .i64 0, .int .i64 0, .int .i64 0, .int .i64 0, .int .i64 0, .int .i64 0, .int .i64 0, .int .i64 0, .int .i64 0, .int .i64 0, .int .i64 0, .slice none 0 0, .int .i64 0, .int .i64 0, .int .i64 0] 36)) := (Below.refl _ _).alloc (Nat.le_refl _) _
      have hnew : (w13.alloc (.cells #[.int .i64 0, .int .i64 0, .int .i64 0, .int .i64 0, .int .i64 0, .int .i64 0, .int .i64 0, .int .i64 0, .int .i64 0, .int .i64 0, .int .i64 0, .int .i64 0, .int .i64 0, .int .i64 0, .int .i64 0, .int .i64 0, .int .i64 0, .slice none 0 0, .int .i64 0, .int .i64 0, .int .i64 0] 36)).heap[P18]? = some (.cells #[.int .i64 0, .int .i64 0, .int .i64 0, .int .i64 0, .int .i64 0, .int .i64 0, .int .i64 0, .int .i64 0, .int .i64 0, .int .i64 0, .int .i64 0, .int .i64 0, .int .i64 0, .int .i64 0, .int .i64 0, .int .i64 0, .int .i64 0, .slice none 0 0, .int .i64 0, .int .i64 0, .int .i64 0] 36 (0, 0)) := by rw [hP18]; exact heap_alloc_new _ _
      have HB_14 : Hid (Below w.heap.size w (w13.alloc (.cells #[.int .i64 0, .int .i64 0, .int .i64 0, .int .i64 0, .int .i64 0, .int .i64 0, .int .i64 0, .int .i64 0, .int .i64 0, .int .i64 0, .int .i64 0, .int .i64 0, .int .i64 0, .int .i64 0, .int .i64 0, .int .i64 0, .int .i64 0, .slice none 0 0, .int .i64 0, .int .i64 0, .int .i64 0] 36))) := Lib.hid (HB_13.out.trans (hal.mono HB_13.out.size))
      have HY_14 : Hid (BytesIn (w13.alloc (.cells #[.int .i64 0, .int .i64 0, .int .i64 0, .int .i64 0, .int .i64 0, .int .i64 0, .int .i64 0, .int .i64 0, .int .i64 0, .int .i64 0, .int .i64 0, .int .i64 0, .int .i64 0, .int .i64 0, .int .i64 0, .int .i64 0, .int .i64 0, .slice none 0 0, .int .i64 0, .int .i64 0, .int .i64 0] 36)) w.heap.size A c l) := Lib.hid (HY_13.out.below hal HB_13.out.size)
      have HS_14 : Hid (SAt (w13.alloc (.cells #[.int .i64 0, .int .i64 0, .int .i64 0, .int .i64 0, .int .i64 0, .int .i64 0, .int .i64 0, .int .i64 0, .int .i64 0, .int .i64 0, .int .i64 0, .int .i64 0, .int .i64 0, .int .i64 0, .int .i64 0, .int .i64 0, .int .i64 0, .slice none 0 0, .int .i64 0, .int .i64 0, .int .i64 0] 36)) (M + 1) ep M 0 (fun _ => ⟨0, 0, 0, 0⟩)) := Lib.hid (HS_13.out.below hal)
      have HC_14 : Hid (CAt (w13.alloc (.cells #[.int .i64 0, .int .i64 0, .int .i64 0, .int .i64 0, .int .i64 0, .int .i64 0, .int .i64 0, .int .i64 0, .int .i64 0, .int .i64 0, .int .i64 0, .int .i64 0, .int .i64 0, .int .i64 0, .int .i64 0, .int .i64 0, .int .i64 0, .slice none 0 0, .int .i64 0, .int .i64 0, .int .i64 0] 36)) gc (askS id ep 14 true l) A4 c4) := Lib.hid (HC_13.out.below hal)
      have HP15_14 : Hid ((w13.alloc (.cells #[.int .i64 0, .int .i64 0, .int .i64 0, .int .i64 0, .int .i64 0, .int .i64 0, .int .i64 0, .int .i64 0, .int .i64 0, .int .i64 0, .int .i64 0, .int .i64 0, .int .i64 0, .int .i64 0, .int .i64 0, .int .i64 0, .int .i64 0, .slice none 0 0, .int .i64 0, .int .i64 0, .int .i64 0] 36)).heap[P15]? = some (.cells #[.int .i64 7, .int .i64 ep, .int .i64 0, .int .i64 0, .int .i64 0, .int .i64 0, .int .i64 0, .int .i64 0, .int .i64 0, .int .i64 0, .int .i64 0, .int .i64 0, .int .i64 0, .int .i64 0, .int .i64 0, .int .i64 id, .int .i64 1, .slice A10 l.length c10, .int .i64 0, .int .i64 0, .int .i64 0] 36 (0, 0))) := Lib.hid ((hal.block P15 (ltb HP15_13.out)).trans HP15_13.out)
      clear hal HB_13 HY_13 HS_13 HC_13 HP15_13
      have HP18_14 : Hid ((w13.alloc (.cells #[.int .i64 0, .int .i64 0, .int .i64 0, .int .i64 0, .int .i64 0, .int .i64 0, .int .i64 0, .int .i64 0, .int .i64 0, .int .i64 0, .int .i64 0, .int .i64 0, .int .i64 0, .int .i64 0, .int .i64 0, .int .i64 0, .int .i64 0, .slice none 0 0, .int .i64 0, .int .i64 0, .int .i64 0] 36)).heap[P18]? = some (.cells #[.int .i64 0, .int .i64 0, .int .i64 0, .int .i64 0, .int .i64 0, .int .i64 0, .int .i64 0, .int .i64 0, .int .i64 0, .int .i64 0, .int .i64 0, .int .i64 0, .int .i64 0, .int .i64 0, .int .i64 0, .int .i64 0, .int .i64 0, .slice none 0 0, .int .i64 0, .int .i64 0, .int .i64 0] 36 (0, 0))) := Lib.hid hnew
      clear hnew
      have m16 : (w13.alloc (.cells #[.int .i64 0, .int .i64 0, .int .i64 0, .int .i64 0, .int .i64 0, .int .i64 0, .int .i64 0, .int .i64 0, .int .i64 0, .int .i64 0, .int .i64 0, .int .i64 0, .int .i64 0, .int .i64 0, .int .i64 0, .int .i64 0, .int .i64 0, .slice none 0 0, .int .i64 0, .int .i64 0, .int .i64 0] 36)).cell? ⟨P15, 16, none⟩ = some (.int .i64 1) := cellb (i := 16) HP15_14.out rfl
      go_wp2_with (refine wpList_store_row rfl 36 (.tmp 18) (.tmp 111) rfl w13.heap.size _ rfl rfl 36 _ (heap_alloc_new w13 _) (by kernel_rfl) rfl (by simp [Value.oneCell']) ?_; rw [World.setRow_alloc_new])
      clear m16
      rw [← hP18]
      clear hP18
      generalize w13.alloc (.cells #[.int .i64 0, .int .i64 0, .int .i64 0, .int .i64 0, .int .i64 0, .int .i64 0, .int .i64 0, .int .i64 0, .int .i64 0, .int .i64 0, .int .i64 0, .int .i64 0, .int .i64 0, .int .i64 0, .int .i64 0, .int .i64 0, .int .i64 0, .slice none 0 0, .int .i64 0, .int .i64 0, .int .i64 0] 36) = w14 at HB_14 HY_14 HS_14 HC_14 HP15_14 HP18_14 ⊢
      clear HP15_14
      refine (done_any (M + 1) ep M 0 (fun _ => ⟨0, 0, 0, 0⟩) id 1 0 7 0 w14 HS_14.out (wfid i1 i2) (by decide)).mono ?_
      rintro e w15 ⟨k, hk, rfl, hs, hg⟩
      obtain rfl : k = true := hk.2 ⟨by show (0 : Int) < 1; decide, okR8 (by omega) e2 i1 i2 (by decide) (by decide) (by decide) (by decide) (by decide) (by decide)⟩
      have hwM : w.heap.size ≤ M := by omega
      have HB_15 : Hid (Below w.heap.size w w15) := Lib.hid (HB_14.out.grown hg HB_14.out.size (fun k hk => by injection hk with hk; omega))
      have HY_15 : Hid (BytesIn w15 w.heap.size A c l) := Lib.hid (HY_14.out.chgB HB_14.out.size ((Chg.refl (fun k => k = M) _).grown hg (fun k hk => by injection hk with hk; exact .inr hk.symm)) (fun k hk e => by omega))
      have HC_15 : Hid (CAt w15 gc (askS id ep 14 true l) A4 c4) := Lib.hid (HC_14.out.grown hg (by obtain ⟨D, ⟨es, clock, hb, _⟩, _⟩ := HS_14.out.map; exact ⟨es, clock, hb⟩))
      have HP18_15 : Hid (w15.heap[P18]? = some (.cells #[.int .i64 0, .int .i64 0, .int .i64 0, .int .i64 0, .int .i64 0, .int .i64 0, .int .i64 0, .int .i64 0, .int .i64 0, .int .i64 0, .int .i64 0, .int .i64 0, .int .i64 0, .int .i64 0, .int .i64 0, .int .i64 0, .int .i64 0, .slice none 0 0, .int .i64 0, .int .i64 0, .int .i64 0] 36 (0, 0))) := Lib.hid ((grown_block hg (ltb HP18_14.out) (by omega)).trans HP18_14.out)
      clear hg HB_14 HY_14 HC_14 HP18_14
      clear hk hs HS_14
      simp only [if_true]
      have hst : (w15.setRow P18 #[.int .i64 8, .int .i64 ep, .int .i64 0, .int .i64 0, .int .i64 0, .int .i64 0, .int .i64 0, .int .i64 0, .int .i64 0, .int .i64 0, .int .i64 0, .int .i64 0, .int .i64 0, .int .i64 0, .int .i64 0, .int .i64 id, .int .i64 1, .slice none 0 0, .int .i64 0, .int .i64 7, .int .i64 0]).heap[P18]? = some (.cells #[.int .i64 8, .int .i64 ep, .int .i64 0, .int .i64 0, .int .i64 0, .int .i64 0, .int .i64 0, .int .i64 0, .int .i64 0, .int .i64 0, .int .i64 0, .int .i64 0, .int .i64 0, .int .i64 0, .int .i64 0, .int .i64 id, .int .i64 1, .slice none 0 0, .int .i64 0, .int .i64 7, .int .i64 0] 36 (0, 0)) := setRow_heap w15 P18 _ _ _ _ HP18_15.out
      have hch : Chg (fun k => k = P18) w15 (w15.setRow P18 #[.int .i64 8, .int .i64 ep, .int .i64 0, .int .i64 0, .int .i64 0, .int .i64 0, .int .i64 0, .int .i64 0, .int .i64 0, .int .i64 0, .int .i64 0, .int .i64 0, .int .i64 0, .int .i64 0, .int .i64 0, .int .i64 id, .int .i64 1, .slice none 0 0, .int .i64 0, .int .i64 7, .int .i64 0]) := (Chg.refl (fun k => k = P18) _).setRow (.inr rfl) _
      have hcc := HC_15.out.off HP18_15.out (by decide) (by omega) hch
      have hbb := HB_15.out.trans (hch.below HB_15.out.size (fun k hk e => by omega))
      have HC_16 := Lib.hid hcc
      have HB_16 := Lib.hid hbb
      have HP18_16 := Lib.hid hst
      clear hst hch hcc hbb
      go_wp2_with (first | (refine wpList_store_row rfl 36 (.tmp 18) (.tmp 121) rfl P18 _ rfl rfl 36 _ HP18_15.out (by kernel_rfl) rfl (by simp [Value.oneCell']) ?_) | (refine wpList_load_row rfl 36 (.tmp 18) rfl P18 rfl 36 _ (0, 0) _ HP18_16.out Try.underlying36 rfl (by kernel_rfl) ?_))
      clear HC_15 HB_15 HP18_15 HY_15
      generalize w15.setRow P18 #[.int .i64 8, .int .i64 ep, .int .i64 0, .int .i64 0, .int .i64 0, .int .i64 0, .int .i64 0, .int .i64 0, .int .i64 0, .int .i64 0, .int .i64 0, .int .i64 0, .int .i64 0, .int .i64 0, .int .i64 0, .int .i64 id, .int .i64 1, .slice none 0 0, .int .i64 0, .int .i64 7, .int .i64 0] = w16 at HC_16 HB_16 HP18_16 ⊢
      clear HP18_16
      refine (hear_asked gc (askS id ep 14 true l) A4 c4 (repV ep id 1 0 7 0) none 0 0 w16 HC_16.out ⟨rfl, rfl, rfl, rfl⟩).mono ?_
      rintro e w17 ⟨k, hk, rfl, hc, hch⟩
      obtain rfl : k = true := hk.2 (okR8 (by omega) e2 i1 i2 (by decide) (by decide) (by decide) (by decide) (by decide) (by decide))
      clear hk HC_16
      have HB_17 : Hid (Below w.heap.size w w17) := Lib.hid (HB_16.out.trans (hch.below HB_16.out.size (fun k hk e => by omega)))
      clear hch HB_16
      have hd : hearD (askS id ep 14 true l) (repV ep id 1 0 7 0) true = ⟨id, 1, ep, false, true, 14, l⟩ := by unfold hearD; rw [if_pos rfl, if_neg (show ¬ repV ep id 1 0 7 0 18 = 190 from (by show ¬ (0 : Int) = 190; decide)), if_pos (show repV ep id 1 0 7 0 1 = (askS id ep 14 true l).epoch from rfl)]; rfl
      rw [hd] at hc
      have HC_17 := Lib.hid hc
      clear hc hd
      rw [show hearK (askS id ep 14 true l) (repV ep id 1 0 7 0) true = true by unfold hearK; simp [repV, askS]]
      simp only [if_true, show repV ep id 1 0 7 0 18 = 0 from rfl, show repV ep id 1 0 7 0 19 = 7 from rfl, show repV ep id 1 0 7 0 20 = 0 from rfl]
      obtain ⟨P19, hP19⟩ : ∃ x, x = w17.heap.size := ⟨_, rfl⟩
      have hqP19 : gc < P19 := by have := HC_17.out.glt; omega
      have hal : Below w17.heap.size w17 (w17.alloc (.cells #[.int .i64 0, .int .i64 7, .int .i64 0] 34)) := (Below.refl _ _).alloc (Nat.le_refl _) _
      have hnew : (w17.alloc (.cells #[.int .i64 0, .int .i64 7, .int .i64 0] 34)).heap[P19]? = some (.cells #[.int .i64 0, .int .i64 7, .int .i64 0] 34 (0, 0)) := by rw [hP19]; exact heap_alloc_new _ _
      have HB_18 : Hid (Below w.heap.size w (w17.alloc (.cells #[.int .i64 0, .int .i64 7, .int .i64 0] 34))) := Lib.hid (HB_17.out.trans (hal.mono HB_17.out.size))
      have HC_18 : Hid (CAt (w17.alloc (.cells #[.int .i64 0, .int .i64 7, .int .i64 0] 34)) gc ⟨id, 1, ep, false, true, 14, l⟩ A4 c4) := Lib.hid (HC_17.out.below hal)
      clear hal HB_17 HC_17
      have HP19_18 : Hid ((w17.alloc (.cells #[.int .i64 0, .int .i64 7, .int .i64 0] 34)).heap[P19]? = some (.cells #[.int .i64 0, .int .i64 7, .int .i64 0] 34 (0, 0))) := Lib.hid hnew
      clear hnew
      go_wp2_with fail
      rw [← hP19]
      clear hP19
      generalize w17.alloc (.cells #[.int .i64 0, .int .i64 7, .int .i64 0] 34) = w18 at HB_18 HC_18 HP19_18 ⊢
      refine (send_no gc ⟨id, 1, ep, false, true, 14, l⟩ A4 c4 100 w18 HC_18.out (.inl rfl) (by show (14 : Int) < 1099511627776; decide)).mono ?_
      rintro e w19 ⟨rfl, hb⟩
      have HB_19 : Hid (Below w.heap.size w w19) := Lib.hid (HB_18.out.trans (hb.mono HB_18.out.size))
      have HC_19 : Hid (CAt w19 gc ⟨id, 1, ep, false, true, 14, l⟩ A4 c4) := Lib.hid (HC_18.out.below hb)
      have HP19_19 : Hid (w19.heap[P19]? = some (.cells #[.int .i64 0, .int .i64 7, .int .i64 0] 34 (0, 0))) := Lib.hid ((hb.block P19 (ltb HP19_18.out)).trans HP19_18.out)
      clear hb HB_18 HC_18 HP19_18
      obtain ⟨P21, hP21⟩ : ∃ x, x = w19.heap.size := ⟨_, rfl⟩
      have hal : Below w19.heap.size w19 (w19.alloc (.cells #[.int .i64 0, .int .i64 0, .int .i64 0, .int .i64 0, .int .i64 0, .int .i64 0, .int .i64 0, .int .i64 0, .int .i64 0, .int .i64 0, .int .i64 0, .int .i64 0, .int .i64 0, .int .i64 0, .int .i64 0, .int .i64 0, .int .i64 0, .slice none 0 0, .int .i64 0, .int .i64 0, .int .i64 0] 36)) := (Below.refl _ _).alloc (Nat.le_refl _) _
      have hnew : (w19.alloc (.cells #[.int .i64 0, .int .i64 0, .int .i64 0, .int .i64 0, .int .i64 0, .int .i64 0, .int .i64 0, .int .i64 0, .int .i64 0, .int .i64 0, .int .i64 0, .int .i64 0, .int .i64 0, .int .i64 0, .int .i64 0, .int .i64 0, .int .i64 0, .slice none 0 0, .int .i64 0, .int .i64 0, .int .i64 0] 36)).heap[P21]? = some (.cells #[.int .i64 0, .int .i64 0, .int .i64 0, .int .i64 0, .int .i64 0, .int .i64 0, .int .i64 0, .int .i64 0, .int .i64 0, .int .i64 0, .int .i64 0, .int .i64 0, .int .i64 0, .int .i64 0, .int .i64 0, .int .i64 0, .int .i64 0, .slice none 0 0, .int .i64 0, .int .i64 0, .int .i64 0] 36 (0, 0)) := by rw [hP21]; exact heap_alloc_new _ _
      have HB_20 : Hid (Below w.heap.size w (w19.alloc (.cells #[.int .i64 0, .int .i64 0, .int .i64 0, .int .i64 0, .int .i64 0, .int .i64 0, .int .i64 0, .int .i64 0, .int .i64 0, .int .i64 0, .int .i64 0, .int .i64 0, .int .i64 0, .int .i64 0, .int .i64 0, .int .i64 0, .int .i64 0, .slice none 0 0, .int .i64 0, .int .i64 0, .int .i64 0] 36))) := Lib.hid (HB_19.out.trans (hal.mono HB_19.out.size))
      have HC_20 : Hid (CAt (w19.alloc (.cells #[.int .i64 0, .int .i64 0, .int .i64 0, .int .i64 0, .int .i64 0, .int .i64 0, .int .i64 0, .int .i64 0, .int .i64 0, .int .i64 0, .int .i64 0, .int .i64 0, .int .i64 0, .int .i64 0, .int .i64 0, .int .i64 0, .int .i64 0, .slice none 0 0, .int .i64 0, .int .i64 0, .int .i64 0] 36)) gc ⟨id, 1, ep, false, true, 14, l⟩ A4 c4) := Lib.hid (HC_19.out.below hal)
      have HP19_20 : Hid ((w19.alloc (.cells #[.int .i64 0, .int .i64 0, .int .i64 0, .int .i64 0, .int .i64 0, .int .i64 0, .int .i64 0, .int .i64 0, .int .i64 0, .int .i64 0, .int .i64 0, .int .i64 0, .int .i64 0, .int .i64 0, .int .i64 0, .int .i64 0, .int .i64 0, .slice none 0 0, .int .i64 0, .int .i64 0, .int .i64 0] 36)).heap[P19]? = some (.cells #[.int .i64 0, .int .i64 7, .int .i64 0] 34 (0, 0))) := Lib.hid ((hal.block P19 (ltb HP19_19.out)).trans HP19_19.out)
      clear hal HB_19 HC_19 HP19_19
      have HP21_20 : Hid ((w19.alloc (.cells #[.int .i64 0, .int .i64 0, .int .i64 0, .int .i64 0, .int .i64 0, .int .i64 0, .int .i64 0, .int .i64 0, .int .i64 0, .int .i64 0, .int .i64 0, .int .i64 0, .int .i64 0, .int .i64 0, .int .i64 0, .int .i64 0, .int .i64 0, .slice none 0 0, .int .i64 0, .int .i64 0, .int .i64 0] 36)).heap[P21]? = some (.cells #[.int .i64 0, .int .i64 0, .int .i64 0, .int .i64 0, .int .i64 0, .int .i64 0, .int .i64 0, .int .i64 0, .int .i64 0, .int .i64 0, .int .i64 0, .int .i64 0, .int .i64 0, .int .i64 0, .int .i64 0, .int .i64 0, .int .i64 0, .slice none 0 0, .int .i64 0, .int .i64 0, .int .i64 0] 36 (0, 0))) := Lib.hid hnew
      clear hnew
      go_wp2_with (refine wpList_store_row rfl 36 (.tmp 21) (.tmp 133) rfl w19.heap.size _ rfl rfl 36 _ (heap_alloc_new w19 _) (by kernel_rfl) rfl (by simp [Value.oneCell']) ?_; rw [World.setRow_alloc_new])
      rw [← hP21]
      clear hP21
      generalize w19.alloc (.cells #[.int .i64 0, .int .i64 0, .int .i64 0, .int .i64 0, .int .i64 0, .int .i64 0, .int .i64 0, .int .i64 0, .int .i64 0, .int .i64 0, .int .i64 0, .int .i64 0, .int .i64 0, .int .i64 0, .int .i64 0, .int .i64 0, .int .i64 0, .slice none 0 0, .int .i64 0, .int .i64 0, .int .i64 0] 36) = w20 at HB_20 HC_20 HP19_20 HP21_20 ⊢
      refine (state_any gc ⟨id, 1, ep, false, true, 14, l⟩ A4 c4 w20 HC_20.out).mono ?_
      rintro e w21 ⟨rfl, nq, rfl⟩
      have r1 : (w20.drewN nq).cell? ⟨P19, 1, none⟩ = some (.int .i64 7) := cellb (i := 1) HP19_20.out rfl
      have HBF : Hid (Below w.heap.size w (w20.drewN nq)) := Lib.hid ⟨HB_20.out.os, HB_20.out.tape, HB_20.out.output, HB_20.out.size, HB_20.out.block⟩
      clear HP19_20 HP21_20 HB_20 HC_20
      go_wp2_with fail
      go_ret
      exact ⟨rfl, HBF.out⟩
theorem law_comes (id ep : Int) (A : Option Addr) (c n : Nat) (l : List UInt8) (w : World) (hn : n = l.length) (hB : BytesIn w w.heap.size A c l) :
    Calls Try.prog 6 #[.int .i64 id, .int .i64 ep, .slice A n c] w fun e w' => e = .returned (.bool true) ∧ Below w.heap.size w w' := by
  subst hn
  by_cases h : id < 1 ∨ 16 < id ∨ ep < 1 ∨ 1099511627776 < ep ∨ 4096 < l.length
  · exact comes_out id ep A c l w h (by have := hB.le; have := hB.cap; omega)
  · exact comes_in id ep A c l w (by omega) (by omega) (by omega) (by omega) (by omega) hB
end Go.Proofs.Ytlcbpodjmafoeaa
