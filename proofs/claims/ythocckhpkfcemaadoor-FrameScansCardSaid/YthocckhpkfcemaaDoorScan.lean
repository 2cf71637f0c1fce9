/- The bodies of the frames, told one by one through a closure. -/
import Derived.Test.YthocckhpkfcemaaDoorLook
namespace Go.Proofs.YthocckhpkfcemaaDoor
open Go.RowKit

def bodyOf (l : List UInt8) : List UInt8 := (l.drop 4).take (num4 l)
theorem lookE_ok {l : List UInt8} (h : lookE l = 0) : 4 ≤ l.length ∧ num4 l ≤ 65536 ∧ num4 l + 8 ≤ l.length := by
  unfold lookE at h
  by_cases h1 : l.length < 4
  · rw [if_pos h1] at h; cases h
  rw [if_neg h1] at h
  by_cases h2 : 65536 < num4 l
  · rw [if_pos h2] at h; cases h
  rw [if_neg h2] at h
  by_cases h3 : l.length < num4 l + 8
  · rw [if_pos h3] at h; cases h
  omega
def scanL (l : List UInt8) : List (List UInt8) := if _h : lookE l = 0 then bodyOf l :: scanL (l.drop (num4 l + 8)) else []
termination_by l.length
decreasing_by have := lookE_ok _h; rw [List.length_drop]; omega
def scanAt (l : List UInt8) : Nat := if _h : lookE l = 0 then num4 l + 8 + scanAt (l.drop (num4 l + 8)) else 0
termination_by l.length
decreasing_by have := lookE_ok _h; rw [List.length_drop]; omega

/-- Rows of bytes of the call's own. -/
def RowsOwn (w : World) (base : Nat) (vs : List Value) (ls : List (List UInt8)) : Prop :=
  vs.length = ls.length ∧ ∀ i (h : i < ls.length), ∃ A c, vs[i]? = some (.slice A ls[i].length c) ∧ w.ownsRow base 5 1 (.slice A ls[i].length c) ls[i].length (cells8 ls[i])
theorem RowsOwn.keep {w w' : World} {base : Nat} {vs : List Value} {ls : List (List UInt8)} {S : Nat → Prop} (h : RowsOwn w base vs ls) (hc : Chg S w w') (hs : ∀ k cur f, w.heap[k]? = some (.cells cur 5 f) → ¬ S k) : RowsOwn w' base vs ls := by
  refine ⟨h.1, fun i hi => ?_⟩
  obtain ⟨A, c, h1, h2⟩ := h.2 i hi
  exact ⟨A, c, h1, hc.own h2 fun k hk => by obtain ⟨cur, f, hh⟩ := own_elem h2 hk; exact hs k cur f hh⟩
theorem RowsOwn.snoc {w : World} {base : Nat} {vs : List Value} {ls : List (List UInt8)} (h : RowsOwn w base vs ls) {A : Option Addr} {c n : Nat} {l : List UInt8} (hn : n = l.length) (ho : w.ownsRow base 5 1 (.slice A n c) n (cells8 l)) :
    RowsOwn w base (vs ++ [.slice A n c]) (ls ++ [l]) := by
  subst hn
  refine ⟨by simp [h.1], fun i hi => ?_⟩
  by_cases hlt : i < ls.length
  · obtain ⟨A', c', h1, h2⟩ := h.2 i hlt
    refine ⟨A', c', ?_, ?_⟩
    · rw [List.getElem?_append_left (by rw [h.1]; exact hlt), List.getElem_append_left hlt]; exact h1
    · rw [List.getElem_append_left hlt]; exact h2
  · have hi' : i = ls.length := by simp at hi; omega
    subst hi'
    refine ⟨A, c, ?_, ?_⟩
    · rw [List.getElem?_append_right (by rw [h.1]; omega), List.getElem_append_right (by omega)]; simp [h.1]
    · rw [List.getElem_append_right (by omega)]; simpa using ho

/-- What the captured variable holds behind the telling of ls. -/
def ScanSt (w : World) (base g : Nat) (ls : List (List UInt8)) : Prop :=
  ∃ Ao co vs, base ≤ g ∧ w.heap[g]? = some (.cells #[.slice Ao ls.length co] 30 (0, 0)) ∧ w.ownsRow base 22 1 (.slice Ao ls.length co) ls.length vs ∧ RowsOwn w base vs ls

theorem Tryd.info22 : (Tryd.prog.info? 22).map (fun i => (i.zero, i.size, i.bytes)) = some (some (.slice none 0 0), 1, 24) := by kernel_rfl

theorem scan1_end {w w3 : World} {base g m n : Nat} {Ao A2 A3 : Option Addr} {co c2 c3 : Nat} {vs : List Value} {l : List UInt8} {ls : List (List UInt8)} (hm : m = ls.length) (hn : n = l.length) (hbg : base ≤ g) (hbase : base ≤ w.heap.size)
    (hch : Chg (OneBlk (Value.ownBlock (.slice Ao m co))) w w3) (hb3 : w3.heap[g]? = some (.cells #[.slice Ao m co] 30 (0, 0))) (ho3 : w3.ownsRow base 22 1 (.slice A3 (m + 1) c3) (m + 1) (vs ++ [.slice A2 n c2]))
    (ho5 : w3.ownsRow base 5 1 (.slice A2 n c2) n (cells8 l)) (hown : w.ownsRow base 22 1 (.slice Ao m co) m vs) (hr : RowsOwn w base vs ls) :
    ScanSt (w3.setCell ⟨g, 0, none⟩ (.slice A3 (m + 1) c3)) base g (ls ++ [l]) ∧ Below base w (w3.setCell ⟨g, 0, none⟩ (.slice A3 (m + 1) c3)) := by
  have hset : Chg (fun k => k = g) w3 (w3.setCell ⟨g, 0, none⟩ (.slice A3 (m + 1) c3)) := (Chg.refl (fun k => k = g) w3).setCell (p := ⟨g, 0, none⟩) (.inr rfl) _
  have hr3 : RowsOwn w3 base vs ls := hr.keep hch fun k cur f hk hS => by
    obtain ⟨c2, f2, h2⟩ := own_elem hown hS
    rw [hk] at h2; simp at h2
  have hlen : (ls ++ [l]).length = m + 1 := by simp [hm]
  have ng (cur : Array Value) (e : TypeId) (f : Nat × Nat) (he : e ≠ 30) (k : Nat) (hk : w3.heap[k]? = some (.cells cur e f)) : k ≠ g := by
    rintro rfl
    rw [hb3] at hk
    simp at hk
    exact he hk.2.1.symm
  have hown3 : (w3.setCell ⟨g, 0, none⟩ (.slice A3 (m + 1) c3)).ownsRow base 22 1 (.slice A3 (m + 1) c3) (m + 1) (vs ++ [.slice A2 n c2]) := by
    refine hset.own ho3 fun k hk => ?_
    obtain ⟨cur, f, hh⟩ := own_elem ho3 hk
    exact ng cur 22 f (by decide) k hh
  refine ⟨⟨A3, c3, vs ++ [.slice A2 n c2], hbg, by rw [hlen]; exact one_set hb3 _, by rw [hlen]; exact hown3, ?_⟩, ?_⟩
  · exact (hr3.snoc hn ho5).keep hset fun k cur f hk => ng cur 5 f (by decide) k hk
  · have h1 : Below base w w3 := hch.below hbase fun k hk hS => by have := (hown.lt k hS).1; omega
    exact h1.setCell hbg _

set_option maxHeartbeats 1000000 in
theorem scan1_any (A : Option Addr) (c n : Nat) (l : List UInt8) (w : World) (base g : Nat) (ls : List (List UInt8)) (B : Nat) (h : BytesIn w B A c l) (hB : B ≤ base) (hn : n = l.length) (hl : n ≤ 100000000) (hls : ls.length ≤ 100000000) (hst : ScanSt w base g ls) (hbase : base ≤ w.heap.size) :
    Calls Tryd.prog 22 #[.slice A n c, .pointer (some ⟨g, 0, none⟩)] w fun e w' => e = .returned (.tuple #[]) ∧ ScanSt w' base g (ls ++ [l]) ∧ Below base w w' := by
  obtain ⟨i5, hi, hz0, hz1, hz2⟩ := info_parts Tryd.info5
  obtain ⟨i22, gi, gz0, gz1, gz2⟩ := info_parts Tryd.info22
  obtain ⟨Ao, co, vs, hbg, hcell, hown, hrows⟩ := hst
  obtain ⟨m, hm⟩ : ∃ m, m = ls.length := ⟨_, rfl⟩
  rw [← hm] at hcell hown hls
  have hc0 : w.cell? ⟨g, 0, none⟩ = some (.slice Ao m co) := by simp [World.cell?, hcell]
  have hf0 : w.frozen? ⟨g, 0, none⟩ = false := by simp [World.frozen?, hcell]
  have HM := Lib.hid hm; clear hm
  have HN := Lib.hid hn; clear hn
  have HB := Lib.hid h; clear h
  have HC := Lib.hid hcell; clear hcell
  have HO := Lib.hid hown; clear hown
  have HR := Lib.hid hrows; clear hrows
  have hg : g < w.heap.size := (Array.getElem?_eq_some_iff.1 HC.out).1
  have hne : ∀ k, Value.ownBlock (.slice Ao m co) = some k → k ≠ g := by
    intro k hk e
    obtain ⟨cur, f, hh⟩ := own_elem HO.out hk
    rw [e, HC.out] at hh
    simp at hh
  have HNE := Lib.hid hne; clear hne
  go_enter Tryd.func22, Tryd.ntmps22
  go_wp2_with fail
  go_region_law
    (first
      | (refine step_append_row _ rfl (.tmp 4) (.tmp 5) _ rfl base 5 i5 _ 1 1 Tryd.underlying22 hi hz0 hz1 hz2 rfl (by omega) (some ⟨w.heap.size, 0, none⟩) 0 0 [] rfl (own_alloc w #[] 5 1 0 base rfl (by unfold maxLen; omega) hbase) B A n c (cells8 l) rfl ((HB.out.below ((Below.refl base w).alloc hbase (.cells #[] 5)).drew hB).cellsN HN.out) (cells8_one l) (by unfold maxLen; omega) (by omega) (by simp; omega) ?_; intro A2 c2 w1 hown1 hg1 hat1; have hch1 := Lib.hid (((Chg.refl NoBlk w).alloc (.cells #[] 5)).drew.grown hg1 (fun k hk => .inl (by simp [Value.ownBlock] at hk; omega))); have hs1 := hch1.out.size; have hc1 := hch1.out.cell hc0 (fun h => h); have hgl1 : g < w1.heap.size := Nat.lt_of_lt_of_le hg hs1; have ho1 := Lib.hid (own_norm hown1); clear hown1 hg1 hat1)
      | (refine step_append_row _ rfl (.tmp 3) (.tmp 7) _ rfl base 22 i22 _ 1 24 Tryd.underlying30 gi gz0 gz1 gz2 rfl (by omega) Ao m co vs rfl ((hch1.out.alloc _).own HO.out (fun _ _ h => h)) (w1.heap.size + 1) (some ⟨w1.heap.size, 0, none⟩) 1 1 [.slice A2 n c2] rfl (cellsIn_alloc w1 #[.slice A2 n c2] 22 (0, 0) 1 1 rfl) (by simp [Value.oneCell']) (by unfold maxLen; omega) (by omega) (by simp; omega) ?_; intro A3 c3 w3 hown3 hg3 hat3; have hch2 := Lib.hid (((hch1.out.alloc (.cells #[.slice A2 n c2] 22)).mono (S' := OneBlk (Value.ownBlock (.slice Ao m co))) (fun _ _ h => False.elim h)).grown hg3 (fun k hk => .inr hk)); have ho5 := Lib.hid ((((Chg.refl (OneBlk (Value.ownBlock (.slice Ao m co))) w1).alloc (.cells #[.slice A2 n c2] 22)).grown hg3 (fun k hk => .inr hk)).own ho1.out (own_ne ho1.out (hch1.out.own HO.out (fun _ _ h => h)) (by decide))); have hb3 := Lib.hid ((hch2.out.block g hg (fun h => HNE.out g h rfl)).trans HC.out); have hf3 := frozen_of_one (i := 0) hb3.out; have hc3 := cell_of_one hb3.out; have ho3 := Lib.hid hown3; clear hown3 hg3 hat3))
  all_goals
    go_end0
    exact ⟨rfl, scan1_end HM.out HN.out hbg hbase hch2.out hb3.out ho3.out ho5.out HO.out HR.out⟩
end Go.Proofs.YthocckhpkfcemaaDoor
