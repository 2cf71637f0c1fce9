/- A disk: fenced; Append. -/
import Derived.Test.YtpkefkoimlecjaaDoorAppend
namespace Go.Proofs.YtpkefkoimlecjaaDoor
open Go.RowKit

set_option maxHeartbeats 1000000 in
theorem fenced_append (g : Nat) (d : Dk) (y : Lay) (ep : Int) (caps : Array Value) (w : World) (h : DiskAt w g d y) (x : Int) (R : World → Prop)
    (hr : ep = d.c.e → Calls Tryd.prog 24 caps w fun e w' => e = .returned (.int .i64 x) ∧ R w') (hn : ep ≠ d.c.e → x = 150 ∧ R w) :
    Calls Tryd.prog 23 #[.pointer (some ⟨g, 0, none⟩), .int .i64 ep, .func (.func 24) #[] caps] w fun e w' => e = .returned (.int .i64 x) ∧ R w' := by
  have c1 := h.c1
  have hl := h.glt
  clear h
  by_cases he : ep = d.c.e
  · have H := Lib.hid (hr he)
    subst he
    clear hr hn
    generalize d.c.e = E at c1
    go_enter Tryd.func23, Tryd.ntmps23
    go_wp2_with fail
    refine H.out.mono ?_
    rintro e w' ⟨rfl, hR⟩
    have HR := Lib.hid hR
    clear hR
    go_wp2_with fail
    go_ret
    exact ⟨rfl, HR.out⟩
  · have H := Lib.hid (hn he)
    have he' : (ep != d.c.e) = true := by rw [bne_iff_ne]; exact he
    clear hr hn he
    go_enter Tryd.func23, Tryd.ntmps23
    go_wp2_with fail
    go_ret
    exact ⟨by rw [H.out.1]; rfl, H.out.2⟩

/-- What Append answers, and what the disk is behind it. -/
def apE (d : Dk) (ep n : Int) (l : List UInt8) : Int := if ep = d.c.e then appE d n l else 150
def apD (d : Dk) (ep n : Int) (l : List UInt8) : Dk := if ep = d.c.e then appD d n l else d
def apN (d : Dk) (ep n : Int) (l : List UInt8) : Int := if apE d ep n l = 0 then (apD d ep n l).log.length else 0

theorem blk_get {w w' : World} {k i : Nat} (h : w'.heap[k]? = w.heap[k]?) : w'.cell? ⟨k, i, none⟩ = w.cell? ⟨k, i, none⟩ := by simp [World.cell?, h]

theorem keepA {w : World} {o : Obj} {p : Addr} {v : Value} (h : w.cell? p = some v) : (w.alloc o).cell? p = some v := ((Chg.refl NoBlk w).alloc o).cell h (fun h => h)
theorem keepD {w : World} {p : Addr} {v : Value} (h : w.cell? p = some v) : w.drew.cell? p = some v := h
theorem box_new (w : World) (v : Value) (t : TypeId) : (w.alloc (.cells #[v] t)).cell? ⟨w.heap.size, 0, none⟩ = some v := cell_of_one (heap_alloc_new w _)

set_option maxHeartbeats 1000000 in
theorem append_any (g m : Nat) (d : Dk) (y : Lay) (ep n : Int) (A : Option Addr) (c : Nat) (l : List UInt8) (w : World) (h : DiskAt w g d y) (hm : m = l.length) (hB : BytesIn w w.heap.size A c l) (hA : l ≠ [] → ∀ ad, A = some ad → ad.block ≠ g) :
    Calls Tryd.prog 10 #[.pointer (some ⟨g, 0, none⟩), .int .i64 ep, .int .i64 n, .slice A m c] w fun e w' => e = .returned (.tuple #[.int .i64 (apN d ep n l), .int .i64 (apE d ep n l)]) ∧ ∃ y', DiskAt w' g (apD d ep n l) y' ∧ Foot g y y' w w' := by
  have hl := h.glt
  obtain ⟨S, hS⟩ : ∃ S, S = w.heap.size := ⟨_, rfl⟩
  obtain ⟨wb, hwb⟩ : ∃ wb, wb = ((w.alloc (.cells #[.pointer (some ⟨g, 0, none⟩)] 26)).alloc (.cells #[.int .i64 n] 3)).alloc (.cells #[.slice A m c] 22) := ⟨_, rfl⟩
  have hn : Chg NoBlk w wb := by rw [hwb]; exact (((Chg.refl _ w).alloc _).alloc _).alloc _
  have k0 : wb.cell? ⟨S, 0, none⟩ = some (.pointer (some ⟨g, 0, none⟩)) := by rw [hwb, hS]; exact keepA (keepA (box_new w _ _))
  have k1 : wb.cell? ⟨S + 1, 0, none⟩ = some (.int .i64 n) := by rw [hwb, hS]; have := keepA (o := .cells #[.slice A m c] 22) (box_new (w.alloc (.cells #[.pointer (some ⟨g, 0, none⟩)] 26)) (.int .i64 n) 3); simpa using this
  have k2 : wb.cell? ⟨S + 1 + 1, 0, none⟩ = some (.slice A m c) := by rw [hwb, hS]; have := box_new ((w.alloc (.cells #[.pointer (some ⟨g, 0, none⟩)] 26)).alloc (.cells #[.int .i64 n] 3)) (.slice A m c) 22; simpa using this
  have hS2 : wb.heap.size = S + 3 := by rw [hwb, hS]; simp
  have hlb : ∀ k, y.lb = some k → k < S := fun k hk => by rw [hS]; exact (h.lbl k hk).2
  have h1 := append1_any g (S + 1) S (S + 1 + 1) m d y n A c l wb (h.chg0 hn) k1 k0 k2 hm (hB.chg hn (fun _ _ _ h => h)) hA (by omega) (by omega) (fun e => by have := hlb _ e; omega)
  have h2 := fenced_append g d y ep #[.pointer (some ⟨S + 1, 0, none⟩), .pointer (some ⟨S, 0, none⟩), .pointer (some ⟨S + 1 + 1, 0, none⟩)] wb (h.chg0 hn) (apE d ep n l) (fun w' => ∃ y', DiskAt w' g (apD d ep n l) y' ∧ Foot g y y' wb w')
    (fun he => by unfold apE apD; rw [if_pos he, if_pos he]; exact h1) (fun he => by unfold apE apD; rw [if_neg he, if_neg he]; exact ⟨rfl, y, h.chg0 hn, Foot.refl _ _ _⟩)
  have H2 := Lib.hid h2
  have HN := Lib.hid hn
  have HM := Lib.hid hm
  have HLB := Lib.hid hlb
  have K0 := Lib.hid k0
  have HS2 := Lib.hid hS2
  have hgS : g < S := by omega
  have hap : apN d ep n l = if apE d ep n l = 0 then ((apD d ep n l).log.length : Int) else 0 := rfl
  have HAP := Lib.hid hap
  clear h hB h1 h2 hn hm k0 k1 k2 hlb hS2 hl hap
  go_enter Tryd.func10, Tryd.ntmps10
  go_wp2_with fail
  rw [← hwb, ← hS]
  refine H2.out.mono ?_
  rintro e w' ⟨rfl, y', hd', hf'⟩
  have hw' := hf'.ch.size
  rw [HS2.out] at hw'
  have q0 : w'.cell? ⟨S, 0, none⟩ = some (.pointer (some ⟨g, 0, none⟩)) := (blk_get (hf'.keep (k := S) (by rw [HS2.out]; omega) (by omega) (fun e => by have := HLB.out _ e; omega)).1).trans K0.out
  have c4 := hd'.c4
  have HD' := Lib.hid hd'
  have HF' := Lib.hid ((Foot.of_no HN.out g y).trans hf')
  clear hd' hf' hwb hS H2 hA
  generalize hFe : apE d ep n l = F at HAP ⊢
  generalize hDe : apD d ep n l = D at HAP HD' c4 ⊢
  have HFE := Lib.hid hFe
  have HDE := Lib.hid hDe
  clear hFe hDe
  by_cases hF : F = 0
  · have HX := Lib.hid (HAP.out.trans (if_pos hF))
    subst hF
    clear HAP
    go_wp2_with fail
    go_ret2
    exact ⟨by rw [HX.out, HFE.out]; rfl, y', by rw [HDE.out]; exact HD'.out, HF'.out⟩
  · have HX := Lib.hid (HAP.out.trans (if_neg hF))
    have hF' : (F != 0) = true := by rw [bne_iff_ne]; exact hF
    clear HAP hF
    go_wp2_with fail
    go_ret2
    exact ⟨by rw [HX.out, HFE.out]; rfl, y', by rw [HDE.out]; exact HD'.out, HF'.out⟩
end Go.Proofs.YtpkefkoimlecjaaDoor
