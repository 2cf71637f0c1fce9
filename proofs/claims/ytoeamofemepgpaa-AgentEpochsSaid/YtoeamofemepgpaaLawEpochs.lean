/- Chapter 20: AgentEpochs. -/
import Derived.Test.YtoeamofemepgpaaAwk20
namespace Go.Proofs.Ytoeamofemepgpaa
open Go.RowKit

def gE : Nat → Int := fun k => if k = 0 then 1 else 0
def sE0 : Ag := Ag.new 3 gE []
def sE1 : Ag := sE0.boots 0
def sE (e t : Int) : Ag := { sE1 with tick := t, since := 1, until_ := 25, epoch := e }
def pE : Pt := ⟨1, 1, 0, 0, 0, 0, 3, 4, 12, 0, false, false, 0⟩
def sE5 (e : Int) : Ag := { sE e 3 with ps := [pE] }
def sE7 (e : Int) : Ag := (sE5 e).downs.boots 3
theorem ep1 : sE0.bootA 0 = sE1 := (bootA_ok (s := sE0) ⟨by decide, by decide⟩ rfl).1
theorem ep2 {e : Int} (h : 1 ≤ e ∧ e ≤ 1099511627776) : sE1.hears (mk 2 e 3 0 1 25 0 0 0 0 0 0 0 0 0) 0 1 = sE e 1 :=
  hears_yes (s := sE1) ⟨by decide, by decide⟩ rfl ⟨.inl rfl, okGrant ⟨by omega, h.2⟩ (by decide) (by decide) (by decide), rfl, by show (0 : Int) ≤ e; omega⟩
theorem ep3 {e d : Int} (h : d < e) : (sE e 1).hears (mk 2 d 3 0 1 30 0 0 0 0 0 0 0 0 0) 0 2 = sE e 2 :=
  hears_no (s := sE e 1) ⟨by show (1 : Int) ≤ 2; decide, by decide⟩ rfl (fun hk => by have : e ≤ d := hk.2.2.2; omega)
theorem ep4 {e nd : Int} (h : nd ≠ 3) : (sE e 2).hears (mk 2 e nd 0 1 30 0 0 0 0 0 0 0 0 0) 0 2 = sE e 2 :=
  hears_no (s := sE e 2) ⟨by show (2 : Int) ≤ 2; decide, by decide⟩ rfl (fun hk => h hk.2.2.1)
theorem ep5 {e d : Int} (h : d < e) : (sE e 2).hears (mk 3 d 3 0 0 0 1 1 2 9 0 0 0 0 0) 0 3 = sE e 3 :=
  hears_no (s := sE e 2) ⟨by show (2 : Int) ≤ 3; decide, by decide⟩ rfl (fun hk => by have : e ≤ d := hk.2.2.2; omega)
theorem ep6 {e : Int} (h : 1 ≤ e ∧ e ≤ 1099511627776) : (sE e 3).hears (mk 3 e 3 0 0 0 1 1 2 9 0 0 0 0 0) 0 3 = sE5 e :=
  hears_yes (s := sE e 3) ⟨by show (3 : Int) ≤ 3; decide, by decide⟩ rfl ⟨.inr (.inl rfl), okLaunch ⟨by omega, h.2⟩ (by decide) (by decide) (by decide) (by decide) (by decide) (by decide) (by decide) (by decide) (by decide), rfl, Int.le_refl e⟩
theorem ep7 (e : Int) : (sE5 e).downs.bootA 3 = sE7 e ∧ (sE5 e).downs.bootE 3 = 0 := bootA_ok (s := (sE5 e).downs) ⟨by show (3 : Int) ≤ 3; decide, by decide⟩ rfl
theorem ep8 (e : Int) : (sE7 e).bootA 3 = sE7 e ∧ (sE7 e).bootE 3 = 100 := bootA_up (s := sE7 e) ⟨by show (3 : Int) ≤ 3; decide, by decide⟩ rfl
theorem fE (e : Int) : Fine sE0 0 ∧ Fine sE1 0 ∧ Fine (sE e 1) 0 ∧ Fine (sE e 2) 0 ∧ Fine (sE e 3) 0 ∧ Fine (sE5 e) 1 ∧ Fine (sE7 e) 1 := by
  have f0 : Fine sE0 0 := fine_new 3 gE [] (by decide)
  have f1 : Fine sE1 0 := by rw [← ep1]; exact fine_boot f0
  have f2 : ∀ t : Int, 0 ≤ t → t ≤ 1099511627776 → Fine (sE e t) 0 := fun t h1 h2 => ⟨⟨h1, h2⟩, f1.small, f1.ats, f1.work, f1.len⟩
  have f5 : Fine (sE5 e) 1 := ⟨(f2 3 (by decide) (by decide)).tick, fun p hp => by
      have : p = pE := by simpa [sE5] using hp
      subst this; exact ⟨by decide, by decide, by decide, by decide⟩, ⟨f1.ats.1, fun p hp => by
      have : p = pE := by simpa [sE5] using hp
      subst this; exact ⟨by decide, by decide⟩⟩, f1.work, Nat.le_refl 1⟩
  exact ⟨f0, f1, f2 1 (by decide) (by decide), f2 2 (by decide) (by decide), f2 3 (by decide) (by decide), f5, by rw [← (ep7 e).1]; exact fine_boot (fine_down f5)⟩
set_option maxRecDepth 10000 in
set_option maxHeartbeats 4000000 in
theorem epochs_out (w : World) (e d nd : Int) (h : e < 1 ∨ 1099511627776 < e ∨ d < 0 ∨ e ≤ d ∨ nd < 0 ∨ 15 < nd ∨ nd = 3) :
    Calls Try.prog 6 #[.int .i64 e, .int .i64 d, .int .i64 nd] w fun e w' => e = .returned (.bool true) ∧ Below w.heap.size w w' := by
  have hc : e < 1 ∨ (¬ e < 1 ∧ 1099511627776 < e) ∨ (¬ e < 1 ∧ ¬ 1099511627776 < e ∧ d < 0) ∨ (¬ e < 1 ∧ ¬ 1099511627776 < e ∧ ¬ d < 0 ∧ e ≤ d) ∨ (¬ e < 1 ∧ ¬ 1099511627776 < e ∧ ¬ d < 0 ∧ ¬ e ≤ d ∧ nd < 0) ∨ (¬ e < 1 ∧ ¬ 1099511627776 < e ∧ ¬ d < 0 ∧ ¬ e ≤ d ∧ ¬ nd < 0 ∧ 15 < nd) ∨ (¬ e < 1 ∧ ¬ 1099511627776 < e ∧ ¬ d < 0 ∧ ¬ e ≤ d ∧ ¬ nd < 0 ∧ ¬ 15 < nd ∧ nd = 3) := by omega
  clear h
  go_enter Try.func6, Try.ntmps6
  go_upto_region 4 with (go_at_call 8; refine (awake_any w).mono ?_; rintro e w2 ⟨rfl, hb⟩; have HB2 := Lib.hid hb; clear hb)
  rcases hc with h | ⟨h1, h⟩ | ⟨h1, h2, h⟩ | ⟨h1, h2, h3, h⟩ | ⟨h1, h2, h3, h4, h⟩ | ⟨h1, h2, h3, h4, h5, h⟩ | ⟨h1, h2, h3, h4, h5, h6, h⟩
  all_goals
    go_wp2_with fail
    go_ret
    exact ⟨rfl, HB2.out⟩
set_option maxRecDepth 10000 in
set_option maxHeartbeats 8000000 in
theorem epochs_in (w : World) (e d nd : Int) (he : 1 ≤ e ∧ e ≤ 1099511627776) (hd : 0 ≤ d ∧ d < e) (hnd : 0 ≤ nd ∧ nd ≤ 15 ∧ nd ≠ 3) :
    Calls Try.prog 6 #[.int .i64 e, .int .i64 d, .int .i64 nd] w fun e w' => e = .returned (.bool true) ∧ Below w.heap.size w w' := by
  have HF := Lib.hid (fE e)
  go_enter Try.func6, Try.ntmps6
  go_upto_region 4 with (go_at_call 8; refine (awake_any w).mono ?_; rintro e w1 ⟨rfl, hb⟩; have HB1 := Lib.hid hb; clear hb)
  have c1 : ¬ e < 1 := by omega
  have c2 : ¬ 1099511627776 < e := by omega
  have c3 : ¬ d < 0 := by omega
  have c4 : ¬ e ≤ d := by omega
  have c5 : ¬ nd < 0 := by omega
  have c6 : ¬ 15 < nd := by omega
  have c7 : ¬ nd = 3 := hnd.2.2
  have HNEW := Lib.hid (new_ok w1 3 gE none 0 0 [] (by decide) (by decide) rfl ⟨rfl, .inl rfl⟩ rfl (by decide) (fun _ => ⟨rfl, rfl⟩))
  go_upto_region 7 with (go_at_call 9; refine HNEW.out.mono ?_; clear HNEW; rintro e w2 ⟨A, L, rfl, ha, hb, ho⟩; have HL2 : Hid (Lives w w2 A L sE0) := Lib.hid ⟨ha, fun k hk => Nat.le_trans HB1.out.size (ho k hk), HB1.out.trans (hb.mono HB1.out.size)⟩; clear ha hb ho HB1)
  go_upto_region 8 with (go_at_call 10; refine (boot_any w2 HL2.out.at_ 0).mono ?_; rintro e w3 ⟨rfl, hl⟩; rw [ep1] at hl; obtain ⟨L3, hl3, _, _⟩ := HL2.out.left hl; have HL3 := Lib.hid hl3; clear hl hl3 HL2)
  clear c1 c2 c3 c4 c5 c6 c7
  obtain ⟨P, hP⟩ : ∃ x, x = w3.heap.size := ⟨_, rfl⟩
  have hn3 : ¬ L3.own A P := fun ho => by have := HL3.out.at_.own_lt ho; omega
  have hw4 : (w3.alloc (.cells #[.int .i64 2, .int .i64 e, .int .i64 3, .int .i64 0, .int .i64 1, .int .i64 25, .int .i64 0, .int .i64 0, .int .i64 0, .int .i64 0, .int .i64 0, .int .i64 0, .int .i64 0, .int .i64 0, .int .i64 0, .int .i64 0, .int .i64 0, .slice none 0 0, .int .i64 0, .int .i64 0, .int .i64 0] 35)).heap[P]? = some (.cells #[.int .i64 2, .int .i64 e, .int .i64 3, .int .i64 0, .int .i64 1, .int .i64 25, .int .i64 0, .int .i64 0, .int .i64 0, .int .i64 0, .int .i64 0, .int .i64 0, .int .i64 0, .int .i64 0, .int .i64 0, .int .i64 0, .int .i64 0, .slice none 0 0, .int .i64 0, .int .i64 0, .int .i64 0] 35 (0, 0)) := by rw [hP]; exact heap_alloc_new w3 _
  have HL4 : Hid (Lives w (w3.alloc (.cells #[.int .i64 2, .int .i64 e, .int .i64 3, .int .i64 0, .int .i64 1, .int .i64 25, .int .i64 0, .int .i64 0, .int .i64 0, .int .i64 0, .int .i64 0, .int .i64 0, .int .i64 0, .int .i64 0, .int .i64 0, .int .i64 0, .int .i64 0, .slice none 0 0, .int .i64 0, .int .i64 0, .int .i64 0] 35)) A L3 sE1) := Lib.hid (HL3.out.below ((Below.refl _ _).alloc (Nat.le_refl _) _))
  have HP4 := Lib.hid hw4
  have HN4 := Lib.hid hn3
  have HPB : Hid (w.heap.size ≤ P) := Lib.hid (by rw [hP]; exact HL3.out.bel.size)
  clear hw4 hn3 HL3
  go_upto_region 9 with (refine wpList_store_row rfl 35 (.tmp 9) (.tmp 54) rfl w3.heap.size _ rfl rfl 35 _ (heap_alloc_new w3 _) (by kernel_rfl) rfl (by simp [Value.oneCell']) ?_; rw [World.setRow_alloc_new])
  rw [← hP]
  generalize w3.alloc (.cells #[.int .i64 2, .int .i64 e, .int .i64 3, .int .i64 0, .int .i64 1, .int .i64 25, .int .i64 0, .int .i64 0, .int .i64 0, .int .i64 0, .int .i64 0, .int .i64 0, .int .i64 0, .int .i64 0, .int .i64 0, .int .i64 0, .int .i64 0, .slice none 0 0, .int .i64 0, .int .i64 0, .int .i64 0] 35) = w4 at *
  obtain ⟨L4, hL4⟩ : ∃ x, x = L3 := ⟨_, rfl⟩
  rw [← hL4] at HL4 HN4
  clear hL4 hP
  go_upto_region 10 with (first | (refine wpList_load_row rfl 35 (.tmp 9) rfl P rfl 35 #[.int .i64 2, .int .i64 e, .int .i64 3, .int .i64 0, .int .i64 1, .int .i64 25, .int .i64 0, .int .i64 0, .int .i64 0, .int .i64 0, .int .i64 0, .int .i64 0, .int .i64 0, .int .i64 0, .int .i64 0, .int .i64 0, .int .i64 0, .slice none 0 0, .int .i64 0, .int .i64 0, .int .i64 0] (0, 0) _ HP4.out Try.underlying35 rfl (by kernel_rfl) ?_) | (go_at_call 11; refine (hear_any w4 HL4.out.at_ HF.out.2.1 (by decide) 1 (mk 2 e 3 0 1 25 0 0 0 0 0 0 0 0 0) none 0 0 _ rfl).mono ?_; rintro e w5 ⟨⟨r, rfl⟩, hl⟩; rw [ep2 he] at hl; obtain ⟨L5, hl2, hc2, hg2⟩ := HL4.out.left hl; have HL5 := Lib.hid hl2; have HP5 : Hid (w5.heap[P]? = some (.cells #[.int .i64 2, .int .i64 e, .int .i64 3, .int .i64 0, .int .i64 1, .int .i64 25, .int .i64 0, .int .i64 0, .int .i64 0, .int .i64 0, .int .i64 0, .int .i64 0, .int .i64 0, .int .i64 0, .int .i64 0, .int .i64 0, .int .i64 0, .slice none 0 0, .int .i64 0, .int .i64 0, .int .i64 0] 35 (0, 0))) := Lib.hid ((hc2.block P (ltb HP4.out) HN4.out).trans HP4.out); have HN5 : Hid (¬ L5.own A P) := Lib.hid (fun ho => (hg2 P ho).elim HN4.out (fun h => by have := ltb HP4.out; omega)); clear hl hl2 hc2 hg2 HL4 HP4 HN4))
  have hs1 : (w5.setCell ⟨P, 1, none⟩ (.int .i64 d)).heap[P]? = some (.cells #[.int .i64 2, .int .i64 d, .int .i64 3, .int .i64 0, .int .i64 1, .int .i64 25, .int .i64 0, .int .i64 0, .int .i64 0, .int .i64 0, .int .i64 0, .int .i64 0, .int .i64 0, .int .i64 0, .int .i64 0, .int .i64 0, .int .i64 0, .slice none 0 0, .int .i64 0, .int .i64 0, .int .i64 0] 35 (0, 0)) := set_blk (i := 1) HP5.out _
  have hcs : Chg (fun k => k = P) w5 (w5.setCell ⟨P, 1, none⟩ (.int .i64 d)) := (Chg.refl (fun k => k = P) w5).setCell (p := ⟨P, 1, none⟩) (.inr rfl) _
  have hl1 : Lives w (w5.setCell ⟨P, 1, none⟩ (.int .i64 d)) A L5 (sE e 1) := ⟨HL5.out.at_.chg hcs (fun k hk ho => HN5.out (hk ▸ ho)), HL5.out.low, HL5.out.bel.trans (hcs.below HL5.out.bel.size (fun k hk e => by have := HPB.out; omega))⟩
  have HX1 := Lib.hid hs1
  have HX2 := Lib.hid hl1
  have c0 : w5.cell? ⟨P, 1, none⟩ = some (.int .i64 e) := cellb (i := 1) HP5.out rfl
  have z0 : w5.frozen? ⟨P, 1, none⟩ = false := fzb HP5.out 1
  clear hs1 hcs hl1 HP5 HL5
  go_upto_region 11 with fail
  clear c0 z0
  generalize w5.setCell ⟨P, 1, none⟩ (.int .i64 d) = w6 at *
  have HP6 := HX1
  have HL6 := HX2
  have HN6 := HN5
  obtain ⟨L6, hLq⟩ : ∃ x, x = L5 := ⟨_, rfl⟩
  rw [← hLq] at HL6 HN6
  clear hLq HX1 HX2 HN5
  have hs1 : (w6.setCell ⟨P, 5, none⟩ (.int .i64 30)).heap[P]? = some (.cells #[.int .i64 2, .int .i64 d, .int .i64 3, .int .i64 0, .int .i64 1, .int .i64 30, .int .i64 0, .int .i64 0, .int .i64 0, .int .i64 0, .int .i64 0, .int .i64 0, .int .i64 0, .int .i64 0, .int .i64 0, .int .i64 0, .int .i64 0, .slice none 0 0, .int .i64 0, .int .i64 0, .int .i64 0] 35 (0, 0)) := set_blk (i := 5) HP6.out _
  have hcs : Chg (fun k => k = P) w6 (w6.setCell ⟨P, 5, none⟩ (.int .i64 30)) := (Chg.refl (fun k => k = P) w6).setCell (p := ⟨P, 5, none⟩) (.inr rfl) _
  have hl1 : Lives w (w6.setCell ⟨P, 5, none⟩ (.int .i64 30)) A L6 (sE e 1) := ⟨HL6.out.at_.chg hcs (fun k hk ho => HN6.out (hk ▸ ho)), HL6.out.low, HL6.out.bel.trans (hcs.below HL6.out.bel.size (fun k hk e => by have := HPB.out; omega))⟩
  have HX1 := Lib.hid hs1
  have HX2 := Lib.hid hl1
  have c0 : w6.cell? ⟨P, 5, none⟩ = some (.int .i64 25) := cellb (i := 5) HP6.out rfl
  have z0 : w6.frozen? ⟨P, 5, none⟩ = false := fzb HP6.out 5
  clear hs1 hcs hl1 HP6 HL6
  go_upto_region 12 with fail
  clear c0 z0
  generalize w6.setCell ⟨P, 5, none⟩ (.int .i64 30) = w7 at *
  have HP7 := HX1
  have HL7 := HX2
  have HN7 := HN6
  obtain ⟨L7, hLq⟩ : ∃ x, x = L6 := ⟨_, rfl⟩
  rw [← hLq] at HL7 HN7
  clear hLq HX1 HX2 HN6
  go_upto_region 13 with (first | (refine wpList_load_row rfl 35 (.tmp 9) rfl P rfl 35 #[.int .i64 2, .int .i64 d, .int .i64 3, .int .i64 0, .int .i64 1, .int .i64 30, .int .i64 0, .int .i64 0, .int .i64 0, .int .i64 0, .int .i64 0, .int .i64 0, .int .i64 0, .int .i64 0, .int .i64 0, .int .i64 0, .int .i64 0, .slice none 0 0, .int .i64 0, .int .i64 0, .int .i64 0] (0, 0) _ HP7.out Try.underlying35 rfl (by kernel_rfl) ?_) | (go_at_call 11; refine (hear_any w7 HL7.out.at_ HF.out.2.2.1 (by decide) 2 (mk 2 d 3 0 1 30 0 0 0 0 0 0 0 0 0) none 0 0 _ rfl).mono ?_; rintro e w8 ⟨⟨r, rfl⟩, hl⟩; rw [ep3 hd.2] at hl; obtain ⟨L8, hl2, hc2, hg2⟩ := HL7.out.left hl; have HL8 := Lib.hid hl2; have HP8 : Hid (w8.heap[P]? = some (.cells #[.int .i64 2, .int .i64 d, .int .i64 3, .int .i64 0, .int .i64 1, .int .i64 30, .int .i64 0, .int .i64 0, .int .i64 0, .int .i64 0, .int .i64 0, .int .i64 0, .int .i64 0, .int .i64 0, .int .i64 0, .int .i64 0, .int .i64 0, .slice none 0 0, .int .i64 0, .int .i64 0, .int .i64 0] 35 (0, 0))) := Lib.hid ((hc2.block P (ltb HP7.out) HN7.out).trans HP7.out); have HN8 : Hid (¬ L8.own A P) := Lib.hid (fun ho => (hg2 P ho).elim HN7.out (fun h => by have := ltb HP7.out; omega)); clear hl hl2 hc2 hg2 HL7 HP7 HN7))
  have hs1 : (w8.setCell ⟨P, 1, none⟩ (.int .i64 e)).heap[P]? = some (.cells #[.int .i64 2, .int .i64 e, .int .i64 3, .int .i64 0, .int .i64 1, .int .i64 30, .int .i64 0, .int .i64 0, .int .i64 0, .int .i64 0, .int .i64 0, .int .i64 0, .int .i64 0, .int .i64 0, .int .i64 0, .int .i64 0, .int .i64 0, .slice none 0 0, .int .i64 0, .int .i64 0, .int .i64 0] 35 (0, 0)) := set_blk (i := 1) HP8.out _
  have hcs : Chg (fun k => k = P) w8 (w8.setCell ⟨P, 1, none⟩ (.int .i64 e)) := (Chg.refl (fun k => k = P) w8).setCell (p := ⟨P, 1, none⟩) (.inr rfl) _
  have hl1 : Lives w (w8.setCell ⟨P, 1, none⟩ (.int .i64 e)) A L8 (sE e 2) := ⟨HL8.out.at_.chg hcs (fun k hk ho => HN8.out (hk ▸ ho)), HL8.out.low, HL8.out.bel.trans (hcs.below HL8.out.bel.size (fun k hk e => by have := HPB.out; omega))⟩
  have HX1 := Lib.hid hs1
  have HX2 := Lib.hid hl1
  have c0 : w8.cell? ⟨P, 1, none⟩ = some (.int .i64 d) := cellb (i := 1) HP8.out rfl
  have z0 : w8.frozen? ⟨P, 1, none⟩ = false := fzb HP8.out 1
  clear hs1 hcs hl1 HP8 HL8
  go_upto_region 14 with fail
  clear c0 z0
  generalize w8.setCell ⟨P, 1, none⟩ (.int .i64 e) = w9 at *
  have HP9 := HX1
  have HL9 := HX2
  have HN9 := HN8
  obtain ⟨L9, hLq⟩ : ∃ x, x = L8 := ⟨_, rfl⟩
  rw [← hLq] at HL9 HN9
  clear hLq HX1 HX2 HN8
  have hs1 : (w9.setCell ⟨P, 2, none⟩ (.int .i64 nd)).heap[P]? = some (.cells #[.int .i64 2, .int .i64 e, .int .i64 nd, .int .i64 0, .int .i64 1, .int .i64 30, .int .i64 0, .int .i64 0, .int .i64 0, .int .i64 0, .int .i64 0, .int .i64 0, .int .i64 0, .int .i64 0, .int .i64 0, .int .i64 0, .int .i64 0, .slice none 0 0, .int .i64 0, .int .i64 0, .int .i64 0] 35 (0, 0)) := set_blk (i := 2) HP9.out _
  have hcs : Chg (fun k => k = P) w9 (w9.setCell ⟨P, 2, none⟩ (.int .i64 nd)) := (Chg.refl (fun k => k = P) w9).setCell (p := ⟨P, 2, none⟩) (.inr rfl) _
  have hl1 : Lives w (w9.setCell ⟨P, 2, none⟩ (.int .i64 nd)) A L9 (sE e 2) := ⟨HL9.out.at_.chg hcs (fun k hk ho => HN9.out (hk ▸ ho)), HL9.out.low, HL9.out.bel.trans (hcs.below HL9.out.bel.size (fun k hk e => by have := HPB.out; omega))⟩
  have HX1 := Lib.hid hs1
  have HX2 := Lib.hid hl1
  have c0 : w9.cell? ⟨P, 2, none⟩ = some (.int .i64 3) := cellb (i := 2) HP9.out rfl
  have z0 : w9.frozen? ⟨P, 2, none⟩ = false := fzb HP9.out 2
  clear hs1 hcs hl1 HP9 HL9
  go_upto_region 15 with fail
  clear c0 z0
  generalize w9.setCell ⟨P, 2, none⟩ (.int .i64 nd) = w10 at *
  have HP10 := HX1
  have HL10 := HX2
  have HN10 := HN9
  obtain ⟨L10, hLq⟩ : ∃ x, x = L9 := ⟨_, rfl⟩
  rw [← hLq] at HL10 HN10
  clear hLq HX1 HX2 HN9
  go_upto_region 16 with (first | (refine wpList_load_row rfl 35 (.tmp 9) rfl P rfl 35 #[.int .i64 2, .int .i64 e, .int .i64 nd, .int .i64 0, .int .i64 1, .int .i64 30, .int .i64 0, .int .i64 0, .int .i64 0, .int .i64 0, .int .i64 0, .int .i64 0, .int .i64 0, .int .i64 0, .int .i64 0, .int .i64 0, .int .i64 0, .slice none 0 0, .int .i64 0, .int .i64 0, .int .i64 0] (0, 0) _ HP10.out Try.underlying35 rfl (by kernel_rfl) ?_) | (go_at_call 11; refine (hear_any w10 HL10.out.at_ HF.out.2.2.2.1 (by decide) 2 (mk 2 e nd 0 1 30 0 0 0 0 0 0 0 0 0) none 0 0 _ rfl).mono ?_; rintro e w11 ⟨⟨r, rfl⟩, hl⟩; rw [ep4 hnd.2.2] at hl; obtain ⟨L11, hl2, hc2, hg2⟩ := HL10.out.left hl; have HL11 := Lib.hid hl2; have HP11 : Hid (w11.heap[P]? = some (.cells #[.int .i64 2, .int .i64 e, .int .i64 nd, .int .i64 0, .int .i64 1, .int .i64 30, .int .i64 0, .int .i64 0, .int .i64 0, .int .i64 0, .int .i64 0, .int .i64 0, .int .i64 0, .int .i64 0, .int .i64 0, .int .i64 0, .int .i64 0, .slice none 0 0, .int .i64 0, .int .i64 0, .int .i64 0] 35 (0, 0))) := Lib.hid ((hc2.block P (ltb HP10.out) HN10.out).trans HP10.out); have HN11 : Hid (¬ L11.own A P) := Lib.hid (fun ho => (hg2 P ho).elim HN10.out (fun h => by have := ltb HP10.out; omega)); clear hl hl2 hc2 hg2 HL10 HP10 HN10))
  have hlv : (sE e 2).leaseV = (1, 25) := rfl
  have HLV := Lib.hid hlv
  clear hlv
  go_upto_region 17 with (go_at_call 19; refine (lease_ag w11 HL11.out.at_).mono ?_; rintro e wa ⟨rfl, hb⟩; rw [HLV.out]; have HLa := Lib.hid (HL11.out.below hb); clear hb HL11 HP11 HN11)
  go_upto_region 18 with (go_at_call 11; refine (hear_any wa HLa.out.at_ HF.out.2.2.2.1 (by decide) 3 (mk 3 d 3 0 0 0 1 1 2 9 0 0 0 0 0) none 0 0 _ rfl).mono ?_; rintro e wb ⟨⟨r, rfl⟩, hl⟩; rw [ep5 hd.2] at hl; obtain ⟨Lb, hl2, _, _⟩ := HLa.out.left hl; have HLb := Lib.hid hl2; clear hl hl2 HLa)
  have e1 : (sE e 3).runsAt 3 = [] := rfl
  have e2 : (sE5 e).runsAt 3 = [pE] := rfl
  have e3 : (sE5 e).downs.runsAt 3 = [] := rfl
  have e4 : (sE7 e).runsAt 3 = [] := rfl
  have E1 := Lib.hid e1
  have E2 := Lib.hid e2
  have E3 := Lib.hid e3
  have E4 := Lib.hid e4
  have hl5 : (sE7 e).leaseV = (3 - 3, 0) := rfl
  have HLV5 : Hid ((sE7 e).leaseV = (0, 0)) := Lib.hid rfl
  clear e1 e2 e3 e4 hl5 HLV
  go_upto_region 19 with (go_at_call 12; refine (running_ag wb HLb.out.at_ (Nat.le_of_ble_eq_true rfl) 3).mono ?_; rintro e wc ⟨RA, rc, rfl, hr, hb⟩; rw [E1.out]; have HLc := Lib.hid (HLb.out.below hb); clear hr hb HLb)
  go_upto_region 20 with (go_at_call 11; refine (hear_any wc HLc.out.at_ HF.out.2.2.2.2.1 (by decide) 3 (mk 3 e 3 0 0 0 1 1 2 9 0 0 0 0 0) none 0 0 _ rfl).mono ?_; rintro e wd ⟨⟨r, rfl⟩, hl⟩; rw [ep6 he] at hl; obtain ⟨Ld, hl2, _, _⟩ := HLc.out.left hl; have HLd := Lib.hid hl2; clear hl hl2 HLc)
  go_upto_region 21 with (go_at_call 12; refine (running_ag wd HLd.out.at_ (Nat.le_of_ble_eq_true rfl) 3).mono ?_; rintro e we ⟨RA2, rc2, rfl, hr, hb⟩; rw [E2.out]; have HLe := Lib.hid (HLd.out.below hb); clear hr hb HLd)
  go_upto_region 22 with (go_at_call 20; refine (crash_ag we HLe.out.at_).mono ?_; rintro e wf ⟨⟨r, rfl⟩, ha, hc⟩; have HLf := Lib.hid (HLe.out.chg ha hc); clear ha hc HLe)
  go_upto_region 23 with (go_at_call 12; refine (running_ag wf HLf.out.at_ (Nat.le_of_ble_eq_true rfl) 3).mono ?_; rintro e wg ⟨RA3, rc3, rfl, hr, hb⟩; rw [E3.out]; have HLg := Lib.hid (HLf.out.below hb); clear hr hb HLf)
  go_upto_region 24 with (go_at_call 10; refine (boot_any wg HLg.out.at_ 3).mono ?_; rintro e wh ⟨rfl, hl⟩; rw [(ep7 _).1] at hl; rw [(ep7 _).2]; obtain ⟨Lh, hl2, _, _⟩ := HLg.out.left hl; have HLh := Lib.hid hl2; clear hl hl2 HLg)
  go_upto_region 25 with (go_at_call 10; refine (boot_any wh HLh.out.at_ 3).mono ?_; rintro e wi ⟨rfl, hl⟩; rw [(ep8 _).1] at hl; rw [(ep8 _).2]; obtain ⟨Li, hl2, _, _⟩ := HLh.out.left hl; have HLi := Lib.hid hl2; clear hl hl2 HLh)
  go_upto_region 26 with (go_at_call 19; refine (lease_ag wi HLi.out.at_).mono ?_; rintro e wj ⟨rfl, hb⟩; rw [HLV5.out]; have HLj := Lib.hid (HLi.out.below hb); clear hb HLi)
  go_wp2_with (go_at_call 12; refine (running_ag wj HLj.out.at_ (Nat.le_of_ble_eq_true rfl) 3).mono ?_; rintro e wk ⟨RA4, rc4, rfl, hr, hb⟩; rw [E4.out]; have HLk := Lib.hid (HLj.out.below hb); clear hr hb HLj)
  go_ret
  exact ⟨rfl, HLk.out.bel⟩
theorem law_epochs (w : World) (e d nd : Int) :
    Calls Try.prog 6 #[.int .i64 e, .int .i64 d, .int .i64 nd] w fun e w' => e = .returned (.bool true) ∧ Below w.heap.size w w' := by
  by_cases h : e < 1 ∨ 1099511627776 < e ∨ d < 0 ∨ e ≤ d ∨ nd < 0 ∨ 15 < nd ∨ nd = 3
  · exact epochs_out w e d nd h
  · exact epochs_in w e d nd (by omega) (by omega) (by omega)
end Go.Proofs.Ytoeamofemepgpaa
