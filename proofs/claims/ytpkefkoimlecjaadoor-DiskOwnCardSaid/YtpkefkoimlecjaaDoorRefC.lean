/- The document's disk: Commit. -/
import Derived.Test.YtpkefkoimlecjaaDoorRefB
import Derived.Test.YtpkefkoimlecjaaDoorRefSum
import Derived.Laws.IdiomStrings
namespace Go.Proofs.YtpkefkoimlecjaaDoor
open Go.RowKit

/-- A text as bytes of its own. -/
theorem conv_sb (l : List UInt8) (w : World) (hl : l.length ≤ 1048576) : ∃ c o, (convert 9 22 (.string (str l))).run Tryd.prog w = .ok (.slice (some ⟨w.heap.size, 0, none⟩) l.length c) (w.drew.alloc o) ∧ BytesIn (w.drew.alloc o) (w.heap.size + 1) (some ⟨w.heap.size, 0, none⟩) c l := by
  have h := run_bytes_of_string (P := Tryd.prog) w 9 22 5 (str l) Tryd.underlying9 Tryd.underlying22 Tryd.underlying5
  rw [str_size] at h
  refine ⟨_, _, h, ⟨grownCap_ge w l.length 0 5, grownCap_le_maxLen w l.length 0 5 (by simp only [maxLen]; omega), .inr ⟨w.heap.size, 0, rfl, by omega, fun i hi => ?_⟩⟩⟩
  have hn := heap_alloc_new w.drew (.cells (bytesRow (str l) (grownCap w l.length 0 5)) 5 ((bytesRow (str l) (grownCap w l.length 0 5)).size, (bytesRow (str l) (grownCap w l.length 0 5)).size + 1))
  have hd : w.drew.heap.size = w.heap.size := rfl
  rw [hd] at hn
  simp only [World.cell?, hn]
  simp only [bytesRow, str, List.map_toArray, Nat.zero_add]
  rw [Array.getElem?_append_left (by simpa using hi)]
  simp [hi]

set_option maxHeartbeats 1000000 in
theorem rcommit_any (d : Dk) (ep sum i : Int) (w : World) (hl : d.log.length ≤ 1048576) (hs : d.staged.length ≤ 1048576) :
    Calls Tryd.prog 34 #[rv d, .int .i64 ep, .int .u32 sum, .int .i64 i] w fun e w' => e = .returned (.tuple #[rv (comD d ep sum i), .int .i64 (comE d ep sum i)]) ∧ Below w.heap.size w w' := by
  obtain ⟨room, cl, log, snap, staged, cut, at_⟩ := d
  simp only at hl hs
  have hz : (str log).size = log.length := str_size log
  by_cases he : ep = cl.e
  · obtain ⟨c, o, hc, hb⟩ := conv_sb staged ((w.alloc (.cells #[.int .i64 (room : Int), .int .i64 cl.e, .int .i64 cl.h, .int .i64 cl.u, .string (str log), .string (str snap), .string (str staged), .bool cut, .int .i64 at_] 43)).alloc (.cells #[.int .i64 0, .int .i64 0, .int .i64 0, .int .i64 0, .string ⟨#[]⟩, .string ⟨#[]⟩, .string ⟨#[]⟩, .bool false, .int .i64 0] 43)) hs
    have HB := Lib.hid (rsum_n _ c _ staged _ _ hb rfl)
    have hsz : ∀ X Y, ((w.alloc X).alloc Y).heap.size = w.heap.size + 1 + 1 := fun X Y => by simp
    rw [hsz] at hc HB
    clear hsz hb hs
    by_cases hq : (crc staged : Int) = sum
    · revert HB hq
      by_cases h2 : i < 0 ∨ (log.length : Int) < i
      · have e1 : ∀ _ : (crc staged : Int) = sum, comE ⟨room, cl, log, snap, staged, cut, at_⟩ ep sum i = 151 := fun hq => by unfold comE cmE; rw [if_pos he, if_pos hq, if_pos h2]
        have e2 : ∀ _ : (crc staged : Int) = sum, comD ⟨room, cl, log, snap, staged, cut, at_⟩ ep sum i = ⟨room, cl, log, snap, staged, cut, at_⟩ := fun hq => by unfold comD cmD; rw [if_pos he, if_pos hq, if_pos h2]
        intro HB hq
        rw [e1 hq, e2 hq]
        subst hq he
        clear e1 e2
        revert HB
        generalize (crc staged : Int) = K
        intro HB
        unfold rv
        simp only
        rcases h2 with h3 | h3
        · go_enter Tryd.func34, Tryd.ntmps34
          go_wp2_with fail
          refine HB.out.mono ?_
          rintro e w' ⟨rfl, rfl⟩
          clear HB hc
          go_wp2_with fail
          refine bodyPost_ret (v := .tuple #[.agg #[.int .i64 (room : Int), .int .i64 cl.e, .int .i64 cl.h, .int .i64 cl.u, .string (str log), .string (str snap), .string (str staged), .bool cut, .int .i64 at_], .int .i64 151]) (by simp [results, Tryd.results34, go_sem]) rfl ⟨rfl, ?_⟩
          exact ((((Below.refl w.heap.size w).alloc (Nat.le_refl _) _).alloc (by simp) _).drew.alloc (by simp <;> omega) _)
        · have h4 : ¬ i < 0 := by omega
          go_enter Tryd.func34, Tryd.ntmps34
          go_wp2_with fail
          refine HB.out.mono ?_
          rintro e w' ⟨rfl, rfl⟩
          clear HB hc
          go_wp2_with fail
          refine bodyPost_ret (v := .tuple #[.agg #[.int .i64 (room : Int), .int .i64 cl.e, .int .i64 cl.h, .int .i64 cl.u, .string (str log), .string (str snap), .string (str staged), .bool cut, .int .i64 at_], .int .i64 151]) (by simp [results, Tryd.results34, go_sem]) rfl ⟨rfl, ?_⟩
          exact ((((Below.refl w.heap.size w).alloc (Nat.le_refl _) _).alloc (by simp) _).drew.alloc (by simp <;> omega) _)
      · obtain ⟨k, rfl⟩ := Int.eq_ofNat_of_zero_le (show 0 ≤ i by omega)
        have hk : k ≤ log.length := by omega
        have e1 : ∀ _ : (crc staged : Int) = sum, comE ⟨room, cl, log, snap, staged, cut, at_⟩ ep sum k = 0 := fun hq => by unfold comE cmE; rw [if_pos he, if_pos hq, if_neg h2]
        have e2 : ∀ _ : (crc staged : Int) = sum, comD ⟨room, cl, log, snap, staged, cut, at_⟩ ep sum k = ⟨room, cl, log.drop k, staged, [], cut, at_⟩ := fun hq => by unfold comD cmD; rw [if_pos he, if_pos hq, if_neg h2]; rfl
        intro HB hq
        rw [e1 hq, e2 hq]
        subst hq he
        clear e1 e2 h2
        revert HB
        generalize (crc staged : Int) = K
        intro HB
        have hdr : (str log).extract k log.length = str (log.drop k) := str_drop log k _ rfl
        obtain ⟨N, hN⟩ : ∃ N, N = log.length := ⟨_, rfl⟩
        rw [← hN] at hz hk hdr hl
        clear hN
        unfold rv
        simp only
        go_enter Tryd.func34, Tryd.ntmps34
        go_wp2_with fail
        refine HB.out.mono ?_
        rintro e w' ⟨rfl, rfl⟩
        clear HB hc
        go_wp2_with fail
        refine bodyPost_ret (v := .tuple #[.agg #[.int .i64 (room : Int), .int .i64 cl.e, .int .i64 cl.h, .int .i64 cl.u, .string (str (log.drop k)), .string (str staged), .string ⟨#[]⟩, .bool cut, .int .i64 at_], .int .i64 0]) (by simp [results, Tryd.results34, go_sem]) rfl ⟨rfl, ?_⟩
        exact ((((Below.refl w.heap.size w).alloc (Nat.le_refl _) _).alloc (by simp) _).drew.alloc (by simp <;> omega) _)
    · have e1 : comE ⟨room, cl, log, snap, staged, cut, at_⟩ ep sum i = 20 := by unfold comE cmE; rw [if_pos he, if_neg hq]
      have e2 : comD ⟨room, cl, log, snap, staged, cut, at_⟩ ep sum i = ⟨room, cl, log, snap, staged, cut, at_⟩ := by unfold comD cmD; rw [if_pos he, if_neg hq]
      have q : ((crc staged : Int) != sum) = true := by rw [bne_iff_ne]; exact hq
      rw [e1, e2]
      clear e1 e2
      subst he
      revert HB hq q
      generalize (crc staged : Int) = K
      intro HB hq q
      unfold rv
      simp only
      go_enter Tryd.func34, Tryd.ntmps34
      go_wp2_with fail
      refine HB.out.mono ?_
      rintro e w' ⟨rfl, rfl⟩
      clear HB hc
      go_wp2_with fail
      refine bodyPost_ret (v := .tuple #[.agg #[.int .i64 (room : Int), .int .i64 cl.e, .int .i64 cl.h, .int .i64 cl.u, .string (str log), .string (str snap), .string (str staged), .bool cut, .int .i64 at_], .int .i64 20]) (by simp [results, Tryd.results34, go_sem]) rfl ⟨rfl, ?_⟩
      exact ((((Below.refl w.heap.size w).alloc (Nat.le_refl _) _).alloc (by simp) _).drew.alloc (by simp <;> omega) _)
  · have e1 : comE ⟨room, cl, log, snap, staged, cut, at_⟩ ep sum i = 150 := by unfold comE; rw [if_neg he]
    have e2 : comD ⟨room, cl, log, snap, staged, cut, at_⟩ ep sum i = ⟨room, cl, log, snap, staged, cut, at_⟩ := by unfold comD; rw [if_neg he]
    have q : (ep != cl.e) = true := by rw [bne_iff_ne]; exact he
    rw [e1, e2]
    clear e1 e2 he
    unfold rv
    simp only
    go_enter Tryd.func34, Tryd.ntmps34
    go_wp2_with fail
    refine bodyPost_ret (v := .tuple #[.agg #[.int .i64 (room : Int), .int .i64 cl.e, .int .i64 cl.h, .int .i64 cl.u, .string (str log), .string (str snap), .string (str staged), .bool cut, .int .i64 at_], .int .i64 150]) (by simp [results, Tryd.results34, go_sem]) rfl ⟨rfl, ?_⟩
    exact (((Below.refl w.heap.size w).alloc (Nat.le_refl _) _).alloc (by simp) _)
end Go.Proofs.YtpkefkoimlecjaaDoor
