/- The document's digits and texts. -/
import Derived.Test.YtfbmjejkhnopiaaDoorVecN
import Derived.Test.YtfbmjejkhnopiaaDoorHeldW
namespace Go.Proofs.YtfbmjejkhnopiaaDoor
open Go.RowKit
attribute [local go_sem] str_append

theorem tmod10 (u : Nat) : (-(u : Int)).tmod 10 = -((u % 10 : Nat) : Int) := by
  rw [Int.neg_tmod]; congr 1
theorem tdiv10 (u : Nat) : (-(u : Int)).tdiv 10 = -((u / 10 : Nat) : Int) := by
  rw [Int.neg_tdiv]; congr 1
theorem dlen (u : Nat) (h : u ≤ 9223372036854775808) : (Lib.decDigits u).length ≤ 20 := dd_short 19 u (by omega)
theorem ret_s {a b : ByteArray} (h : a = b) : Ending.returned (.string a) = .returned (.string b) := by rw [h]
theorem dig0 : ({ data := #[48, 49, 50, 51, 52, 53, 54, 55, 56, 57] } : ByteArray).extract 0 1 = str [UInt8.ofNat (48 + 0)] := by kernel_rfl
theorem dig1 : ({ data := #[48, 49, 50, 51, 52, 53, 54, 55, 56, 57] } : ByteArray).extract 1 2 = str [UInt8.ofNat (48 + 1)] := by kernel_rfl
theorem dig2 : ({ data := #[48, 49, 50, 51, 52, 53, 54, 55, 56, 57] } : ByteArray).extract 2 3 = str [UInt8.ofNat (48 + 2)] := by kernel_rfl
theorem dig3 : ({ data := #[48, 49, 50, 51, 52, 53, 54, 55, 56, 57] } : ByteArray).extract 3 4 = str [UInt8.ofNat (48 + 3)] := by kernel_rfl
theorem dig4 : ({ data := #[48, 49, 50, 51, 52, 53, 54, 55, 56, 57] } : ByteArray).extract 4 5 = str [UInt8.ofNat (48 + 4)] := by kernel_rfl
theorem dig5 : ({ data := #[48, 49, 50, 51, 52, 53, 54, 55, 56, 57] } : ByteArray).extract 5 6 = str [UInt8.ofNat (48 + 5)] := by kernel_rfl
theorem dig6 : ({ data := #[48, 49, 50, 51, 52, 53, 54, 55, 56, 57] } : ByteArray).extract 6 7 = str [UInt8.ofNat (48 + 6)] := by kernel_rfl
theorem dig7 : ({ data := #[48, 49, 50, 51, 52, 53, 54, 55, 56, 57] } : ByteArray).extract 7 8 = str [UInt8.ofNat (48 + 7)] := by kernel_rfl
theorem dig8 : ({ data := #[48, 49, 50, 51, 52, 53, 54, 55, 56, 57] } : ByteArray).extract 8 9 = str [UInt8.ofNat (48 + 8)] := by kernel_rfl
theorem dig9 : ({ data := #[48, 49, 50, 51, 52, 53, 54, 55, 56, 57] } : ByteArray).extract 9 10 = str [UInt8.ofNat (48 + 9)] := by kernel_rfl
set_option maxRecDepth 100000 in
set_option maxHeartbeats 4000000 in
theorem minus_any (u : Nat) : u ≤ 9223372036854775808 → ∀ w : World,
    Calls Tryd.prog 43 #[.int .i64 (-(u : Int))] w fun e w' => e = .returned (.string (str (Lib.decDigits u))) ∧ w = w' := by
  induction u using Nat.strongRecOn with
  | _ u ih =>
    intro hu w
    obtain ⟨r, hr⟩ : ∃ r : Nat, r = u % 10 := ⟨_, rfl⟩
    have hm : (-(u : Int)).tmod 10 = -(r : Int) := by rw [hr]; exact tmod10 u
    have h10 : r = 0 ∨ r = 1 ∨ r = 2 ∨ r = 3 ∨ r = 4 ∨ r = 5 ∨ r = 6 ∨ r = 7 ∨ r = 8 ∨ r = 9 := by omega
    by_cases hs : u < 10
    · have hru : r = u := by omega
      have HE : Hid (Lib.decDigits u = [UInt8.ofNat (48 + r)]) := Lib.hid (by rw [hru]; exact dd_small hs)
      have t1 : (-10 : Int) < -(u : Int) := by omega
      have b0 : -9223372036854775808 ≤ -(u : Int) := by omega
      clear ih hr hru
      rcases h10 with rfl | rfl | rfl | rfl | rfl | rfl | rfl | rfl | rfl | rfl
      · go_enter Tryd.func43, Tryd.ntmps43
        go_upto_region 2 with (fail)
        rw [dig0]
        go_wp2_with fail
        go_ret
        refine ⟨?_, rfl⟩
        show Ending.returned (Value.string (str [UInt8.ofNat (48 + 0)])) = _
        exact ret_s (by rw [HE.out])
      · go_enter Tryd.func43, Tryd.ntmps43
        go_upto_region 2 with (fail)
        rw [dig1]
        go_wp2_with fail
        go_ret
        refine ⟨?_, rfl⟩
        show Ending.returned (Value.string (str [UInt8.ofNat (48 + 1)])) = _
        exact ret_s (by rw [HE.out])
      · go_enter Tryd.func43, Tryd.ntmps43
        go_upto_region 2 with (fail)
        rw [dig2]
        go_wp2_with fail
        go_ret
        refine ⟨?_, rfl⟩
        show Ending.returned (Value.string (str [UInt8.ofNat (48 + 2)])) = _
        exact ret_s (by rw [HE.out])
      · go_enter Tryd.func43, Tryd.ntmps43
        go_upto_region 2 with (fail)
        rw [dig3]
        go_wp2_with fail
        go_ret
        refine ⟨?_, rfl⟩
        show Ending.returned (Value.string (str [UInt8.ofNat (48 + 3)])) = _
        exact ret_s (by rw [HE.out])
      · go_enter Tryd.func43, Tryd.ntmps43
        go_upto_region 2 with (fail)
        rw [dig4]
        go_wp2_with fail
        go_ret
        refine ⟨?_, rfl⟩
        show Ending.returned (Value.string (str [UInt8.ofNat (48 + 4)])) = _
        exact ret_s (by rw [HE.out])
      · go_enter Tryd.func43, Tryd.ntmps43
        go_upto_region 2 with (fail)
        rw [dig5]
        go_wp2_with fail
        go_ret
        refine ⟨?_, rfl⟩
        show Ending.returned (Value.string (str [UInt8.ofNat (48 + 5)])) = _
        exact ret_s (by rw [HE.out])
      · go_enter Tryd.func43, Tryd.ntmps43
        go_upto_region 2 with (fail)
        rw [dig6]
        go_wp2_with fail
        go_ret
        refine ⟨?_, rfl⟩
        show Ending.returned (Value.string (str [UInt8.ofNat (48 + 6)])) = _
        exact ret_s (by rw [HE.out])
      · go_enter Tryd.func43, Tryd.ntmps43
        go_upto_region 2 with (fail)
        rw [dig7]
        go_wp2_with fail
        go_ret
        refine ⟨?_, rfl⟩
        show Ending.returned (Value.string (str [UInt8.ofNat (48 + 7)])) = _
        exact ret_s (by rw [HE.out])
      · go_enter Tryd.func43, Tryd.ntmps43
        go_upto_region 2 with (fail)
        rw [dig8]
        go_wp2_with fail
        go_ret
        refine ⟨?_, rfl⟩
        show Ending.returned (Value.string (str [UInt8.ofNat (48 + 8)])) = _
        exact ret_s (by rw [HE.out])
      · go_enter Tryd.func43, Tryd.ntmps43
        go_upto_region 2 with (fail)
        rw [dig9]
        go_wp2_with fail
        go_ret
        refine ⟨?_, rfl⟩
        show Ending.returned (Value.string (str [UInt8.ofNat (48 + 9)])) = _
        exact ret_s (by rw [HE.out])
    · have HE : Hid (Lib.decDigits u = Lib.decDigits (u / 10) ++ [UInt8.ofNat (48 + r)]) := Lib.hid (by rw [hr]; exact dd_big hs)
      have t1 : ¬ (-10 : Int) < -(u : Int) := by omega
      have b0 : -9223372036854775808 ≤ -(u : Int) := by omega
      have hq : (-(u : Int)).tdiv 10 = -((u / 10 : Nat) : Int) := tdiv10 u
      obtain ⟨q, hqe⟩ : ∃ q : Nat, q = u / 10 := ⟨_, rfl⟩
      have HI := Lib.hid (ih q (by omega) (by omega) w)
      have HL := dlen q (by omega)
      have b1 : -9223372036854775808 ≤ -(q : Int) := by omega
      have b2 : -(q : Int) ≤ 0 := by omega
      rw [← hqe] at hq HE
      obtain ⟨dq, hdq⟩ : ∃ dq, dq = Lib.decDigits q := ⟨_, rfl⟩
      rw [← hdq] at HI HL HE
      clear hdq
      clear ih hr hqe
      rcases h10 with rfl | rfl | rfl | rfl | rfl | rfl | rfl | rfl | rfl | rfl
      · obtain ⟨ds, hds⟩ : ∃ ds, ds = [UInt8.ofNat (48 + 0)] := ⟨_, rfl⟩
        have HDS := Lib.hid hds
        have hz : ¬ 9223372036854775807 < (str dq).size + (str ds).size := by rw [str_size, str_size, hds]; simp; omega
        clear hds
        go_enter Tryd.func43, Tryd.ntmps43
        go_upto_region 2 with (fail)
        rw [dig0, ← HDS.out]
        go_wp2_with fail
        refine HI.out.mono ?_
        rintro e w' ⟨rfl, rfl⟩
        go_wp2_with fail
        go_ret
        refine ⟨?_, rfl⟩
        show Ending.returned (Value.string (str (dq ++ ds))) = _
        exact ret_s (by rw [HE.out, HDS.out])
      · obtain ⟨ds, hds⟩ : ∃ ds, ds = [UInt8.ofNat (48 + 1)] := ⟨_, rfl⟩
        have HDS := Lib.hid hds
        have hz : ¬ 9223372036854775807 < (str dq).size + (str ds).size := by rw [str_size, str_size, hds]; simp; omega
        clear hds
        go_enter Tryd.func43, Tryd.ntmps43
        go_upto_region 2 with (fail)
        rw [dig1, ← HDS.out]
        go_wp2_with fail
        refine HI.out.mono ?_
        rintro e w' ⟨rfl, rfl⟩
        go_wp2_with fail
        go_ret
        refine ⟨?_, rfl⟩
        show Ending.returned (Value.string (str (dq ++ ds))) = _
        exact ret_s (by rw [HE.out, HDS.out])
      · obtain ⟨ds, hds⟩ : ∃ ds, ds = [UInt8.ofNat (48 + 2)] := ⟨_, rfl⟩
        have HDS := Lib.hid hds
        have hz : ¬ 9223372036854775807 < (str dq).size + (str ds).size := by rw [str_size, str_size, hds]; simp; omega
        clear hds
        go_enter Tryd.func43, Tryd.ntmps43
        go_upto_region 2 with (fail)
        rw [dig2, ← HDS.out]
        go_wp2_with fail
        refine HI.out.mono ?_
        rintro e w' ⟨rfl, rfl⟩
        go_wp2_with fail
        go_ret
        refine ⟨?_, rfl⟩
        show Ending.returned (Value.string (str (dq ++ ds))) = _
        exact ret_s (by rw [HE.out, HDS.out])
      · obtain ⟨ds, hds⟩ : ∃ ds, ds = [UInt8.ofNat (48 + 3)] := ⟨_, rfl⟩
        have HDS := Lib.hid hds
        have hz : ¬ 9223372036854775807 < (str dq).size + (str ds).size := by rw [str_size, str_size, hds]; simp; omega
        clear hds
        go_enter Tryd.func43, Tryd.ntmps43
        go_upto_region 2 with (fail)
        rw [dig3, ← HDS.out]
        go_wp2_with fail
        refine HI.out.mono ?_
        rintro e w' ⟨rfl, rfl⟩
        go_wp2_with fail
        go_ret
        refine ⟨?_, rfl⟩
        show Ending.returned (Value.string (str (dq ++ ds))) = _
        exact ret_s (by rw [HE.out, HDS.out])
      · obtain ⟨ds, hds⟩ : ∃ ds, ds = [UInt8.ofNat (48 + 4)] := ⟨_, rfl⟩
        have HDS := Lib.hid hds
        have hz : ¬ 9223372036854775807 < (str dq).size + (str ds).size := by rw [str_size, str_size, hds]; simp; omega
        clear hds
        go_enter Tryd.func43, Tryd.ntmps43
        go_upto_region 2 with (fail)
        rw [dig4, ← HDS.out]
        go_wp2_with fail
        refine HI.out.mono ?_
        rintro e w' ⟨rfl, rfl⟩
        go_wp2_with fail
        go_ret
        refine ⟨?_, rfl⟩
        show Ending.returned (Value.string (str (dq ++ ds))) = _
        exact ret_s (by rw [HE.out, HDS.out])
      · obtain ⟨ds, hds⟩ : ∃ ds, ds = [UInt8.ofNat (48 + 5)] := ⟨_, rfl⟩
        have HDS := Lib.hid hds
        have hz : ¬ 9223372036854775807 < (str dq).size + (str ds).size := by rw [str_size, str_size, hds]; simp; omega
        clear hds
        go_enter Tryd.func43, Tryd.ntmps43
        go_upto_region 2 with (fail)
        rw [dig5, ← HDS.out]
        go_wp2_with fail
        refine HI.out.mono ?_
        rintro e w' ⟨rfl, rfl⟩
        go_wp2_with fail
        go_ret
        refine ⟨?_, rfl⟩
        show Ending.returned (Value.string (str (dq ++ ds))) = _
        exact ret_s (by rw [HE.out, HDS.out])
      · obtain ⟨ds, hds⟩ : ∃ ds, ds = [UInt8.ofNat (48 + 6)] := ⟨_, rfl⟩
        have HDS := Lib.hid hds
        have hz : ¬ 9223372036854775807 < (str dq).size + (str ds).size := by rw [str_size, str_size, hds]; simp; omega
        clear hds
        go_enter Tryd.func43, Tryd.ntmps43
        go_upto_region 2 with (fail)
        rw [dig6, ← HDS.out]
        go_wp2_with fail
        refine HI.out.mono ?_
        rintro e w' ⟨rfl, rfl⟩
        go_wp2_with fail
        go_ret
        refine ⟨?_, rfl⟩
        show Ending.returned (Value.string (str (dq ++ ds))) = _
        exact ret_s (by rw [HE.out, HDS.out])
      · obtain ⟨ds, hds⟩ : ∃ ds, ds = [UInt8.ofNat (48 + 7)] := ⟨_, rfl⟩
        have HDS := Lib.hid hds
        have hz : ¬ 9223372036854775807 < (str dq).size + (str ds).size := by rw [str_size, str_size, hds]; simp; omega
        clear hds
        go_enter Tryd.func43, Tryd.ntmps43
        go_upto_region 2 with (fail)
        rw [dig7, ← HDS.out]
        go_wp2_with fail
        refine HI.out.mono ?_
        rintro e w' ⟨rfl, rfl⟩
        go_wp2_with fail
        go_ret
        refine ⟨?_, rfl⟩
        show Ending.returned (Value.string (str (dq ++ ds))) = _
        exact ret_s (by rw [HE.out, HDS.out])
      · obtain ⟨ds, hds⟩ : ∃ ds, ds = [UInt8.ofNat (48 + 8)] := ⟨_, rfl⟩
        have HDS := Lib.hid hds
        have hz : ¬ 9223372036854775807 < (str dq).size + (str ds).size := by rw [str_size, str_size, hds]; simp; omega
        clear hds
        go_enter Tryd.func43, Tryd.ntmps43
        go_upto_region 2 with (fail)
        rw [dig8, ← HDS.out]
        go_wp2_with fail
        refine HI.out.mono ?_
        rintro e w' ⟨rfl, rfl⟩
        go_wp2_with fail
        go_ret
        refine ⟨?_, rfl⟩
        show Ending.returned (Value.string (str (dq ++ ds))) = _
        exact ret_s (by rw [HE.out, HDS.out])
      · obtain ⟨ds, hds⟩ : ∃ ds, ds = [UInt8.ofNat (48 + 9)] := ⟨_, rfl⟩
        have HDS := Lib.hid hds
        have hz : ¬ 9223372036854775807 < (str dq).size + (str ds).size := by rw [str_size, str_size, hds]; simp; omega
        clear hds
        go_enter Tryd.func43, Tryd.ntmps43
        go_upto_region 2 with (fail)
        rw [dig9, ← HDS.out]
        go_wp2_with fail
        refine HI.out.mono ?_
        rintro e w' ⟨rfl, rfl⟩
        go_wp2_with fail
        go_ret
        refine ⟨?_, rfl⟩
        show Ending.returned (Value.string (str (dq ++ ds))) = _
        exact ret_s (by rw [HE.out, HDS.out])
end Go.Proofs.YtfbmjejkhnopiaaDoor
