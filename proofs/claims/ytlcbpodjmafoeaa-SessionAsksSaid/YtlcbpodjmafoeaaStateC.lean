/- A client's state. -/
import Derived.Test.YtlcbpodjmafoeaaLook
namespace Go.Proofs.Ytlcbpodjmafoeaa
open Go.RowKit

theorem state_any (g : Nat) (s : Ct) (A : Option Addr) (c : Nat) (w : World) (h : CAt w g s A c) :
    Calls Try.prog 23 #[.pointer (some ⟨g, 0, none⟩)] w fun e w' => e = .returned (.tuple #[.int .i64 s.seq, .int .i64 s.epoch, .bool s.asks]) ∧ ∃ n, w' = w.drewN n := by
  obtain ⟨id, seq, epoch, asks, sent, at_, body⟩ := s
  have hgl := h.glt
  have c1 := cellb (i := 1) h.blk rfl
  have c2 := cellb (i := 2) h.blk rfl
  have c3 := cellb (i := 3) h.blk rfl
  simp only at c1 c2 c3
  have d1 : w.cell? ⟨g, 1, none⟩ = some (.int .i64 seq) := c1
  have d2 : w.cell? ⟨g, 2, none⟩ = some (.int .i64 epoch) := c2
  have d3 : w.cell? ⟨g, 3, none⟩ = some (.bool asks) := c3
  clear h c1 c2 c3
  go_enter Try.func23, Try.ntmps23
  go_wp2_with fail
  go_quiet (fail)
  go_wp2_with fail
  exact bodyPost_ret (v := .tuple #[.int .i64 seq, .int .i64 epoch, .bool asks]) (by simp [results, Try.results23, go_sem]) rfl ⟨rfl, nq, rfl⟩
end Go.Proofs.Ytlcbpodjmafoeaa
