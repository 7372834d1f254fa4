/- Squash has the twelve values that the statement lists. No condition. -/
import Derived.Test.YtpdfdmfhakibaaaMSquashKnown
namespace Go.Proofs.Ytpdfdmfhakibaaa.Pure
open Go.RowKit Go.Proofs.Ytpdfdmfhakibaaa.PSquashKnown Go.Proofs.YtpdfdmfhakibaaaW.PrintWords Go.Proofs.YtpdfdmfhakibaaaW.PrintLast Go.Proofs.YtpdfdmfhakibaaaW.PrintMore
set_option maxRecDepth 100000
set_option maxHeartbeats 4000000

def chkK (i : Nat) : Bool := wringerlaw17_SquashKnown.f 20 (i : Int) == some true
theorem allK : (List.range 256).all chkK = true := by decide +kernel
theorem SquashKnown : wringerlaw17_SquashKnown.Pure := by
  intro a0 h
  have hb : 0 ≤ a0 ∧ a0 ≤ 255 := by simpa [Lit.wf, IntKind.min, IntKind.max, IntKind.signed, IntKind.bits] using h
  refine ⟨20, ?_⟩
  obtain ⟨n, rfl⟩ := Int.eq_ofNat_of_zero_le hb.1
  have := List.all_eq_true.1 allK n (List.mem_range.2 (by omega))
  simpa [chkK] using this

end Go.Proofs.Ytpdfdmfhakibaaa.Pure
