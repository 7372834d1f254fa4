/- The document's example, computed. No condition. -/
import Derived.Test.YtbpbhjnkmonlbaaMo6
namespace Go.Proofs.Ytbpbhjnkmonlbaa
open Sl Go
set_option maxRecDepth 100000
def awB : List Int × Int := (putGo [(2, 1)] ms0 cd0).getD ([], 9)
theorem aw_trace : traceGo [5] ms0 [] = some [2048, 2048, 2048, 2048, 2048, 2048, 2048] := by decide +kernel
theorem aw_put : putGo [(2, 1)] ms0 cd0 = some awB := by decide +kernel
theorem aw_get : getS (strOfNums awB.1) 1 = some ([(2, 1)], 0) ∧ awB.2 = 0 := by decide +kernel
end Go.Proofs.Ytbpbhjnkmonlbaa
