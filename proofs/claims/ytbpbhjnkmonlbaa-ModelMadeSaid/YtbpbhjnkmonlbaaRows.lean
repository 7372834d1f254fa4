/-
  No cell of these rows narrows 'for every input' (looked for: loops, veiled, ifaces, maps, wideKeys, modest, calm, conditions, laid).
  DERIVED. THE GIVEN ROWS OF THIS SEAT. 7 by the template 'for every input the law returns true; each argument reads behind the call as it read before'; 0 by the template 'total and deterministic' (their statements: YtbpbhjnkmonlbaaTotals.lean).
  GIVEN WITH THE SEED: the statements are not yours to turn. If you find one false, say at which input.
  Laid BY PROGRAM, IN A SANDBOX (cutbox-rows.mjs): the forced cells as the released guide's own fill.sh prints them over the translation eb35ee226e620120… (all of the seat's roots in one cut). By AI agents, Wed Nov 11 2026. No macro, syntax, notation, axiom, sorry.
-/
import Derived.Test.YtbpbhjnkmonlbaaChecked
import GoSem.Claim
import GoSem.ClaimJoined
import GoSem.ClaimMapViews
import Derived.JoinedTies
import Derived.KernelRfl
namespace Go.Proofs.Ytbpbhjnkmonlbaa
/- THE CELL 'sum', in the pinned program and in every row, IS THE sha256 OF THE DUMP (.gsa) THAT YtbpbhjnkmonlbaaProg.lean LOADS. Nothing in Lean hashes anything: it is a label: what it is worth is what the hold of that sum in a sandbox is worth. -/
noncomputable def Try.pinned : Pinned := { name := "ytbpbhjnkmonlbaa", sum := "eb35ee226e6201207f2b94c021734e673f31b164a86410fd4fa3d7329f59cede", checked := Try.checked }
namespace Rows
def none {H : Type} : Left H := { results := [], args := [] }

/-- 'wringerlaw19.ModelAll': WHATEVER THE INPUT: true; the input reads as it did. -/
def modelAllSpec : ChangeSpec := { name := "modelAll", fn := fun _ => fun
  | [d1, d2, d3, d4] => { results := [.lit (.bool true)], args := [d1, d2, d3, d4] }
  | _ => none }
def modelAllRow : OpenClaim := { program := "ytbpbhjnkmonlbaa", sum := "eb35ee226e6201207f2b94c021734e673f31b164a86410fd4fa3d7329f59cede", func := "wringer/wringerlaw19.ModelAll", spec := "modelAll", unfollowed := true, recurses := true, apart := false }
def ModelAllSaid : Prop := modelAllRow.holds Try.pinned (OpenSpec.ofChange modelAllSpec)

/-- ITS FALSE NEIGHBOUR: 'it returns false'. Refute it at one input. -/
def modelAllWrong : ChangeSpec := { name := "modelAll", fn := fun _ => fun
  | [d1, d2, d3, d4] => { results := [.lit (.bool false)], args := [d1, d2, d3, d4] }
  | _ => none }
def ModelAllWrongFalsely : Prop := modelAllRow.holds Try.pinned (OpenSpec.ofChange modelAllWrong)

/-- 'wringerlaw19.ModelMade': WHATEVER THE INPUT: true; the input reads as it did. -/
def modelMadeSpec : ChangeSpec := { name := "modelMade", fn := fun _ => fun
  | [d1, d2, d3, d4] => { results := [.lit (.bool true)], args := [d1, d2, d3, d4] }
  | _ => none }
def modelMadeRow : OpenClaim := { program := "ytbpbhjnkmonlbaa", sum := "eb35ee226e6201207f2b94c021734e673f31b164a86410fd4fa3d7329f59cede", func := "wringer/wringerlaw19.ModelMade", spec := "modelMade", unfollowed := true, recurses := true, apart := false }
def ModelMadeSaid : Prop := modelMadeRow.holds Try.pinned (OpenSpec.ofChange modelMadeSpec)

/-- ITS FALSE NEIGHBOUR: 'it returns false'. Refute it at one input. -/
def modelMadeWrong : ChangeSpec := { name := "modelMade", fn := fun _ => fun
  | [d1, d2, d3, d4] => { results := [.lit (.bool false)], args := [d1, d2, d3, d4] }
  | _ => none }
def ModelMadeWrongFalsely : Prop := modelMadeRow.holds Try.pinned (OpenSpec.ofChange modelMadeWrong)

/-- 'wringerlaw19.ModelBack': WHATEVER THE INPUT: true; the input reads as it did. -/
def modelBackSpec : ChangeSpec := { name := "modelBack", fn := fun _ => fun
  | [d1, d2] => { results := [.lit (.bool true)], args := [d1, d2] }
  | _ => none }
def modelBackRow : OpenClaim := { program := "ytbpbhjnkmonlbaa", sum := "eb35ee226e6201207f2b94c021734e673f31b164a86410fd4fa3d7329f59cede", func := "wringer/wringerlaw19.ModelBack", spec := "modelBack", unfollowed := true, recurses := true, apart := false }
def ModelBackSaid : Prop := modelBackRow.holds Try.pinned (OpenSpec.ofChange modelBackSpec)

/-- ITS FALSE NEIGHBOUR: 'it returns false'. Refute it at one input. -/
def modelBackWrong : ChangeSpec := { name := "modelBack", fn := fun _ => fun
  | [d1, d2] => { results := [.lit (.bool false)], args := [d1, d2] }
  | _ => none }
def ModelBackWrongFalsely : Prop := modelBackRow.holds Try.pinned (OpenSpec.ofChange modelBackWrong)

/-- 'wringerlaw19.ModelTraces': WHATEVER THE INPUT: true; the input reads as it did. -/
def modelTracesSpec : ChangeSpec := { name := "modelTraces", fn := fun _ => fun
  | [d1, d2] => { results := [.lit (.bool true)], args := [d1, d2] }
  | _ => none }
def modelTracesRow : OpenClaim := { program := "ytbpbhjnkmonlbaa", sum := "eb35ee226e6201207f2b94c021734e673f31b164a86410fd4fa3d7329f59cede", func := "wringer/wringerlaw19.ModelTraces", spec := "modelTraces", unfollowed := true, recurses := true, apart := false }
def ModelTracesSaid : Prop := modelTracesRow.holds Try.pinned (OpenSpec.ofChange modelTracesSpec)

/-- ITS FALSE NEIGHBOUR: 'it returns false'. Refute it at one input. -/
def modelTracesWrong : ChangeSpec := { name := "modelTraces", fn := fun _ => fun
  | [d1, d2] => { results := [.lit (.bool false)], args := [d1, d2] }
  | _ => none }
def ModelTracesWrongFalsely : Prop := modelTracesRow.holds Try.pinned (OpenSpec.ofChange modelTracesWrong)

/-- 'wringerlaw19.ModelRefuses': WHATEVER THE INPUT: true; the input reads as it did. -/
def modelRefusesSpec : ChangeSpec := { name := "modelRefuses", fn := fun _ => fun
  | [d1, d2, d3] => { results := [.lit (.bool true)], args := [d1, d2, d3] }
  | _ => none }
def modelRefusesRow : OpenClaim := { program := "ytbpbhjnkmonlbaa", sum := "eb35ee226e6201207f2b94c021734e673f31b164a86410fd4fa3d7329f59cede", func := "wringer/wringerlaw19.ModelRefuses", spec := "modelRefuses", unfollowed := true, recurses := true, apart := false }
def ModelRefusesSaid : Prop := modelRefusesRow.holds Try.pinned (OpenSpec.ofChange modelRefusesSpec)

/-- ITS FALSE NEIGHBOUR: 'it returns false'. Refute it at one input. -/
def modelRefusesWrong : ChangeSpec := { name := "modelRefuses", fn := fun _ => fun
  | [d1, d2, d3] => { results := [.lit (.bool false)], args := [d1, d2, d3] }
  | _ => none }
def ModelRefusesWrongFalsely : Prop := modelRefusesRow.holds Try.pinned (OpenSpec.ofChange modelRefusesWrong)

/-- 'wringerlaw19.ModelLearns': WHATEVER THE INPUT: true; the input reads as it did. -/
def modelLearnsSpec : ChangeSpec := { name := "modelLearns", fn := fun _ => fun
  | [d1, d2] => { results := [.lit (.bool true)], args := [d1, d2] }
  | _ => none }
def modelLearnsRow : OpenClaim := { program := "ytbpbhjnkmonlbaa", sum := "eb35ee226e6201207f2b94c021734e673f31b164a86410fd4fa3d7329f59cede", func := "wringer/wringerlaw19.ModelLearns", spec := "modelLearns", unfollowed := true, recurses := true, apart := false }
def ModelLearnsSaid : Prop := modelLearnsRow.holds Try.pinned (OpenSpec.ofChange modelLearnsSpec)

/-- ITS FALSE NEIGHBOUR: 'it returns false'. Refute it at one input. -/
def modelLearnsWrong : ChangeSpec := { name := "modelLearns", fn := fun _ => fun
  | [d1, d2] => { results := [.lit (.bool false)], args := [d1, d2] }
  | _ => none }
def ModelLearnsWrongFalsely : Prop := modelLearnsRow.holds Try.pinned (OpenSpec.ofChange modelLearnsWrong)

/-- 'wringerlaw19.ModelRests': WHATEVER THE INPUT: true; the input reads as it did. -/
def modelRestsSpec : ChangeSpec := { name := "modelRests", fn := fun _ => fun
  | [d1, d2, d3] => { results := [.lit (.bool true)], args := [d1, d2, d3] }
  | _ => none }
def modelRestsRow : OpenClaim := { program := "ytbpbhjnkmonlbaa", sum := "eb35ee226e6201207f2b94c021734e673f31b164a86410fd4fa3d7329f59cede", func := "wringer/wringerlaw19.ModelRests", spec := "modelRests", unfollowed := true, recurses := true, apart := false }
def ModelRestsSaid : Prop := modelRestsRow.holds Try.pinned (OpenSpec.ofChange modelRestsSpec)

/-- ITS FALSE NEIGHBOUR: 'it returns false'. Refute it at one input. -/
def modelRestsWrong : ChangeSpec := { name := "modelRests", fn := fun _ => fun
  | [d1, d2, d3] => { results := [.lit (.bool false)], args := [d1, d2, d3] }
  | _ => none }
def ModelRestsWrongFalsely : Prop := modelRestsRow.holds Try.pinned (OpenSpec.ofChange modelRestsWrong)

/- THE SECOND FORM. 'bulk': how many values and letters a reading holds, each counted each time it is reached (what is shared counts as often as it is met; a slice's spare places count too). A statement '..UptoSaid' is the law's where the arguments, and the package variables that the reading takes, are together of bulk at most 1048576: NARROWER than '..Said'. Prove '..Said' where nothing that the law and all that it calls make is longer than what came in: it says more and counts as full. Else prove '..UptoSaid'. A law counts once. -/
mutual
def uptoBulk {H : Type} : DataW H → Nat
  | .lit (.string bytes) => bytes.length + 1
  | .lit _ => 1
  | .nil => 1
  | .ptr d => uptoBulk d + 1
  | .slice elems spare => uptoBulkAll elems + uptoBulkAll spare + 1
  | .agg parts => uptoBulkAll parts + 1
  | .iface _ d => uptoBulk d + 1
  | .map entries => uptoBulkEntries entries + 1
  | .held _ => 1
def uptoBulkAll {H : Type} : List (DataW H) → Nat
  | [] => 0
  | d :: r => uptoBulk d + uptoBulkAll r
def uptoBulkEntries {H : Type} : List (Lit × DataW H) → Nat
  | [] => 0
  | x :: r => uptoBulkEntry x + uptoBulkEntries r
def uptoBulkEntry {H : Type} : Lit × DataW H → Nat
  | (.string bytes, d) => bytes.length + uptoBulk d + 1
  | (_, d) => uptoBulk d + 1
 end
def uptoSmall : (H : Type) → List (DataW H) → Bool := fun _ ds => decide (uptoBulkAll ds ≤ 1048576)
def OpenSpec.upto (s : _root_.Go.ChangeSpec) : _root_.Go.OpenSpec := { _root_.Go.OpenSpec.ofChange s with cond := some uptoSmall }

/-- 'wringerlaw19.ModelAll', WHERE WHAT IT READS IS OF BULK AT MOST 1048576: true; the input reads as it did. -/
def modelAllUptoRow : OpenClaim := { program := "ytbpbhjnkmonlbaa", sum := "eb35ee226e6201207f2b94c021734e673f31b164a86410fd4fa3d7329f59cede", func := "wringer/wringerlaw19.ModelAll", spec := "modelAll", unfollowed := true, recurses := true, apart := false, narrowed := true }
def ModelAllUptoSaid : Prop := modelAllUptoRow.holds Try.pinned (OpenSpec.upto modelAllSpec)

/-- 'wringerlaw19.ModelMade', WHERE WHAT IT READS IS OF BULK AT MOST 1048576: true; the input reads as it did. -/
def modelMadeUptoRow : OpenClaim := { program := "ytbpbhjnkmonlbaa", sum := "eb35ee226e6201207f2b94c021734e673f31b164a86410fd4fa3d7329f59cede", func := "wringer/wringerlaw19.ModelMade", spec := "modelMade", unfollowed := true, recurses := true, apart := false, narrowed := true }
def ModelMadeUptoSaid : Prop := modelMadeUptoRow.holds Try.pinned (OpenSpec.upto modelMadeSpec)

/-- 'wringerlaw19.ModelBack', WHERE WHAT IT READS IS OF BULK AT MOST 1048576: true; the input reads as it did. -/
def modelBackUptoRow : OpenClaim := { program := "ytbpbhjnkmonlbaa", sum := "eb35ee226e6201207f2b94c021734e673f31b164a86410fd4fa3d7329f59cede", func := "wringer/wringerlaw19.ModelBack", spec := "modelBack", unfollowed := true, recurses := true, apart := false, narrowed := true }
def ModelBackUptoSaid : Prop := modelBackUptoRow.holds Try.pinned (OpenSpec.upto modelBackSpec)

/-- 'wringerlaw19.ModelTraces', WHERE WHAT IT READS IS OF BULK AT MOST 1048576: true; the input reads as it did. -/
def modelTracesUptoRow : OpenClaim := { program := "ytbpbhjnkmonlbaa", sum := "eb35ee226e6201207f2b94c021734e673f31b164a86410fd4fa3d7329f59cede", func := "wringer/wringerlaw19.ModelTraces", spec := "modelTraces", unfollowed := true, recurses := true, apart := false, narrowed := true }
def ModelTracesUptoSaid : Prop := modelTracesUptoRow.holds Try.pinned (OpenSpec.upto modelTracesSpec)

/-- 'wringerlaw19.ModelRefuses', WHERE WHAT IT READS IS OF BULK AT MOST 1048576: true; the input reads as it did. -/
def modelRefusesUptoRow : OpenClaim := { program := "ytbpbhjnkmonlbaa", sum := "eb35ee226e6201207f2b94c021734e673f31b164a86410fd4fa3d7329f59cede", func := "wringer/wringerlaw19.ModelRefuses", spec := "modelRefuses", unfollowed := true, recurses := true, apart := false, narrowed := true }
def ModelRefusesUptoSaid : Prop := modelRefusesUptoRow.holds Try.pinned (OpenSpec.upto modelRefusesSpec)

/-- 'wringerlaw19.ModelLearns', WHERE WHAT IT READS IS OF BULK AT MOST 1048576: true; the input reads as it did. -/
def modelLearnsUptoRow : OpenClaim := { program := "ytbpbhjnkmonlbaa", sum := "eb35ee226e6201207f2b94c021734e673f31b164a86410fd4fa3d7329f59cede", func := "wringer/wringerlaw19.ModelLearns", spec := "modelLearns", unfollowed := true, recurses := true, apart := false, narrowed := true }
def ModelLearnsUptoSaid : Prop := modelLearnsUptoRow.holds Try.pinned (OpenSpec.upto modelLearnsSpec)

/-- 'wringerlaw19.ModelRests', WHERE WHAT IT READS IS OF BULK AT MOST 1048576: true; the input reads as it did. -/
def modelRestsUptoRow : OpenClaim := { program := "ytbpbhjnkmonlbaa", sum := "eb35ee226e6201207f2b94c021734e673f31b164a86410fd4fa3d7329f59cede", func := "wringer/wringerlaw19.ModelRests", spec := "modelRests", unfollowed := true, recurses := true, apart := false, narrowed := true }
def ModelRestsUptoSaid : Prop := modelRestsUptoRow.holds Try.pinned (OpenSpec.upto modelRestsSpec)

end Rows
end Go.Proofs.Ytbpbhjnkmonlbaa
