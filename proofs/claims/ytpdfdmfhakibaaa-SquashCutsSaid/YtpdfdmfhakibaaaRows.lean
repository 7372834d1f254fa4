/-
  No cell of these rows narrows 'for every input' (looked for: loops, veiled, ifaces, maps, wideKeys, modest, calm, conditions, laid).
  DERIVED. THE GIVEN ROWS OF THIS SEAT. 5 by the template 'for every input the law returns true; each argument reads behind the call as it read before'; 0 by the template 'total and deterministic' (their statements: YtpdfdmfhakibaaaTotals.lean).
  GIVEN WITH THE SEED: the statements are not yours to turn. If you find one false, say at which input.
  Laid BY PROGRAM, IN A SANDBOX (cutbox-rows.mjs): the forced cells as the released guide's own fill.sh prints them over the translation e793432a4e1f78e5… (all of the seat's roots in one cut). By AI agents, Wed Nov 11 2026. No macro, syntax, notation, axiom, sorry.
-/
import Derived.Test.YtpdfdmfhakibaaaChecked
import GoSem.Claim
import GoSem.ClaimJoined
import GoSem.ClaimMapViews
import Derived.JoinedTies
import Derived.KernelRfl
namespace Go.Proofs.Ytpdfdmfhakibaaa
/- THE CELL 'sum', in the pinned program and in every row, IS THE sha256 OF THE DUMP (.gsa) THAT YtpdfdmfhakibaaaProg.lean LOADS. Nothing in Lean hashes anything: it is a label: what it is worth is what the hold of that sum in a sandbox is worth. -/
noncomputable def Try.pinned : Pinned := { name := "ytpdfdmfhakibaaa", sum := "e793432a4e1f78e5cb9480484bd2a0dbae3e7e04581d9913d0476a68a324afdc", checked := Try.checked }
namespace Rows
def none {H : Type} : Left H := { results := [], args := [] }

/-- 'wringerlaw17.SquashAll': WHATEVER THE INPUT: true; the input reads as it did. -/
def squashAllSpec : ChangeSpec := { name := "squashAll", fn := fun _ => fun
  | [d1, d2] => { results := [.lit (.bool true)], args := [d1, d2] }
  | _ => none }
def squashAllRow : OpenClaim := { program := "ytpdfdmfhakibaaa", sum := "e793432a4e1f78e5cb9480484bd2a0dbae3e7e04581d9913d0476a68a324afdc", func := "wringer/wringerlaw17.SquashAll", spec := "squashAll", recurses := true, apart := false }
def SquashAllSaid : Prop := squashAllRow.holds Try.pinned (OpenSpec.ofChange squashAllSpec)

/-- ITS FALSE NEIGHBOUR: 'it returns false'. Refute it at one input. -/
def squashAllWrong : ChangeSpec := { name := "squashAll", fn := fun _ => fun
  | [d1, d2] => { results := [.lit (.bool false)], args := [d1, d2] }
  | _ => none }
def SquashAllWrongFalsely : Prop := squashAllRow.holds Try.pinned (OpenSpec.ofChange squashAllWrong)

/-- 'wringerlaw17.SquashRises': WHATEVER THE INPUT: true; the input reads as it did. -/
def squashRisesSpec : ChangeSpec := { name := "squashRises", fn := fun _ => fun
  | [d1, d2, d3, d4] => { results := [.lit (.bool true)], args := [d1, d2, d3, d4] }
  | _ => none }
def squashRisesRow : OpenClaim := { program := "ytpdfdmfhakibaaa", sum := "e793432a4e1f78e5cb9480484bd2a0dbae3e7e04581d9913d0476a68a324afdc", func := "wringer/wringerlaw17.SquashRises", spec := "squashRises", recurses := true, apart := false }
def SquashRisesSaid : Prop := squashRisesRow.holds Try.pinned (OpenSpec.ofChange squashRisesSpec)

/-- ITS FALSE NEIGHBOUR: 'it returns false'. Refute it at one input. -/
def squashRisesWrong : ChangeSpec := { name := "squashRises", fn := fun _ => fun
  | [d1, d2, d3, d4] => { results := [.lit (.bool false)], args := [d1, d2, d3, d4] }
  | _ => none }
def SquashRisesWrongFalsely : Prop := squashRisesRow.holds Try.pinned (OpenSpec.ofChange squashRisesWrong)

/-- 'wringerlaw17.SquashBack': WHATEVER THE INPUT: true; the input reads as it did. -/
def squashBackSpec : ChangeSpec := { name := "squashBack", fn := fun _ => fun
  | [d] => { results := [.lit (.bool true)], args := [d] }
  | _ => none }
def squashBackRow : OpenClaim := { program := "ytpdfdmfhakibaaa", sum := "e793432a4e1f78e5cb9480484bd2a0dbae3e7e04581d9913d0476a68a324afdc", func := "wringer/wringerlaw17.SquashBack", spec := "squashBack", recurses := true, apart := false }
def SquashBackSaid : Prop := squashBackRow.holds Try.pinned (OpenSpec.ofChange squashBackSpec)

/-- ITS FALSE NEIGHBOUR: 'it returns false'. Refute it at one input. -/
def squashBackWrong : ChangeSpec := { name := "squashBack", fn := fun _ => fun
  | [d] => { results := [.lit (.bool false)], args := [d] }
  | _ => none }
def SquashBackWrongFalsely : Prop := squashBackRow.holds Try.pinned (OpenSpec.ofChange squashBackWrong)

/-- 'wringerlaw17.SquashKnown': WHATEVER THE INPUT: true; the input reads as it did. -/
def squashKnownSpec : ChangeSpec := { name := "squashKnown", fn := fun _ => fun
  | [d] => { results := [.lit (.bool true)], args := [d] }
  | _ => none }
def squashKnownRow : OpenClaim := { program := "ytpdfdmfhakibaaa", sum := "e793432a4e1f78e5cb9480484bd2a0dbae3e7e04581d9913d0476a68a324afdc", func := "wringer/wringerlaw17.SquashKnown", spec := "squashKnown", recurses := true, apart := false }
def SquashKnownSaid : Prop := squashKnownRow.holds Try.pinned (OpenSpec.ofChange squashKnownSpec)

/-- ITS FALSE NEIGHBOUR: 'it returns false'. Refute it at one input. -/
def squashKnownWrong : ChangeSpec := { name := "squashKnown", fn := fun _ => fun
  | [d] => { results := [.lit (.bool false)], args := [d] }
  | _ => none }
def SquashKnownWrongFalsely : Prop := squashKnownRow.holds Try.pinned (OpenSpec.ofChange squashKnownWrong)

/-- 'wringerlaw17.SquashCuts': WHATEVER THE INPUT: true; the input reads as it did. -/
def squashCutsSpec : ChangeSpec := { name := "squashCuts", fn := fun _ => fun
  | [d] => { results := [.lit (.bool true)], args := [d] }
  | _ => none }
def squashCutsRow : OpenClaim := { program := "ytpdfdmfhakibaaa", sum := "e793432a4e1f78e5cb9480484bd2a0dbae3e7e04581d9913d0476a68a324afdc", func := "wringer/wringerlaw17.SquashCuts", spec := "squashCuts", recurses := true, apart := false }
def SquashCutsSaid : Prop := squashCutsRow.holds Try.pinned (OpenSpec.ofChange squashCutsSpec)

/-- ITS FALSE NEIGHBOUR: 'it returns false'. Refute it at one input. -/
def squashCutsWrong : ChangeSpec := { name := "squashCuts", fn := fun _ => fun
  | [d] => { results := [.lit (.bool false)], args := [d] }
  | _ => none }
def SquashCutsWrongFalsely : Prop := squashCutsRow.holds Try.pinned (OpenSpec.ofChange squashCutsWrong)

/- THE SECOND FORM. 'bulk': how many values and letters a reading holds, each counted each time it is reached (what is shared counts as often as it is met; a slice's spare places count too). A statement '..UptoSaid' is the law's where the arguments, and the package variables that the reading takes, are together of bulk at most 1048576: NARROWER than '..Said'. Prove '..Said' where nothing that the law and all that it calls make is longer than what came in: it says more and counts as full. Else prove '..UptoSaid'. A law counts once. -/
mutual
def uptoBulk {H : Type} : DataW H → Nat
  | .lit (.string bytes) => bytes.length + 1
  | .lit _ => 1
  | .nil => 1
  | .ptr d => uptoBulk d + 1
  | .slice elems spare => uptoBulkAll elems + uptoBulkAll spare + 1
  | .agg parts => uptoBulkAll parts + 1
  | .iface _ d => uptoBulk d + 1
  | .map entries => uptoBulkEntries entries + 1
  | .held _ => 1
def uptoBulkAll {H : Type} : List (DataW H) → Nat
  | [] => 0
  | d :: r => uptoBulk d + uptoBulkAll r
def uptoBulkEntries {H : Type} : List (Lit × DataW H) → Nat
  | [] => 0
  | x :: r => uptoBulkEntry x + uptoBulkEntries r
def uptoBulkEntry {H : Type} : Lit × DataW H → Nat
  | (.string bytes, d) => bytes.length + uptoBulk d + 1
  | (_, d) => uptoBulk d + 1
 end
def uptoSmall : (H : Type) → List (DataW H) → Bool := fun _ ds => decide (uptoBulkAll ds ≤ 1048576)
def OpenSpec.upto (s : _root_.Go.ChangeSpec) : _root_.Go.OpenSpec := { _root_.Go.OpenSpec.ofChange s with cond := some uptoSmall }

/-- 'wringerlaw17.SquashAll', WHERE WHAT IT READS IS OF BULK AT MOST 1048576: true; the input reads as it did. -/
def squashAllUptoRow : OpenClaim := { program := "ytpdfdmfhakibaaa", sum := "e793432a4e1f78e5cb9480484bd2a0dbae3e7e04581d9913d0476a68a324afdc", func := "wringer/wringerlaw17.SquashAll", spec := "squashAll", recurses := true, apart := false, narrowed := true }
def SquashAllUptoSaid : Prop := squashAllUptoRow.holds Try.pinned (OpenSpec.upto squashAllSpec)

/-- 'wringerlaw17.SquashRises', WHERE WHAT IT READS IS OF BULK AT MOST 1048576: true; the input reads as it did. -/
def squashRisesUptoRow : OpenClaim := { program := "ytpdfdmfhakibaaa", sum := "e793432a4e1f78e5cb9480484bd2a0dbae3e7e04581d9913d0476a68a324afdc", func := "wringer/wringerlaw17.SquashRises", spec := "squashRises", recurses := true, apart := false, narrowed := true }
def SquashRisesUptoSaid : Prop := squashRisesUptoRow.holds Try.pinned (OpenSpec.upto squashRisesSpec)

/-- 'wringerlaw17.SquashBack', WHERE WHAT IT READS IS OF BULK AT MOST 1048576: true; the input reads as it did. -/
def squashBackUptoRow : OpenClaim := { program := "ytpdfdmfhakibaaa", sum := "e793432a4e1f78e5cb9480484bd2a0dbae3e7e04581d9913d0476a68a324afdc", func := "wringer/wringerlaw17.SquashBack", spec := "squashBack", recurses := true, apart := false, narrowed := true }
def SquashBackUptoSaid : Prop := squashBackUptoRow.holds Try.pinned (OpenSpec.upto squashBackSpec)

/-- 'wringerlaw17.SquashKnown', WHERE WHAT IT READS IS OF BULK AT MOST 1048576: true; the input reads as it did. -/
def squashKnownUptoRow : OpenClaim := { program := "ytpdfdmfhakibaaa", sum := "e793432a4e1f78e5cb9480484bd2a0dbae3e7e04581d9913d0476a68a324afdc", func := "wringer/wringerlaw17.SquashKnown", spec := "squashKnown", recurses := true, apart := false, narrowed := true }
def SquashKnownUptoSaid : Prop := squashKnownUptoRow.holds Try.pinned (OpenSpec.upto squashKnownSpec)

/-- 'wringerlaw17.SquashCuts', WHERE WHAT IT READS IS OF BULK AT MOST 1048576: true; the input reads as it did. -/
def squashCutsUptoRow : OpenClaim := { program := "ytpdfdmfhakibaaa", sum := "e793432a4e1f78e5cb9480484bd2a0dbae3e7e04581d9913d0476a68a324afdc", func := "wringer/wringerlaw17.SquashCuts", spec := "squashCuts", recurses := true, apart := false, narrowed := true }
def SquashCutsUptoSaid : Prop := squashCutsUptoRow.holds Try.pinned (OpenSpec.upto squashCutsSpec)

end Rows
end Go.Proofs.Ytpdfdmfhakibaaa
