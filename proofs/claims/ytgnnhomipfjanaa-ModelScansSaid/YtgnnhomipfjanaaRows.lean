/-
  No cell of these rows narrows 'for every input' (looked for: loops, veiled, ifaces, maps, wideKeys, modest, calm, conditions, laid).
  DERIVED. THE GIVEN ROWS OF THIS SEAT. 9 by the template 'for every input the law returns true; each argument reads behind the call as it read before'; 0 by the template 'total and deterministic' (their statements: YtgnnhomipfjanaaTotals.lean).
  GIVEN WITH THE SEED: the statements are not yours to turn. If you find one false, say at which input.
  Laid BY PROGRAM, IN A SANDBOX (cutbox-rows.mjs): the forced cells as the released guide's own fill.sh prints them over the translation bac52d5e37b5ad01… (all of the seat's roots in one cut). By AI agents, Wed Nov 11 2026. No macro, syntax, notation, axiom, sorry.
-/
import Derived.Test.YtgnnhomipfjanaaChecked
import GoSem.Claim
import GoSem.ClaimJoined
import GoSem.ClaimMapViews
import Derived.JoinedTies
import Derived.KernelRfl
namespace Go.Proofs.Ytgnnhomipfjanaa
/- THE CELL 'sum', in the pinned program and in every row, IS THE sha256 OF THE DUMP (.gsa) THAT YtgnnhomipfjanaaProg.lean LOADS. Nothing in Lean hashes anything: it is a label: what it is worth is what the hold of that sum in a sandbox is worth. -/
noncomputable def Try.pinned : Pinned := { name := "ytgnnhomipfjanaa", sum := "bac52d5e37b5ad016f33d53c5929f76fc15b9b3fe005d869fb6b14369eb78ef8", checked := Try.checked }
namespace Rows
def none {H : Type} : Left H := { results := [], args := [] }

/-- 'rundlelaw09.BatchChecks': WHATEVER THE INPUT: true; the input reads as it did. -/
def batchChecksSpec : ChangeSpec := { name := "batchChecks", fn := fun _ => fun
  | [d] => { results := [.lit (.bool true)], args := [d] }
  | _ => none }
def batchChecksRow : OpenClaim := { program := "ytgnnhomipfjanaa", sum := "bac52d5e37b5ad016f33d53c5929f76fc15b9b3fe005d869fb6b14369eb78ef8", func := "rundle/rundlelaw09.BatchChecks", spec := "batchChecks", unfollowed := true, recurses := true, apart := false }
def BatchChecksSaid : Prop := batchChecksRow.holds Try.pinned (OpenSpec.ofChange batchChecksSpec)

/-- ITS FALSE NEIGHBOUR: 'it returns false'. Refute it at one input. -/
def batchChecksWrong : ChangeSpec := { name := "batchChecks", fn := fun _ => fun
  | [d] => { results := [.lit (.bool false)], args := [d] }
  | _ => none }
def BatchChecksWrongFalsely : Prop := batchChecksRow.holds Try.pinned (OpenSpec.ofChange batchChecksWrong)

/-- 'rundlelaw09.BatchBounds': WHATEVER THE INPUT: true; the input reads as it did. -/
def batchBoundsSpec : ChangeSpec := { name := "batchBounds", fn := fun _ => fun
  | [d1, d2, d3] => { results := [.lit (.bool true)], args := [d1, d2, d3] }
  | _ => none }
def batchBoundsRow : OpenClaim := { program := "ytgnnhomipfjanaa", sum := "bac52d5e37b5ad016f33d53c5929f76fc15b9b3fe005d869fb6b14369eb78ef8", func := "rundle/rundlelaw09.BatchBounds", spec := "batchBounds", unfollowed := true, recurses := true, apart := false }
def BatchBoundsSaid : Prop := batchBoundsRow.holds Try.pinned (OpenSpec.ofChange batchBoundsSpec)

/-- ITS FALSE NEIGHBOUR: 'it returns false'. Refute it at one input. -/
def batchBoundsWrong : ChangeSpec := { name := "batchBounds", fn := fun _ => fun
  | [d1, d2, d3] => { results := [.lit (.bool false)], args := [d1, d2, d3] }
  | _ => none }
def BatchBoundsWrongFalsely : Prop := batchBoundsRow.holds Try.pinned (OpenSpec.ofChange batchBoundsWrong)

/-- 'rundlelaw09.BatchWithin': WHATEVER THE INPUT: true; the input reads as it did. -/
def batchWithinSpec : ChangeSpec := { name := "batchWithin", fn := fun _ => fun
  | [d1, d2, d3, d4] => { results := [.lit (.bool true)], args := [d1, d2, d3, d4] }
  | _ => none }
def batchWithinRow : OpenClaim := { program := "ytgnnhomipfjanaa", sum := "bac52d5e37b5ad016f33d53c5929f76fc15b9b3fe005d869fb6b14369eb78ef8", func := "rundle/rundlelaw09.BatchWithin", spec := "batchWithin", unfollowed := true, recurses := true, apart := false }
def BatchWithinSaid : Prop := batchWithinRow.holds Try.pinned (OpenSpec.ofChange batchWithinSpec)

/-- ITS FALSE NEIGHBOUR: 'it returns false'. Refute it at one input. -/
def batchWithinWrong : ChangeSpec := { name := "batchWithin", fn := fun _ => fun
  | [d1, d2, d3, d4] => { results := [.lit (.bool false)], args := [d1, d2, d3, d4] }
  | _ => none }
def BatchWithinWrongFalsely : Prop := batchWithinRow.holds Try.pinned (OpenSpec.ofChange batchWithinWrong)

/-- 'rundlelaw09.BatchParts': WHATEVER THE INPUT: true; the input reads as it did. -/
def batchPartsSpec : ChangeSpec := { name := "batchParts", fn := fun _ => fun
  | [d1, d2, d3, d4] => { results := [.lit (.bool true)], args := [d1, d2, d3, d4] }
  | _ => none }
def batchPartsRow : OpenClaim := { program := "ytgnnhomipfjanaa", sum := "bac52d5e37b5ad016f33d53c5929f76fc15b9b3fe005d869fb6b14369eb78ef8", func := "rundle/rundlelaw09.BatchParts", spec := "batchParts", unfollowed := true, recurses := true, apart := false }
def BatchPartsSaid : Prop := batchPartsRow.holds Try.pinned (OpenSpec.ofChange batchPartsSpec)

/-- ITS FALSE NEIGHBOUR: 'it returns false'. Refute it at one input. -/
def batchPartsWrong : ChangeSpec := { name := "batchParts", fn := fun _ => fun
  | [d1, d2, d3, d4] => { results := [.lit (.bool false)], args := [d1, d2, d3, d4] }
  | _ => none }
def BatchPartsWrongFalsely : Prop := batchPartsRow.holds Try.pinned (OpenSpec.ofChange batchPartsWrong)

/-- 'rundlelaw24.ModelGets': WHATEVER THE INPUT: true; the input reads as it did. -/
def modelGetsSpec : ChangeSpec := { name := "modelGets", fn := fun _ => fun
  | [d1, d2, d3] => { results := [.lit (.bool true)], args := [d1, d2, d3] }
  | _ => none }
def modelGetsRow : OpenClaim := { program := "ytgnnhomipfjanaa", sum := "bac52d5e37b5ad016f33d53c5929f76fc15b9b3fe005d869fb6b14369eb78ef8", func := "rundle/rundlelaw24.ModelGets", spec := "modelGets", unfollowed := true, recurses := true, apart := false }
def ModelGetsSaid : Prop := modelGetsRow.holds Try.pinned (OpenSpec.ofChange modelGetsSpec)

/-- ITS FALSE NEIGHBOUR: 'it returns false'. Refute it at one input. -/
def modelGetsWrong : ChangeSpec := { name := "modelGets", fn := fun _ => fun
  | [d1, d2, d3] => { results := [.lit (.bool false)], args := [d1, d2, d3] }
  | _ => none }
def ModelGetsWrongFalsely : Prop := modelGetsRow.holds Try.pinned (OpenSpec.ofChange modelGetsWrong)

/-- 'rundlelaw24.ModelScans': WHATEVER THE INPUT: true; the input reads as it did. -/
def modelScansSpec : ChangeSpec := { name := "modelScans", fn := fun _ => fun
  | [d1, d2, d3, d4] => { results := [.lit (.bool true)], args := [d1, d2, d3, d4] }
  | _ => none }
def modelScansRow : OpenClaim := { program := "ytgnnhomipfjanaa", sum := "bac52d5e37b5ad016f33d53c5929f76fc15b9b3fe005d869fb6b14369eb78ef8", func := "rundle/rundlelaw24.ModelScans", spec := "modelScans", unfollowed := true, recurses := true, apart := false }
def ModelScansSaid : Prop := modelScansRow.holds Try.pinned (OpenSpec.ofChange modelScansSpec)

/-- ITS FALSE NEIGHBOUR: 'it returns false'. Refute it at one input. -/
def modelScansWrong : ChangeSpec := { name := "modelScans", fn := fun _ => fun
  | [d1, d2, d3, d4] => { results := [.lit (.bool false)], args := [d1, d2, d3, d4] }
  | _ => none }
def ModelScansWrongFalsely : Prop := modelScansRow.holds Try.pinned (OpenSpec.ofChange modelScansWrong)

/-- 'rundlelaw24.ModelKeeps': WHATEVER THE INPUT: true; the input reads as it did. -/
def modelKeepsSpec : ChangeSpec := { name := "modelKeeps", fn := fun _ => fun
  | [d1, d2, d3] => { results := [.lit (.bool true)], args := [d1, d2, d3] }
  | _ => none }
def modelKeepsRow : OpenClaim := { program := "ytgnnhomipfjanaa", sum := "bac52d5e37b5ad016f33d53c5929f76fc15b9b3fe005d869fb6b14369eb78ef8", func := "rundle/rundlelaw24.ModelKeeps", spec := "modelKeeps", unfollowed := true, recurses := true, apart := false }
def ModelKeepsSaid : Prop := modelKeepsRow.holds Try.pinned (OpenSpec.ofChange modelKeepsSpec)

/-- ITS FALSE NEIGHBOUR: 'it returns false'. Refute it at one input. -/
def modelKeepsWrong : ChangeSpec := { name := "modelKeeps", fn := fun _ => fun
  | [d1, d2, d3] => { results := [.lit (.bool false)], args := [d1, d2, d3] }
  | _ => none }
def ModelKeepsWrongFalsely : Prop := modelKeepsRow.holds Try.pinned (OpenSpec.ofChange modelKeepsWrong)

/-- 'rundlelaw24.ModelParts': WHATEVER THE INPUT: true; the input reads as it did. -/
def modelPartsSpec : ChangeSpec := { name := "modelParts", fn := fun _ => fun
  | [d1, d2, d3] => { results := [.lit (.bool true)], args := [d1, d2, d3] }
  | _ => none }
def modelPartsRow : OpenClaim := { program := "ytgnnhomipfjanaa", sum := "bac52d5e37b5ad016f33d53c5929f76fc15b9b3fe005d869fb6b14369eb78ef8", func := "rundle/rundlelaw24.ModelParts", spec := "modelParts", unfollowed := true, recurses := true, apart := false }
def ModelPartsSaid : Prop := modelPartsRow.holds Try.pinned (OpenSpec.ofChange modelPartsSpec)

/-- ITS FALSE NEIGHBOUR: 'it returns false'. Refute it at one input. -/
def modelPartsWrong : ChangeSpec := { name := "modelParts", fn := fun _ => fun
  | [d1, d2, d3] => { results := [.lit (.bool false)], args := [d1, d2, d3] }
  | _ => none }
def ModelPartsWrongFalsely : Prop := modelPartsRow.holds Try.pinned (OpenSpec.ofChange modelPartsWrong)

/-- 'rundlelaw24.ModelAnswers': WHATEVER THE INPUT: true; the input reads as it did. -/
def modelAnswersSpec : ChangeSpec := { name := "modelAnswers", fn := fun _ => fun
  | [d1, d2, d3, d4] => { results := [.lit (.bool true)], args := [d1, d2, d3, d4] }
  | _ => none }
def modelAnswersRow : OpenClaim := { program := "ytgnnhomipfjanaa", sum := "bac52d5e37b5ad016f33d53c5929f76fc15b9b3fe005d869fb6b14369eb78ef8", func := "rundle/rundlelaw24.ModelAnswers", spec := "modelAnswers", unfollowed := true, recurses := true, apart := false }
def ModelAnswersSaid : Prop := modelAnswersRow.holds Try.pinned (OpenSpec.ofChange modelAnswersSpec)

/-- ITS FALSE NEIGHBOUR: 'it returns false'. Refute it at one input. -/
def modelAnswersWrong : ChangeSpec := { name := "modelAnswers", fn := fun _ => fun
  | [d1, d2, d3, d4] => { results := [.lit (.bool false)], args := [d1, d2, d3, d4] }
  | _ => none }
def ModelAnswersWrongFalsely : Prop := modelAnswersRow.holds Try.pinned (OpenSpec.ofChange modelAnswersWrong)

/- THE SECOND FORM. 'bulk': how many values and letters a reading holds, each counted each time it is reached (what is shared counts as often as it is met; a slice's spare places count too). A statement '..UptoSaid' is the law's where the arguments, and the package variables that the reading takes, are together of bulk at most 1048576: NARROWER than '..Said'. Prove '..Said' where nothing that the law and all that it calls make is longer than what came in: it says more and counts as full. Else prove '..UptoSaid'. A law counts once. -/
mutual
def uptoBulk {H : Type} : DataW H → Nat
  | .lit (.string bytes) => bytes.length + 1
  | .lit _ => 1
  | .nil => 1
  | .ptr d => uptoBulk d + 1
  | .slice elems spare => uptoBulkAll elems + uptoBulkAll spare + 1
  | .agg parts => uptoBulkAll parts + 1
  | .iface _ d => uptoBulk d + 1
  | .map entries => uptoBulkEntries entries + 1
  | .held _ => 1
def uptoBulkAll {H : Type} : List (DataW H) → Nat
  | [] => 0
  | d :: r => uptoBulk d + uptoBulkAll r
def uptoBulkEntries {H : Type} : List (Lit × DataW H) → Nat
  | [] => 0
  | x :: r => uptoBulkEntry x + uptoBulkEntries r
def uptoBulkEntry {H : Type} : Lit × DataW H → Nat
  | (.string bytes, d) => bytes.length + uptoBulk d + 1
  | (_, d) => uptoBulk d + 1
 end
def uptoSmall : (H : Type) → List (DataW H) → Bool := fun _ ds => decide (uptoBulkAll ds ≤ 1048576)
def OpenSpec.upto (s : _root_.Go.ChangeSpec) : _root_.Go.OpenSpec := { _root_.Go.OpenSpec.ofChange s with cond := some uptoSmall }

/-- 'rundlelaw09.BatchChecks', WHERE WHAT IT READS IS OF BULK AT MOST 1048576: true; the input reads as it did. -/
def batchChecksUptoRow : OpenClaim := { program := "ytgnnhomipfjanaa", sum := "bac52d5e37b5ad016f33d53c5929f76fc15b9b3fe005d869fb6b14369eb78ef8", func := "rundle/rundlelaw09.BatchChecks", spec := "batchChecks", unfollowed := true, recurses := true, apart := false, narrowed := true }
def BatchChecksUptoSaid : Prop := batchChecksUptoRow.holds Try.pinned (OpenSpec.upto batchChecksSpec)

/-- 'rundlelaw09.BatchBounds', WHERE WHAT IT READS IS OF BULK AT MOST 1048576: true; the input reads as it did. -/
def batchBoundsUptoRow : OpenClaim := { program := "ytgnnhomipfjanaa", sum := "bac52d5e37b5ad016f33d53c5929f76fc15b9b3fe005d869fb6b14369eb78ef8", func := "rundle/rundlelaw09.BatchBounds", spec := "batchBounds", unfollowed := true, recurses := true, apart := false, narrowed := true }
def BatchBoundsUptoSaid : Prop := batchBoundsUptoRow.holds Try.pinned (OpenSpec.upto batchBoundsSpec)

/-- 'rundlelaw09.BatchWithin', WHERE WHAT IT READS IS OF BULK AT MOST 1048576: true; the input reads as it did. -/
def batchWithinUptoRow : OpenClaim := { program := "ytgnnhomipfjanaa", sum := "bac52d5e37b5ad016f33d53c5929f76fc15b9b3fe005d869fb6b14369eb78ef8", func := "rundle/rundlelaw09.BatchWithin", spec := "batchWithin", unfollowed := true, recurses := true, apart := false, narrowed := true }
def BatchWithinUptoSaid : Prop := batchWithinUptoRow.holds Try.pinned (OpenSpec.upto batchWithinSpec)

/-- 'rundlelaw09.BatchParts', WHERE WHAT IT READS IS OF BULK AT MOST 1048576: true; the input reads as it did. -/
def batchPartsUptoRow : OpenClaim := { program := "ytgnnhomipfjanaa", sum := "bac52d5e37b5ad016f33d53c5929f76fc15b9b3fe005d869fb6b14369eb78ef8", func := "rundle/rundlelaw09.BatchParts", spec := "batchParts", unfollowed := true, recurses := true, apart := false, narrowed := true }
def BatchPartsUptoSaid : Prop := batchPartsUptoRow.holds Try.pinned (OpenSpec.upto batchPartsSpec)

/-- 'rundlelaw24.ModelGets', WHERE WHAT IT READS IS OF BULK AT MOST 1048576: true; the input reads as it did. -/
def modelGetsUptoRow : OpenClaim := { program := "ytgnnhomipfjanaa", sum := "bac52d5e37b5ad016f33d53c5929f76fc15b9b3fe005d869fb6b14369eb78ef8", func := "rundle/rundlelaw24.ModelGets", spec := "modelGets", unfollowed := true, recurses := true, apart := false, narrowed := true }
def ModelGetsUptoSaid : Prop := modelGetsUptoRow.holds Try.pinned (OpenSpec.upto modelGetsSpec)

/-- 'rundlelaw24.ModelScans', WHERE WHAT IT READS IS OF BULK AT MOST 1048576: true; the input reads as it did. -/
def modelScansUptoRow : OpenClaim := { program := "ytgnnhomipfjanaa", sum := "bac52d5e37b5ad016f33d53c5929f76fc15b9b3fe005d869fb6b14369eb78ef8", func := "rundle/rundlelaw24.ModelScans", spec := "modelScans", unfollowed := true, recurses := true, apart := false, narrowed := true }
def ModelScansUptoSaid : Prop := modelScansUptoRow.holds Try.pinned (OpenSpec.upto modelScansSpec)

/-- 'rundlelaw24.ModelKeeps', WHERE WHAT IT READS IS OF BULK AT MOST 1048576: true; the input reads as it did. -/
def modelKeepsUptoRow : OpenClaim := { program := "ytgnnhomipfjanaa", sum := "bac52d5e37b5ad016f33d53c5929f76fc15b9b3fe005d869fb6b14369eb78ef8", func := "rundle/rundlelaw24.ModelKeeps", spec := "modelKeeps", unfollowed := true, recurses := true, apart := false, narrowed := true }
def ModelKeepsUptoSaid : Prop := modelKeepsUptoRow.holds Try.pinned (OpenSpec.upto modelKeepsSpec)

/-- 'rundlelaw24.ModelParts', WHERE WHAT IT READS IS OF BULK AT MOST 1048576: true; the input reads as it did. -/
def modelPartsUptoRow : OpenClaim := { program := "ytgnnhomipfjanaa", sum := "bac52d5e37b5ad016f33d53c5929f76fc15b9b3fe005d869fb6b14369eb78ef8", func := "rundle/rundlelaw24.ModelParts", spec := "modelParts", unfollowed := true, recurses := true, apart := false, narrowed := true }
def ModelPartsUptoSaid : Prop := modelPartsUptoRow.holds Try.pinned (OpenSpec.upto modelPartsSpec)

/-- 'rundlelaw24.ModelAnswers', WHERE WHAT IT READS IS OF BULK AT MOST 1048576: true; the input reads as it did. -/
def modelAnswersUptoRow : OpenClaim := { program := "ytgnnhomipfjanaa", sum := "bac52d5e37b5ad016f33d53c5929f76fc15b9b3fe005d869fb6b14369eb78ef8", func := "rundle/rundlelaw24.ModelAnswers", spec := "modelAnswers", unfollowed := true, recurses := true, apart := false, narrowed := true }
def ModelAnswersUptoSaid : Prop := modelAnswersUptoRow.holds Try.pinned (OpenSpec.upto modelAnswersSpec)

end Rows
end Go.Proofs.Ytgnnhomipfjanaa
