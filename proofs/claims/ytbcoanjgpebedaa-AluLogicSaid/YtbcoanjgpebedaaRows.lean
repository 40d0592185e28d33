/-
  No cell of these rows narrows 'for every input' (looked for: loops, veiled, ifaces, maps, wideKeys, modest, calm, conditions, laid).
  DERIVED. THE GIVEN ROWS OF THIS SEAT. 6 by the template 'for every input the law returns true; each argument reads behind the call as it read before'; 0 by the template 'total and deterministic' (their statements: YtbcoanjgpebedaaTotals.lean).
  GIVEN WITH THE SEED: the statements are not yours to turn. If you find one false, say at which input.
  Laid BY PROGRAM, IN A SANDBOX (cutbox-rows.mjs): the forced cells as the released guide's own fill.sh prints them over the translation c8f5edf5ba0a2510… (all of the seat's roots in one cut). By AI agents, Wed Nov 11 2026. No macro, syntax, notation, axiom, sorry.
-/
import Derived.Test.YtbcoanjgpebedaaChecked
import GoSem.Claim
import GoSem.ClaimJoined
import GoSem.ClaimMapViews
import Derived.JoinedTies
import Derived.KernelRfl
namespace Go.Proofs.Ytbcoanjgpebedaa
/- THE CELL 'sum', in the pinned program and in every row, IS THE sha256 OF THE DUMP (.gsa) THAT YtbcoanjgpebedaaProg.lean LOADS. Nothing in Lean hashes anything: it is a label: what it is worth is what the hold of that sum in a sandbox is worth. -/
noncomputable def Try.pinned : Pinned := { name := "ytbcoanjgpebedaa", sum := "c8f5edf5ba0a2510486fae7baac7982d4a56c0976b9c26ed6073686131127ed5", checked := Try.checked }
namespace Rows
def none {H : Type} : Left H := { results := [], args := [] }

/-- 'spinetlaw03.AluDoes': WHATEVER THE INPUT: true; the input reads as it did. -/
def aluDoesSpec : ChangeSpec := { name := "aluDoes", fn := fun _ => fun
  | [d] => { results := [.lit (.bool true)], args := [d] }
  | _ => none }
def aluDoesRow : OpenClaim := { program := "ytbcoanjgpebedaa", sum := "c8f5edf5ba0a2510486fae7baac7982d4a56c0976b9c26ed6073686131127ed5", func := "spinet/spinetlaw03.AluDoes", spec := "aluDoes", apart := false }
def AluDoesSaid : Prop := aluDoesRow.holds Try.pinned (OpenSpec.ofChange aluDoesSpec)

/-- ITS FALSE NEIGHBOUR: 'it returns false'. Refute it at one input. -/
def aluDoesWrong : ChangeSpec := { name := "aluDoes", fn := fun _ => fun
  | [d] => { results := [.lit (.bool false)], args := [d] }
  | _ => none }
def AluDoesWrongFalsely : Prop := aluDoesRow.holds Try.pinned (OpenSpec.ofChange aluDoesWrong)

/-- 'spinetlaw03.AluHolds': WHATEVER THE INPUT: true; the input reads as it did. -/
def aluHoldsSpec : ChangeSpec := { name := "aluHolds", fn := fun _ => fun
  | [d1, d2] => { results := [.lit (.bool true)], args := [d1, d2] }
  | _ => none }
def aluHoldsRow : OpenClaim := { program := "ytbcoanjgpebedaa", sum := "c8f5edf5ba0a2510486fae7baac7982d4a56c0976b9c26ed6073686131127ed5", func := "spinet/spinetlaw03.AluHolds", spec := "aluHolds", apart := false }
def AluHoldsSaid : Prop := aluHoldsRow.holds Try.pinned (OpenSpec.ofChange aluHoldsSpec)

/-- ITS FALSE NEIGHBOUR: 'it returns false'. Refute it at one input. -/
def aluHoldsWrong : ChangeSpec := { name := "aluHolds", fn := fun _ => fun
  | [d1, d2] => { results := [.lit (.bool false)], args := [d1, d2] }
  | _ => none }
def AluHoldsWrongFalsely : Prop := aluHoldsRow.holds Try.pinned (OpenSpec.ofChange aluHoldsWrong)

/-- 'spinetlaw03.AluCompares': WHATEVER THE INPUT: true; the input reads as it did. -/
def aluComparesSpec : ChangeSpec := { name := "aluCompares", fn := fun _ => fun
  | [d] => { results := [.lit (.bool true)], args := [d] }
  | _ => none }
def aluComparesRow : OpenClaim := { program := "ytbcoanjgpebedaa", sum := "c8f5edf5ba0a2510486fae7baac7982d4a56c0976b9c26ed6073686131127ed5", func := "spinet/spinetlaw03.AluCompares", spec := "aluCompares", apart := false }
def AluComparesSaid : Prop := aluComparesRow.holds Try.pinned (OpenSpec.ofChange aluComparesSpec)

/-- ITS FALSE NEIGHBOUR: 'it returns false'. Refute it at one input. -/
def aluComparesWrong : ChangeSpec := { name := "aluCompares", fn := fun _ => fun
  | [d] => { results := [.lit (.bool false)], args := [d] }
  | _ => none }
def AluComparesWrongFalsely : Prop := aluComparesRow.holds Try.pinned (OpenSpec.ofChange aluComparesWrong)

/-- 'spinetlaw03.AluDivides': WHATEVER THE INPUT: true; the input reads as it did. -/
def aluDividesSpec : ChangeSpec := { name := "aluDivides", fn := fun _ => fun
  | [d1, d2, d3] => { results := [.lit (.bool true)], args := [d1, d2, d3] }
  | _ => none }
def aluDividesRow : OpenClaim := { program := "ytbcoanjgpebedaa", sum := "c8f5edf5ba0a2510486fae7baac7982d4a56c0976b9c26ed6073686131127ed5", func := "spinet/spinetlaw03.AluDivides", spec := "aluDivides", apart := false }
def AluDividesSaid : Prop := aluDividesRow.holds Try.pinned (OpenSpec.ofChange aluDividesSpec)

/-- ITS FALSE NEIGHBOUR: 'it returns false'. Refute it at one input. -/
def aluDividesWrong : ChangeSpec := { name := "aluDivides", fn := fun _ => fun
  | [d1, d2, d3] => { results := [.lit (.bool false)], args := [d1, d2, d3] }
  | _ => none }
def AluDividesWrongFalsely : Prop := aluDividesRow.holds Try.pinned (OpenSpec.ofChange aluDividesWrong)

/-- 'spinetlaw03.AluWide': WHATEVER THE INPUT: true; the input reads as it did. -/
def aluWideSpec : ChangeSpec := { name := "aluWide", fn := fun _ => fun
  | [d] => { results := [.lit (.bool true)], args := [d] }
  | _ => none }
def aluWideRow : OpenClaim := { program := "ytbcoanjgpebedaa", sum := "c8f5edf5ba0a2510486fae7baac7982d4a56c0976b9c26ed6073686131127ed5", func := "spinet/spinetlaw03.AluWide", spec := "aluWide", apart := false }
def AluWideSaid : Prop := aluWideRow.holds Try.pinned (OpenSpec.ofChange aluWideSpec)

/-- ITS FALSE NEIGHBOUR: 'it returns false'. Refute it at one input. -/
def aluWideWrong : ChangeSpec := { name := "aluWide", fn := fun _ => fun
  | [d] => { results := [.lit (.bool false)], args := [d] }
  | _ => none }
def AluWideWrongFalsely : Prop := aluWideRow.holds Try.pinned (OpenSpec.ofChange aluWideWrong)

/-- 'spinetlaw03.AluLogic': WHATEVER THE INPUT: true; the input reads as it did. -/
def aluLogicSpec : ChangeSpec := { name := "aluLogic", fn := fun _ => fun
  | [d] => { results := [.lit (.bool true)], args := [d] }
  | _ => none }
def aluLogicRow : OpenClaim := { program := "ytbcoanjgpebedaa", sum := "c8f5edf5ba0a2510486fae7baac7982d4a56c0976b9c26ed6073686131127ed5", func := "spinet/spinetlaw03.AluLogic", spec := "aluLogic", apart := false }
def AluLogicSaid : Prop := aluLogicRow.holds Try.pinned (OpenSpec.ofChange aluLogicSpec)

/-- ITS FALSE NEIGHBOUR: 'it returns false'. Refute it at one input. -/
def aluLogicWrong : ChangeSpec := { name := "aluLogic", fn := fun _ => fun
  | [d] => { results := [.lit (.bool false)], args := [d] }
  | _ => none }
def AluLogicWrongFalsely : Prop := aluLogicRow.holds Try.pinned (OpenSpec.ofChange aluLogicWrong)

/- THE SECOND FORM. 'bulk': how many values and letters a reading holds, each counted each time it is reached (what is shared counts as often as it is met; a slice's spare places count too). A statement '..UptoSaid' is the law's where the arguments, and the package variables that the reading takes, are together of bulk at most 1048576: NARROWER than '..Said'. Prove '..Said' where nothing that the law and all that it calls make is longer than what came in: it says more and counts as full. Else prove '..UptoSaid'. A law counts once. -/
mutual
def uptoBulk {H : Type} : DataW H → Nat
  | .lit (.string bytes) => bytes.length + 1
  | .lit _ => 1
  | .nil => 1
  | .ptr d => uptoBulk d + 1
  | .slice elems spare => uptoBulkAll elems + uptoBulkAll spare + 1
  | .agg parts => uptoBulkAll parts + 1
  | .iface _ d => uptoBulk d + 1
  | .map entries => uptoBulkEntries entries + 1
  | .held _ => 1
def uptoBulkAll {H : Type} : List (DataW H) → Nat
  | [] => 0
  | d :: r => uptoBulk d + uptoBulkAll r
def uptoBulkEntries {H : Type} : List (Lit × DataW H) → Nat
  | [] => 0
  | x :: r => uptoBulkEntry x + uptoBulkEntries r
def uptoBulkEntry {H : Type} : Lit × DataW H → Nat
  | (.string bytes, d) => bytes.length + uptoBulk d + 1
  | (_, d) => uptoBulk d + 1
 end
def uptoSmall : (H : Type) → List (DataW H) → Bool := fun _ ds => decide (uptoBulkAll ds ≤ 1048576)
def OpenSpec.upto (s : _root_.Go.ChangeSpec) : _root_.Go.OpenSpec := { _root_.Go.OpenSpec.ofChange s with cond := some uptoSmall }

/-- 'spinetlaw03.AluDoes', WHERE WHAT IT READS IS OF BULK AT MOST 1048576: true; the input reads as it did. -/
def aluDoesUptoRow : OpenClaim := { program := "ytbcoanjgpebedaa", sum := "c8f5edf5ba0a2510486fae7baac7982d4a56c0976b9c26ed6073686131127ed5", func := "spinet/spinetlaw03.AluDoes", spec := "aluDoes", apart := false, narrowed := true }
def AluDoesUptoSaid : Prop := aluDoesUptoRow.holds Try.pinned (OpenSpec.upto aluDoesSpec)

/-- 'spinetlaw03.AluHolds', WHERE WHAT IT READS IS OF BULK AT MOST 1048576: true; the input reads as it did. -/
def aluHoldsUptoRow : OpenClaim := { program := "ytbcoanjgpebedaa", sum := "c8f5edf5ba0a2510486fae7baac7982d4a56c0976b9c26ed6073686131127ed5", func := "spinet/spinetlaw03.AluHolds", spec := "aluHolds", apart := false, narrowed := true }
def AluHoldsUptoSaid : Prop := aluHoldsUptoRow.holds Try.pinned (OpenSpec.upto aluHoldsSpec)

/-- 'spinetlaw03.AluCompares', WHERE WHAT IT READS IS OF BULK AT MOST 1048576: true; the input reads as it did. -/
def aluComparesUptoRow : OpenClaim := { program := "ytbcoanjgpebedaa", sum := "c8f5edf5ba0a2510486fae7baac7982d4a56c0976b9c26ed6073686131127ed5", func := "spinet/spinetlaw03.AluCompares", spec := "aluCompares", apart := false, narrowed := true }
def AluComparesUptoSaid : Prop := aluComparesUptoRow.holds Try.pinned (OpenSpec.upto aluComparesSpec)

/-- 'spinetlaw03.AluDivides', WHERE WHAT IT READS IS OF BULK AT MOST 1048576: true; the input reads as it did. -/
def aluDividesUptoRow : OpenClaim := { program := "ytbcoanjgpebedaa", sum := "c8f5edf5ba0a2510486fae7baac7982d4a56c0976b9c26ed6073686131127ed5", func := "spinet/spinetlaw03.AluDivides", spec := "aluDivides", apart := false, narrowed := true }
def AluDividesUptoSaid : Prop := aluDividesUptoRow.holds Try.pinned (OpenSpec.upto aluDividesSpec)

/-- 'spinetlaw03.AluWide', WHERE WHAT IT READS IS OF BULK AT MOST 1048576: true; the input reads as it did. -/
def aluWideUptoRow : OpenClaim := { program := "ytbcoanjgpebedaa", sum := "c8f5edf5ba0a2510486fae7baac7982d4a56c0976b9c26ed6073686131127ed5", func := "spinet/spinetlaw03.AluWide", spec := "aluWide", apart := false, narrowed := true }
def AluWideUptoSaid : Prop := aluWideUptoRow.holds Try.pinned (OpenSpec.upto aluWideSpec)

/-- 'spinetlaw03.AluLogic', WHERE WHAT IT READS IS OF BULK AT MOST 1048576: true; the input reads as it did. -/
def aluLogicUptoRow : OpenClaim := { program := "ytbcoanjgpebedaa", sum := "c8f5edf5ba0a2510486fae7baac7982d4a56c0976b9c26ed6073686131127ed5", func := "spinet/spinetlaw03.AluLogic", spec := "aluLogic", apart := false, narrowed := true }
def AluLogicUptoSaid : Prop := aluLogicUptoRow.holds Try.pinned (OpenSpec.upto aluLogicSpec)

end Rows
end Go.Proofs.Ytbcoanjgpebedaa
