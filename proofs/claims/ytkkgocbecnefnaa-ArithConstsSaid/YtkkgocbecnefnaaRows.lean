/-
  No cell of these rows narrows 'for every input' (looked for: loops, veiled, ifaces, maps, wideKeys, modest, calm, conditions, laid).
  DERIVED. THE GIVEN ROWS OF THIS SEAT. 6 by the template 'for every input the law returns true; each argument reads behind the call as it read before'; 0 by the template 'total and deterministic' (their statements: YtkkgocbecnefnaaTotals.lean).
  GIVEN WITH THE SEED: the statements are not yours to turn. If you find one false, say at which input.
  Laid BY PROGRAM, IN A SANDBOX (cutbox-rows.mjs): the forced cells as the released guide's own fill.sh prints them over the translation f40dcbb6845c718a… (all of the seat's roots in one cut). By AI agents, Wed Nov 11 2026. No macro, syntax, notation, axiom, sorry.
-/
import Derived.Test.YtkkgocbecnefnaaChecked
import GoSem.Claim
import GoSem.ClaimJoined
import GoSem.ClaimMapViews
import Derived.JoinedTies
import Derived.KernelRfl
namespace Go.Proofs.Ytkkgocbecnefnaa
/- THE CELL 'sum', in the pinned program and in every row, IS THE sha256 OF THE DUMP (.gsa) THAT YtkkgocbecnefnaaProg.lean LOADS. Nothing in Lean hashes anything: it is a label: what it is worth is what the hold of that sum in a sandbox is worth. -/
noncomputable def Try.pinned : Pinned := { name := "ytkkgocbecnefnaa", sum := "f40dcbb6845c718a494cf15c6dbc2a4468ec422b10e48519b71b62ca57998384", checked := Try.checked }
namespace Rows
def none {H : Type} : Left H := { results := [], args := [] }

/-- 'spinetlaw20.ArithTexts': WHATEVER THE INPUT: true; the input reads as it did. -/
def arithTextsSpec : ChangeSpec := { name := "arithTexts", fn := fun _ => fun
  | [d1, d2, d3] => { results := [.lit (.bool true)], args := [d1, d2, d3] }
  | _ => none }
def arithTextsRow : OpenClaim := { program := "ytkkgocbecnefnaa", sum := "f40dcbb6845c718a494cf15c6dbc2a4468ec422b10e48519b71b62ca57998384", func := "spinet/spinetlaw20.ArithTexts", spec := "arithTexts", inPlace := ["internal/bytealg.IndexByteString", "internal/bytealg.IndexString", "internal/bytealg.abigen_runtime_cmpstring"], unfollowed := true, recurses := true, named := ["internal/bytealg.MaxLen"], plainKeys := false, apart := false }
def ArithTextsSaid : Prop := arithTextsRow.holds Try.pinned (OpenSpec.ofChange arithTextsSpec)

/-- ITS FALSE NEIGHBOUR: 'it returns false'. Refute it at one input. -/
def arithTextsWrong : ChangeSpec := { name := "arithTexts", fn := fun _ => fun
  | [d1, d2, d3] => { results := [.lit (.bool false)], args := [d1, d2, d3] }
  | _ => none }
def ArithTextsWrongFalsely : Prop := arithTextsRow.holds Try.pinned (OpenSpec.ofChange arithTextsWrong)

/-- 'spinetlaw20.ArithInts': WHATEVER THE INPUT: true; the input reads as it did. -/
def arithIntsSpec : ChangeSpec := { name := "arithInts", fn := fun _ => fun
  | [d1, d2, d3] => { results := [.lit (.bool true)], args := [d1, d2, d3] }
  | _ => none }
def arithIntsRow : OpenClaim := { program := "ytkkgocbecnefnaa", sum := "f40dcbb6845c718a494cf15c6dbc2a4468ec422b10e48519b71b62ca57998384", func := "spinet/spinetlaw20.ArithInts", spec := "arithInts", inPlace := ["internal/bytealg.IndexByteString", "internal/bytealg.IndexString", "internal/bytealg.abigen_runtime_cmpstring"], unfollowed := true, recurses := true, named := ["internal/bytealg.MaxLen"], plainKeys := false, apart := false }
def ArithIntsSaid : Prop := arithIntsRow.holds Try.pinned (OpenSpec.ofChange arithIntsSpec)

/-- ITS FALSE NEIGHBOUR: 'it returns false'. Refute it at one input. -/
def arithIntsWrong : ChangeSpec := { name := "arithInts", fn := fun _ => fun
  | [d1, d2, d3] => { results := [.lit (.bool false)], args := [d1, d2, d3] }
  | _ => none }
def ArithIntsWrongFalsely : Prop := arithIntsRow.holds Try.pinned (OpenSpec.ofChange arithIntsWrong)

/-- 'spinetlaw20.ArithSets': WHATEVER THE INPUT: true; the input reads as it did. -/
def arithSetsSpec : ChangeSpec := { name := "arithSets", fn := fun _ => fun
  | [d1, d2, d3] => { results := [.lit (.bool true)], args := [d1, d2, d3] }
  | _ => none }
def arithSetsRow : OpenClaim := { program := "ytkkgocbecnefnaa", sum := "f40dcbb6845c718a494cf15c6dbc2a4468ec422b10e48519b71b62ca57998384", func := "spinet/spinetlaw20.ArithSets", spec := "arithSets", inPlace := ["internal/bytealg.IndexByteString", "internal/bytealg.IndexString", "internal/bytealg.abigen_runtime_cmpstring"], unfollowed := true, recurses := true, named := ["internal/bytealg.MaxLen"], plainKeys := false, apart := false }
def ArithSetsSaid : Prop := arithSetsRow.holds Try.pinned (OpenSpec.ofChange arithSetsSpec)

/-- ITS FALSE NEIGHBOUR: 'it returns false'. Refute it at one input. -/
def arithSetsWrong : ChangeSpec := { name := "arithSets", fn := fun _ => fun
  | [d1, d2, d3] => { results := [.lit (.bool false)], args := [d1, d2, d3] }
  | _ => none }
def ArithSetsWrongFalsely : Prop := arithSetsRow.holds Try.pinned (OpenSpec.ofChange arithSetsWrong)

/-- 'spinetlaw20.ArithTurns': WHATEVER THE INPUT: true; the input reads as it did. -/
def arithTurnsSpec : ChangeSpec := { name := "arithTurns", fn := fun _ => fun
  | [d1, d2, d3] => { results := [.lit (.bool true)], args := [d1, d2, d3] }
  | _ => none }
def arithTurnsRow : OpenClaim := { program := "ytkkgocbecnefnaa", sum := "f40dcbb6845c718a494cf15c6dbc2a4468ec422b10e48519b71b62ca57998384", func := "spinet/spinetlaw20.ArithTurns", spec := "arithTurns", inPlace := ["internal/bytealg.IndexByteString", "internal/bytealg.IndexString", "internal/bytealg.abigen_runtime_cmpstring"], unfollowed := true, recurses := true, named := ["internal/bytealg.MaxLen"], plainKeys := false, apart := false }
def ArithTurnsSaid : Prop := arithTurnsRow.holds Try.pinned (OpenSpec.ofChange arithTurnsSpec)

/-- ITS FALSE NEIGHBOUR: 'it returns false'. Refute it at one input. -/
def arithTurnsWrong : ChangeSpec := { name := "arithTurns", fn := fun _ => fun
  | [d1, d2, d3] => { results := [.lit (.bool false)], args := [d1, d2, d3] }
  | _ => none }
def ArithTurnsWrongFalsely : Prop := arithTurnsRow.holds Try.pinned (OpenSpec.ofChange arithTurnsWrong)

/-- 'spinetlaw20.ArithCalls': WHATEVER THE INPUT: true; the input reads as it did. -/
def arithCallsSpec : ChangeSpec := { name := "arithCalls", fn := fun _ => fun
  | [d1, d2, d3] => { results := [.lit (.bool true)], args := [d1, d2, d3] }
  | _ => none }
def arithCallsRow : OpenClaim := { program := "ytkkgocbecnefnaa", sum := "f40dcbb6845c718a494cf15c6dbc2a4468ec422b10e48519b71b62ca57998384", func := "spinet/spinetlaw20.ArithCalls", spec := "arithCalls", inPlace := ["internal/bytealg.IndexByteString", "internal/bytealg.IndexString", "internal/bytealg.abigen_runtime_cmpstring"], unfollowed := true, recurses := true, named := ["internal/bytealg.MaxLen"], plainKeys := false, apart := false }
def ArithCallsSaid : Prop := arithCallsRow.holds Try.pinned (OpenSpec.ofChange arithCallsSpec)

/-- ITS FALSE NEIGHBOUR: 'it returns false'. Refute it at one input. -/
def arithCallsWrong : ChangeSpec := { name := "arithCalls", fn := fun _ => fun
  | [d1, d2, d3] => { results := [.lit (.bool false)], args := [d1, d2, d3] }
  | _ => none }
def ArithCallsWrongFalsely : Prop := arithCallsRow.holds Try.pinned (OpenSpec.ofChange arithCallsWrong)

/-- 'spinetlaw20.ArithConsts': WHATEVER THE INPUT: true; the input reads as it did. -/
def arithConstsSpec : ChangeSpec := { name := "arithConsts", fn := fun _ => fun
  | [d1, d2, d3] => { results := [.lit (.bool true)], args := [d1, d2, d3] }
  | _ => none }
def arithConstsRow : OpenClaim := { program := "ytkkgocbecnefnaa", sum := "f40dcbb6845c718a494cf15c6dbc2a4468ec422b10e48519b71b62ca57998384", func := "spinet/spinetlaw20.ArithConsts", spec := "arithConsts", inPlace := ["internal/bytealg.abigen_runtime_cmpstring", "internal/bytealg.IndexByteString", "internal/bytealg.IndexString"], unfollowed := true, recurses := true, named := ["internal/bytealg.MaxLen"], plainKeys := false, apart := false }
def ArithConstsSaid : Prop := arithConstsRow.holds Try.pinned (OpenSpec.ofChange arithConstsSpec)

/-- ITS FALSE NEIGHBOUR: 'it returns false'. Refute it at one input. -/
def arithConstsWrong : ChangeSpec := { name := "arithConsts", fn := fun _ => fun
  | [d1, d2, d3] => { results := [.lit (.bool false)], args := [d1, d2, d3] }
  | _ => none }
def ArithConstsWrongFalsely : Prop := arithConstsRow.holds Try.pinned (OpenSpec.ofChange arithConstsWrong)

/- THE SECOND FORM. 'bulk': how many values and letters a reading holds, each counted each time it is reached (what is shared counts as often as it is met; a slice's spare places count too). A statement '..UptoSaid' is the law's where the arguments, and the package variables that the reading takes, are together of bulk at most 1048576: NARROWER than '..Said'. Prove '..Said' where nothing that the law and all that it calls make is longer than what came in: it says more and counts as full. Else prove '..UptoSaid'. A law counts once. -/
mutual
def uptoBulk {H : Type} : DataW H → Nat
  | .lit (.string bytes) => bytes.length + 1
  | .lit _ => 1
  | .nil => 1
  | .ptr d => uptoBulk d + 1
  | .slice elems spare => uptoBulkAll elems + uptoBulkAll spare + 1
  | .agg parts => uptoBulkAll parts + 1
  | .iface _ d => uptoBulk d + 1
  | .map entries => uptoBulkEntries entries + 1
  | .held _ => 1
def uptoBulkAll {H : Type} : List (DataW H) → Nat
  | [] => 0
  | d :: r => uptoBulk d + uptoBulkAll r
def uptoBulkEntries {H : Type} : List (Lit × DataW H) → Nat
  | [] => 0
  | x :: r => uptoBulkEntry x + uptoBulkEntries r
def uptoBulkEntry {H : Type} : Lit × DataW H → Nat
  | (.string bytes, d) => bytes.length + uptoBulk d + 1
  | (_, d) => uptoBulk d + 1
 end
def uptoSmall : (H : Type) → List (DataW H) → Bool := fun _ ds => decide (uptoBulkAll ds ≤ 1048576)
def OpenSpec.upto (s : _root_.Go.ChangeSpec) : _root_.Go.OpenSpec := { _root_.Go.OpenSpec.ofChange s with cond := some uptoSmall }

/-- 'spinetlaw20.ArithTexts', WHERE WHAT IT READS IS OF BULK AT MOST 1048576: true; the input reads as it did. -/
def arithTextsUptoRow : OpenClaim := { program := "ytkkgocbecnefnaa", sum := "f40dcbb6845c718a494cf15c6dbc2a4468ec422b10e48519b71b62ca57998384", func := "spinet/spinetlaw20.ArithTexts", spec := "arithTexts", inPlace := ["internal/bytealg.IndexByteString", "internal/bytealg.IndexString", "internal/bytealg.abigen_runtime_cmpstring"], unfollowed := true, recurses := true, named := ["internal/bytealg.MaxLen"], plainKeys := false, apart := false, narrowed := true }
def ArithTextsUptoSaid : Prop := arithTextsUptoRow.holds Try.pinned (OpenSpec.upto arithTextsSpec)

/-- 'spinetlaw20.ArithInts', WHERE WHAT IT READS IS OF BULK AT MOST 1048576: true; the input reads as it did. -/
def arithIntsUptoRow : OpenClaim := { program := "ytkkgocbecnefnaa", sum := "f40dcbb6845c718a494cf15c6dbc2a4468ec422b10e48519b71b62ca57998384", func := "spinet/spinetlaw20.ArithInts", spec := "arithInts", inPlace := ["internal/bytealg.IndexByteString", "internal/bytealg.IndexString", "internal/bytealg.abigen_runtime_cmpstring"], unfollowed := true, recurses := true, named := ["internal/bytealg.MaxLen"], plainKeys := false, apart := false, narrowed := true }
def ArithIntsUptoSaid : Prop := arithIntsUptoRow.holds Try.pinned (OpenSpec.upto arithIntsSpec)

/-- 'spinetlaw20.ArithSets', WHERE WHAT IT READS IS OF BULK AT MOST 1048576: true; the input reads as it did. -/
def arithSetsUptoRow : OpenClaim := { program := "ytkkgocbecnefnaa", sum := "f40dcbb6845c718a494cf15c6dbc2a4468ec422b10e48519b71b62ca57998384", func := "spinet/spinetlaw20.ArithSets", spec := "arithSets", inPlace := ["internal/bytealg.IndexByteString", "internal/bytealg.IndexString", "internal/bytealg.abigen_runtime_cmpstring"], unfollowed := true, recurses := true, named := ["internal/bytealg.MaxLen"], plainKeys := false, apart := false, narrowed := true }
def ArithSetsUptoSaid : Prop := arithSetsUptoRow.holds Try.pinned (OpenSpec.upto arithSetsSpec)

/-- 'spinetlaw20.ArithTurns', WHERE WHAT IT READS IS OF BULK AT MOST 1048576: true; the input reads as it did. -/
def arithTurnsUptoRow : OpenClaim := { program := "ytkkgocbecnefnaa", sum := "f40dcbb6845c718a494cf15c6dbc2a4468ec422b10e48519b71b62ca57998384", func := "spinet/spinetlaw20.ArithTurns", spec := "arithTurns", inPlace := ["internal/bytealg.IndexByteString", "internal/bytealg.IndexString", "internal/bytealg.abigen_runtime_cmpstring"], unfollowed := true, recurses := true, named := ["internal/bytealg.MaxLen"], plainKeys := false, apart := false, narrowed := true }
def ArithTurnsUptoSaid : Prop := arithTurnsUptoRow.holds Try.pinned (OpenSpec.upto arithTurnsSpec)

/-- 'spinetlaw20.ArithCalls', WHERE WHAT IT READS IS OF BULK AT MOST 1048576: true; the input reads as it did. -/
def arithCallsUptoRow : OpenClaim := { program := "ytkkgocbecnefnaa", sum := "f40dcbb6845c718a494cf15c6dbc2a4468ec422b10e48519b71b62ca57998384", func := "spinet/spinetlaw20.ArithCalls", spec := "arithCalls", inPlace := ["internal/bytealg.IndexByteString", "internal/bytealg.IndexString", "internal/bytealg.abigen_runtime_cmpstring"], unfollowed := true, recurses := true, named := ["internal/bytealg.MaxLen"], plainKeys := false, apart := false, narrowed := true }
def ArithCallsUptoSaid : Prop := arithCallsUptoRow.holds Try.pinned (OpenSpec.upto arithCallsSpec)

/-- 'spinetlaw20.ArithConsts', WHERE WHAT IT READS IS OF BULK AT MOST 1048576: true; the input reads as it did. -/
def arithConstsUptoRow : OpenClaim := { program := "ytkkgocbecnefnaa", sum := "f40dcbb6845c718a494cf15c6dbc2a4468ec422b10e48519b71b62ca57998384", func := "spinet/spinetlaw20.ArithConsts", spec := "arithConsts", inPlace := ["internal/bytealg.abigen_runtime_cmpstring", "internal/bytealg.IndexByteString", "internal/bytealg.IndexString"], unfollowed := true, recurses := true, named := ["internal/bytealg.MaxLen"], plainKeys := false, apart := false, narrowed := true }
def ArithConstsUptoSaid : Prop := arithConstsUptoRow.holds Try.pinned (OpenSpec.upto arithConstsSpec)

end Rows
end Go.Proofs.Ytkkgocbecnefnaa
