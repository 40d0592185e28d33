/-
  No cell of these rows narrows 'for every input' (looked for: loops, veiled, ifaces, maps, wideKeys, modest, calm, conditions, laid).
  DERIVED. THE GIVEN ROWS OF THIS SEAT. 7 by the template 'for every input the law returns true; each argument reads behind the call as it read before'; 0 by the template 'total and deterministic' (their statements: YtjimcgmefpienaaTotals.lean).
  GIVEN WITH THE SEED: the statements are not yours to turn. If you find one false, say at which input.
  Laid BY PROGRAM, IN A SANDBOX (cutbox-rows.mjs): the forced cells as the released guide's own fill.sh prints them over the translation 3402fe0efc7291ca… (all of the seat's roots in one cut). By AI agents, Wed Nov 11 2026. No macro, syntax, notation, axiom, sorry.
-/
import Derived.Test.YtjimcgmefpienaaChecked
import GoSem.Claim
import GoSem.ClaimJoined
import GoSem.ClaimMapViews
import Derived.JoinedTies
import Derived.KernelRfl
namespace Go.Proofs.Ytjimcgmefpienaa
/- THE CELL 'sum', in the pinned program and in every row, IS THE sha256 OF THE DUMP (.gsa) THAT YtjimcgmefpienaaProg.lean LOADS. Nothing in Lean hashes anything: it is a label: what it is worth is what the hold of that sum in a sandbox is worth. -/
noncomputable def Try.pinned : Pinned := { name := "ytjimcgmefpienaa", sum := "3402fe0efc7291ca0d86384bbfd2c5bc2245a38969994157993e479d7e2b6e92", checked := Try.checked }
namespace Rows
def none {H : Type} : Left H := { results := [], args := [] }

/-- 'spinetlaw12.ConstsTwo': WHATEVER THE INPUT: true; the input reads as it did. -/
def constsTwoSpec : ChangeSpec := { name := "constsTwo", fn := fun _ => fun
  | [d1, d2, d3] => { results := [.lit (.bool true)], args := [d1, d2, d3] }
  | _ => none }
def constsTwoRow : OpenClaim := { program := "ytjimcgmefpienaa", sum := "3402fe0efc7291ca0d86384bbfd2c5bc2245a38969994157993e479d7e2b6e92", func := "spinet/spinetlaw12.ConstsTwo", spec := "constsTwo", inPlace := ["internal/bytealg.abigen_runtime_cmpstring"], unfollowed := true, recurses := true, plainKeys := false, apart := false }
def ConstsTwoSaid : Prop := constsTwoRow.holds Try.pinned (OpenSpec.ofChange constsTwoSpec)

/-- ITS FALSE NEIGHBOUR: 'it returns false'. Refute it at one input. -/
def constsTwoWrong : ChangeSpec := { name := "constsTwo", fn := fun _ => fun
  | [d1, d2, d3] => { results := [.lit (.bool false)], args := [d1, d2, d3] }
  | _ => none }
def ConstsTwoWrongFalsely : Prop := constsTwoRow.holds Try.pinned (OpenSpec.ofChange constsTwoWrong)

/-- 'spinetlaw12.ConstsSets': WHATEVER THE INPUT: true; the input reads as it did. -/
def constsSetsSpec : ChangeSpec := { name := "constsSets", fn := fun _ => fun
  | [d] => { results := [.lit (.bool true)], args := [d] }
  | _ => none }
def constsSetsRow : OpenClaim := { program := "ytjimcgmefpienaa", sum := "3402fe0efc7291ca0d86384bbfd2c5bc2245a38969994157993e479d7e2b6e92", func := "spinet/spinetlaw12.ConstsSets", spec := "constsSets", inPlace := ["internal/bytealg.abigen_runtime_cmpstring"], unfollowed := true, recurses := true, plainKeys := false, apart := false }
def ConstsSetsSaid : Prop := constsSetsRow.holds Try.pinned (OpenSpec.ofChange constsSetsSpec)

/-- ITS FALSE NEIGHBOUR: 'it returns false'. Refute it at one input. -/
def constsSetsWrong : ChangeSpec := { name := "constsSets", fn := fun _ => fun
  | [d] => { results := [.lit (.bool false)], args := [d] }
  | _ => none }
def ConstsSetsWrongFalsely : Prop := constsSetsRow.holds Try.pinned (OpenSpec.ofChange constsSetsWrong)

/-- 'spinetlaw12.ConstsDivides': WHATEVER THE INPUT: true; the input reads as it did. -/
def constsDividesSpec : ChangeSpec := { name := "constsDivides", fn := fun _ => fun
  | [d1, d2] => { results := [.lit (.bool true)], args := [d1, d2] }
  | _ => none }
def constsDividesRow : OpenClaim := { program := "ytjimcgmefpienaa", sum := "3402fe0efc7291ca0d86384bbfd2c5bc2245a38969994157993e479d7e2b6e92", func := "spinet/spinetlaw12.ConstsDivides", spec := "constsDivides", inPlace := ["internal/bytealg.abigen_runtime_cmpstring"], unfollowed := true, recurses := true, plainKeys := false, apart := false }
def ConstsDividesSaid : Prop := constsDividesRow.holds Try.pinned (OpenSpec.ofChange constsDividesSpec)

/-- ITS FALSE NEIGHBOUR: 'it returns false'. Refute it at one input. -/
def constsDividesWrong : ChangeSpec := { name := "constsDivides", fn := fun _ => fun
  | [d1, d2] => { results := [.lit (.bool false)], args := [d1, d2] }
  | _ => none }
def ConstsDividesWrongFalsely : Prop := constsDividesRow.holds Try.pinned (OpenSpec.ofChange constsDividesWrong)

/-- 'spinetlaw12.ConstsOrder': WHATEVER THE INPUT: true; the input reads as it did. -/
def constsOrderSpec : ChangeSpec := { name := "constsOrder", fn := fun _ => fun
  | [d1, d2] => { results := [.lit (.bool true)], args := [d1, d2] }
  | _ => none }
def constsOrderRow : OpenClaim := { program := "ytjimcgmefpienaa", sum := "3402fe0efc7291ca0d86384bbfd2c5bc2245a38969994157993e479d7e2b6e92", func := "spinet/spinetlaw12.ConstsOrder", spec := "constsOrder", inPlace := ["internal/bytealg.abigen_runtime_cmpstring"], unfollowed := true, recurses := true, plainKeys := false, apart := false }
def ConstsOrderSaid : Prop := constsOrderRow.holds Try.pinned (OpenSpec.ofChange constsOrderSpec)

/-- ITS FALSE NEIGHBOUR: 'it returns false'. Refute it at one input. -/
def constsOrderWrong : ChangeSpec := { name := "constsOrder", fn := fun _ => fun
  | [d1, d2] => { results := [.lit (.bool false)], args := [d1, d2] }
  | _ => none }
def ConstsOrderWrongFalsely : Prop := constsOrderRow.holds Try.pinned (OpenSpec.ofChange constsOrderWrong)

/-- 'spinetlaw12.ConstsOne': WHATEVER THE INPUT: true; the input reads as it did. -/
def constsOneSpec : ChangeSpec := { name := "constsOne", fn := fun _ => fun
  | [d1, d2] => { results := [.lit (.bool true)], args := [d1, d2] }
  | _ => none }
def constsOneRow : OpenClaim := { program := "ytjimcgmefpienaa", sum := "3402fe0efc7291ca0d86384bbfd2c5bc2245a38969994157993e479d7e2b6e92", func := "spinet/spinetlaw12.ConstsOne", spec := "constsOne", inPlace := ["internal/bytealg.abigen_runtime_cmpstring"], unfollowed := true, recurses := true, plainKeys := false, apart := false }
def ConstsOneSaid : Prop := constsOneRow.holds Try.pinned (OpenSpec.ofChange constsOneSpec)

/-- ITS FALSE NEIGHBOUR: 'it returns false'. Refute it at one input. -/
def constsOneWrong : ChangeSpec := { name := "constsOne", fn := fun _ => fun
  | [d1, d2] => { results := [.lit (.bool false)], args := [d1, d2] }
  | _ => none }
def ConstsOneWrongFalsely : Prop := constsOneRow.holds Try.pinned (OpenSpec.ofChange constsOneWrong)

/-- 'spinetlaw12.ConstsAlgebra': WHATEVER THE INPUT: true; the input reads as it did. -/
def constsAlgebraSpec : ChangeSpec := { name := "constsAlgebra", fn := fun _ => fun
  | [d1, d2, d3] => { results := [.lit (.bool true)], args := [d1, d2, d3] }
  | _ => none }
def constsAlgebraRow : OpenClaim := { program := "ytjimcgmefpienaa", sum := "3402fe0efc7291ca0d86384bbfd2c5bc2245a38969994157993e479d7e2b6e92", func := "spinet/spinetlaw12.ConstsAlgebra", spec := "constsAlgebra", inPlace := ["internal/bytealg.abigen_runtime_cmpstring"], unfollowed := true, recurses := true, plainKeys := false, apart := false }
def ConstsAlgebraSaid : Prop := constsAlgebraRow.holds Try.pinned (OpenSpec.ofChange constsAlgebraSpec)

/-- ITS FALSE NEIGHBOUR: 'it returns false'. Refute it at one input. -/
def constsAlgebraWrong : ChangeSpec := { name := "constsAlgebra", fn := fun _ => fun
  | [d1, d2, d3] => { results := [.lit (.bool false)], args := [d1, d2, d3] }
  | _ => none }
def ConstsAlgebraWrongFalsely : Prop := constsAlgebraRow.holds Try.pinned (OpenSpec.ofChange constsAlgebraWrong)

/-- 'spinetlaw12.ConstsCalls': WHATEVER THE INPUT: true; the input reads as it did. -/
def constsCallsSpec : ChangeSpec := { name := "constsCalls", fn := fun _ => fun
  | [d1, d2] => { results := [.lit (.bool true)], args := [d1, d2] }
  | _ => none }
def constsCallsRow : OpenClaim := { program := "ytjimcgmefpienaa", sum := "3402fe0efc7291ca0d86384bbfd2c5bc2245a38969994157993e479d7e2b6e92", func := "spinet/spinetlaw12.ConstsCalls", spec := "constsCalls", inPlace := ["internal/bytealg.abigen_runtime_cmpstring"], unfollowed := true, recurses := true, plainKeys := false, apart := false }
def ConstsCallsSaid : Prop := constsCallsRow.holds Try.pinned (OpenSpec.ofChange constsCallsSpec)

/-- ITS FALSE NEIGHBOUR: 'it returns false'. Refute it at one input. -/
def constsCallsWrong : ChangeSpec := { name := "constsCalls", fn := fun _ => fun
  | [d1, d2] => { results := [.lit (.bool false)], args := [d1, d2] }
  | _ => none }
def ConstsCallsWrongFalsely : Prop := constsCallsRow.holds Try.pinned (OpenSpec.ofChange constsCallsWrong)

/- THE SECOND FORM. 'bulk': how many values and letters a reading holds, each counted each time it is reached (what is shared counts as often as it is met; a slice's spare places count too). A statement '..UptoSaid' is the law's where the arguments, and the package variables that the reading takes, are together of bulk at most 1048576: NARROWER than '..Said'. Prove '..Said' where nothing that the law and all that it calls make is longer than what came in: it says more and counts as full. Else prove '..UptoSaid'. A law counts once. -/
mutual
def uptoBulk {H : Type} : DataW H → Nat
  | .lit (.string bytes) => bytes.length + 1
  | .lit _ => 1
  | .nil => 1
  | .ptr d => uptoBulk d + 1
  | .slice elems spare => uptoBulkAll elems + uptoBulkAll spare + 1
  | .agg parts => uptoBulkAll parts + 1
  | .iface _ d => uptoBulk d + 1
  | .map entries => uptoBulkEntries entries + 1
  | .held _ => 1
def uptoBulkAll {H : Type} : List (DataW H) → Nat
  | [] => 0
  | d :: r => uptoBulk d + uptoBulkAll r
def uptoBulkEntries {H : Type} : List (Lit × DataW H) → Nat
  | [] => 0
  | x :: r => uptoBulkEntry x + uptoBulkEntries r
def uptoBulkEntry {H : Type} : Lit × DataW H → Nat
  | (.string bytes, d) => bytes.length + uptoBulk d + 1
  | (_, d) => uptoBulk d + 1
 end
def uptoSmall : (H : Type) → List (DataW H) → Bool := fun _ ds => decide (uptoBulkAll ds ≤ 1048576)
def OpenSpec.upto (s : _root_.Go.ChangeSpec) : _root_.Go.OpenSpec := { _root_.Go.OpenSpec.ofChange s with cond := some uptoSmall }

/-- 'spinetlaw12.ConstsTwo', WHERE WHAT IT READS IS OF BULK AT MOST 1048576: true; the input reads as it did. -/
def constsTwoUptoRow : OpenClaim := { program := "ytjimcgmefpienaa", sum := "3402fe0efc7291ca0d86384bbfd2c5bc2245a38969994157993e479d7e2b6e92", func := "spinet/spinetlaw12.ConstsTwo", spec := "constsTwo", inPlace := ["internal/bytealg.abigen_runtime_cmpstring"], unfollowed := true, recurses := true, plainKeys := false, apart := false, narrowed := true }
def ConstsTwoUptoSaid : Prop := constsTwoUptoRow.holds Try.pinned (OpenSpec.upto constsTwoSpec)

/-- 'spinetlaw12.ConstsSets', WHERE WHAT IT READS IS OF BULK AT MOST 1048576: true; the input reads as it did. -/
def constsSetsUptoRow : OpenClaim := { program := "ytjimcgmefpienaa", sum := "3402fe0efc7291ca0d86384bbfd2c5bc2245a38969994157993e479d7e2b6e92", func := "spinet/spinetlaw12.ConstsSets", spec := "constsSets", inPlace := ["internal/bytealg.abigen_runtime_cmpstring"], unfollowed := true, recurses := true, plainKeys := false, apart := false, narrowed := true }
def ConstsSetsUptoSaid : Prop := constsSetsUptoRow.holds Try.pinned (OpenSpec.upto constsSetsSpec)

/-- 'spinetlaw12.ConstsDivides', WHERE WHAT IT READS IS OF BULK AT MOST 1048576: true; the input reads as it did. -/
def constsDividesUptoRow : OpenClaim := { program := "ytjimcgmefpienaa", sum := "3402fe0efc7291ca0d86384bbfd2c5bc2245a38969994157993e479d7e2b6e92", func := "spinet/spinetlaw12.ConstsDivides", spec := "constsDivides", inPlace := ["internal/bytealg.abigen_runtime_cmpstring"], unfollowed := true, recurses := true, plainKeys := false, apart := false, narrowed := true }
def ConstsDividesUptoSaid : Prop := constsDividesUptoRow.holds Try.pinned (OpenSpec.upto constsDividesSpec)

/-- 'spinetlaw12.ConstsOrder', WHERE WHAT IT READS IS OF BULK AT MOST 1048576: true; the input reads as it did. -/
def constsOrderUptoRow : OpenClaim := { program := "ytjimcgmefpienaa", sum := "3402fe0efc7291ca0d86384bbfd2c5bc2245a38969994157993e479d7e2b6e92", func := "spinet/spinetlaw12.ConstsOrder", spec := "constsOrder", inPlace := ["internal/bytealg.abigen_runtime_cmpstring"], unfollowed := true, recurses := true, plainKeys := false, apart := false, narrowed := true }
def ConstsOrderUptoSaid : Prop := constsOrderUptoRow.holds Try.pinned (OpenSpec.upto constsOrderSpec)

/-- 'spinetlaw12.ConstsOne', WHERE WHAT IT READS IS OF BULK AT MOST 1048576: true; the input reads as it did. -/
def constsOneUptoRow : OpenClaim := { program := "ytjimcgmefpienaa", sum := "3402fe0efc7291ca0d86384bbfd2c5bc2245a38969994157993e479d7e2b6e92", func := "spinet/spinetlaw12.ConstsOne", spec := "constsOne", inPlace := ["internal/bytealg.abigen_runtime_cmpstring"], unfollowed := true, recurses := true, plainKeys := false, apart := false, narrowed := true }
def ConstsOneUptoSaid : Prop := constsOneUptoRow.holds Try.pinned (OpenSpec.upto constsOneSpec)

/-- 'spinetlaw12.ConstsAlgebra', WHERE WHAT IT READS IS OF BULK AT MOST 1048576: true; the input reads as it did. -/
def constsAlgebraUptoRow : OpenClaim := { program := "ytjimcgmefpienaa", sum := "3402fe0efc7291ca0d86384bbfd2c5bc2245a38969994157993e479d7e2b6e92", func := "spinet/spinetlaw12.ConstsAlgebra", spec := "constsAlgebra", inPlace := ["internal/bytealg.abigen_runtime_cmpstring"], unfollowed := true, recurses := true, plainKeys := false, apart := false, narrowed := true }
def ConstsAlgebraUptoSaid : Prop := constsAlgebraUptoRow.holds Try.pinned (OpenSpec.upto constsAlgebraSpec)

/-- 'spinetlaw12.ConstsCalls', WHERE WHAT IT READS IS OF BULK AT MOST 1048576: true; the input reads as it did. -/
def constsCallsUptoRow : OpenClaim := { program := "ytjimcgmefpienaa", sum := "3402fe0efc7291ca0d86384bbfd2c5bc2245a38969994157993e479d7e2b6e92", func := "spinet/spinetlaw12.ConstsCalls", spec := "constsCalls", inPlace := ["internal/bytealg.abigen_runtime_cmpstring"], unfollowed := true, recurses := true, plainKeys := false, apart := false, narrowed := true }
def ConstsCallsUptoSaid : Prop := constsCallsUptoRow.holds Try.pinned (OpenSpec.upto constsCallsSpec)

end Rows
end Go.Proofs.Ytjimcgmefpienaa
