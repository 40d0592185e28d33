/- Which conditions hold of any flags is what the document's answer tells, and each one from 8 on is the opposite of one below. Conditions: none. -/
import Derived.Test.YtbcoanjgpebedaaRows
import Derived.Test.YtbcoanjgpebedaaAluLawAluHolds
import Derived.Test.YtbcoanjgpebedaaPureAluHolds
import Derived.WalkKit
import Derived.ProofKit
import Derived.OpenShut
import Derived.ShutString
import Derived.ChangeOld
import Derived.Below
import Derived.SizedLaws
namespace Go.Proofs.Ytbcoanjgpebedaa.aluHolds
open Go.ChangeShapes Go.WideShapes Go.ChangeAt Go.RowKit
open Go.ChangeMaps (open_string shut_string)
open Go.Proofs.Ytbcoanjgpebedaa.PAluDoes Go.Proofs.Ytbcoanjgpebedaa.PureAluHolds
set_option linter.unusedVariables false
theorem own : ownKnob Try.prog.godebug = none := by kernel_rfl
theorem laidOut : laidOutB Try.prog = true := by kernel_rfl
theorem list4 {α : Type} {l : List α} (h : l.length = 4) : ∃ c0 c1 c2 c3, l = [c0, c1, c2, c3] := by
  match l, h with
  | [c0, c1, c2, c3], _ => exact ⟨c0, c1, c2, c3, rfl⟩
set_option maxRecDepth 100000 in
theorem open24 {H : Type} {enc : TypeId × Value → H} {w : World} {base : Nat} {sp : Nat → Bool} {held : Bool} {fuel : Nat} {cs : List Value} {x : DataW H × List MemPlace}
    (h : DataW.trod enc Try.prog w base sp held fuel 24 cs = some x) : ∃ (a0 : Bool) (a1 : Bool) (a2 : Bool) (a3 : Bool), cs = [.bool a0, .bool a1, .bool a2, .bool a3] := by
  obtain ⟨xs, n, _, hx, hl, hxs, hf⟩ := DataW.trod_struct Try.underlying24 h
  have hc : Try.prog.cellsOf 24 = 4 := by kernel_rfl
  rw [hc] at hl
  obtain ⟨c0, c1, c2, c3, rfl⟩ := list4 hl
  obtain ⟨y0, y1, y2, y3, rfl⟩ := list4 hxs
  have h0 : DataW.trod enc Try.prog w base sp held n 4 [c0] = some y0 := hf 0 _ rfl
  obtain ⟨a0, e0, rfl⟩ := DataW.trod_bool Try.underlying4 h0
  obtain rfl : c0 = _ := by simpa using e0
  have h1 : DataW.trod enc Try.prog w base sp held n 4 [c1] = some y1 := hf 1 _ rfl
  obtain ⟨a1, e1, rfl⟩ := DataW.trod_bool Try.underlying4 h1
  obtain rfl : c1 = _ := by simpa using e1
  have h2 : DataW.trod enc Try.prog w base sp held n 4 [c2] = some y2 := hf 2 _ rfl
  obtain ⟨a2, e2, rfl⟩ := DataW.trod_bool Try.underlying4 h2
  obtain rfl : c2 = _ := by simpa using e2
  have h3 : DataW.trod enc Try.prog w base sp held n 4 [c3] = some y3 := hf 3 _ rfl
  obtain ⟨a3, e3, rfl⟩ := DataW.trod_bool Try.underlying4 h3
  obtain rfl : c3 = _ := by simpa using e3
  exact ⟨a0, a1, a2, a3, rfl⟩

set_option maxRecDepth 100000 in
theorem lifted (os : Os) (started : os.Started) (H : Type) (enc : TypeId × Value → H) :
    ReturnsInHanded {} Try.checked os 4 .any (Rows.aluHoldsSpec.pre6 enc Try.prog Try.f4 Rows.aluHoldsRow.domain false) (Rows.aluHoldsSpec.post enc Try.prog Try.f4 false true false false) := by
  refine returnsInHanded_of_change_sized (C := Try.checked) own started (by kernel_rfl) Try.func4
    (ChangeSpec.witness6 (enc := enc) (C := Try.checked) false ⟨#[], #[.int .i64 0, .agg #[.bool false, .bool false, .bool false, .bool false]], []⟩ 8 (by kernel_rfl) (by kernel_rfl) (by kernel_rfl) (by kernel_rfl)) ?_
  intro W base args ds gs before hval0 hW hcnd hsz0 _
  have hsz : (DataW.weightsEach Try.prog (Try.f4.params.toList ++ Rows.aluHoldsSpec.plain.varTypes Try.prog) (ds ++ gs)).all (· ≤ reachBytes) = true := hsz0
  have hval : ∀ (j : Nat) t v, Try.f4.params[j]? = some t → args[j]? = some v → Value.okWide Try.prog W .any base t v := hval0
  have hW' := hW
  obtain ⟨p, q, hA0, hV, rfl, hfz, hnd⟩ := hW
  have hA : DataW.TrodAll enc Try.prog W 0 (fun _ => true) true Try.f4.params.toList args.toList ds p := hA0
  rw [Try.params4] at hA hval hsz
  obtain ⟨v0, vs0, d0, ds0, p0, q0, hargs, rfl, rfl, h0, r0⟩ := trodAll_cons hA
  obtain ⟨v1, vs1, d1, ds1, p1, q1, rfl, rfl, rfl, h1, r1⟩ := trodAll_cons r0
  obtain ⟨rfl, rfl, rfl⟩ := trodAll_nil r1
  obtain rfl : args = #[v0, v1] := by cases args; simp_all
  obtain ⟨rfl, rfl⟩ := trodVars_none hV
  have k0 := h0
  have lt0 : ∀ x ∈ p0, x.block < W.heap.size := by obtain ⟨m, hm⟩ := k0; exact DataW.trod_lt m _ _ _ hm
  obtain ⟨b0, rfl, _, _, wf0⟩ := open_int Try.underlying3 (hval 0 3 v0 rfl rfl) h0
  have k1 := h1
  have lt1 : ∀ x ∈ p1, x.block < W.heap.size := by obtain ⟨m, hm⟩ := k1; exact DataW.trod_lt m _ _ _ hm
  obtain ⟨cs1, rfl, hcs1⟩ := okWide_struct Try.underlying24 (hval 1 24 v1 rfl rfl)
  obtain ⟨m1, hm1⟩ := h1
  obtain ⟨b1, b2, b3, b4, el1⟩ := open24 hm1
  obtain rfl : cs1 = #[.bool b1, .bool b2, .bool b3, .bool b4] := by cases cs1; simpa [Value.cells] using el1
  clear hA0 hval0 hsz0 hsz
  refine (spinetlaw03_AluHolds.calls 40 b0 b1 b2 b3 b4 true W (law b0 b1 b2 b3 b4)).mono fun e W' ⟨he, bel⟩ => ?_
  subst he
  exact ⟨_, rfl, _, _, _, [], _, [], hW', trodAll_mk1 (shut_bool Try.underlying4 _), (trodAll_cons_mk (Below.trod laidOut (by kernel_rfl) (of_decide_eq_true (by kernel_rfl)) k0 bel lt0) (trodAll_cons_mk (Below.trod laidOut (by kernel_rfl) (of_decide_eq_true (by kernel_rfl)) k1 bel lt1) trodAll_mk0)), rfl, bel.frame _, fun h => by cases h⟩

theorem over : Rows.aluHoldsRow.holds Try.pinned (OpenSpec.ofChange Rows.aluHoldsSpec) :=
  OpenClaim.holds_of_wide 4 Try.f4 rfl rfl rfl rfl rfl rfl rfl ⟨rfl, rfl, rfl, rfl, rfl⟩ rfl rfl rfl rfl rfl (by kernel_rfl) Try.func4 (by kernel_rfl)
    (of_decide_eq_true (by kernel_rfl)) (by unfold Func.isWrapper; first | (rw [if_pos (by decide +kernel)]; kernel_rfl) | (rw [if_neg (by decide +kernel)]; exact ⟨rfl, rfl⟩))
    (fun os started H enc _ => lifted os started H enc)
theorem proved : Rows.AluHoldsSaid := over
#print axioms proved
end Go.Proofs.Ytbcoanjgpebedaa.aluHolds
namespace Go.Proofs.Ytbcoanjgpebedaa
/-- The row, under a short name, for the claim. -/
theorem aluHolds_holds : Rows.AluHoldsSaid := aluHolds.proved
end Go.Proofs.Ytbcoanjgpebedaa
