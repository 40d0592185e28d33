/- And, or, both unlike and the one without the other hang together bit by bit; moves by more than 31 are moves by what is left. Conditions: none. -/
import Derived.Test.YtbcoanjgpebedaaRows
import Derived.Test.YtbcoanjgpebedaaAluLawAluLogic
import Derived.WalkKit
import Derived.ProofKit
import Derived.OpenShut
import Derived.ShutString
import Derived.ChangeOld
import Derived.Below
import Derived.SizedLaws
namespace Go.Proofs.Ytbcoanjgpebedaa.aluLogic
open Go.ChangeShapes Go.WideShapes Go.ChangeAt Go.RowKit
open Go.ChangeMaps (open_string shut_string)
set_option linter.unusedVariables false
theorem own : ownKnob Try.prog.godebug = none := by kernel_rfl
theorem laidOut : laidOutB Try.prog = true := by kernel_rfl
theorem list4 {α : Type} {l : List α} (h : l.length = 4) : ∃ c0 c1 c2 c3, l = [c0, c1, c2, c3] := by
  match l, h with
  | [c0, c1, c2, c3], _ => exact ⟨c0, c1, c2, c3, rfl⟩
theorem list6 {α : Type} {l : List α} (h : l.length = 6) : ∃ c0 c1 c2 c3 c4 c5, l = [c0, c1, c2, c3, c4, c5] := by
  match l, h with
  | [c0, c1, c2, c3, c4, c5], _ => exact ⟨c0, c1, c2, c3, c4, c5, rfl⟩
theorem list9 {α : Type} {l : List α} (h : l.length = 9) : ∃ c0 c1 c2 c3 c4 c5 c6 c7 c8, l = [c0, c1, c2, c3, c4, c5, c6, c7, c8] := by
  match l, h with
  | [c0, c1, c2, c3, c4, c5, c6, c7, c8], _ => exact ⟨c0, c1, c2, c3, c4, c5, c6, c7, c8, rfl⟩
set_option maxRecDepth 100000 in
theorem open24 {H : Type} {enc : TypeId × Value → H} {w : World} {base : Nat} {sp : Nat → Bool} {held : Bool} {fuel : Nat} {cs : List Value} {x : DataW H × List MemPlace}
    (h : DataW.trod enc Try.prog w base sp held fuel 24 cs = some x) : ∃ (a0 : Bool) (a1 : Bool) (a2 : Bool) (a3 : Bool), cs = [.bool a0, .bool a1, .bool a2, .bool a3] := by
  obtain ⟨xs, n, _, hx, hl, hxs, hf⟩ := DataW.trod_struct Try.underlying24 h
  have hc : Try.prog.cellsOf 24 = 4 := by kernel_rfl
  rw [hc] at hl
  obtain ⟨c0, c1, c2, c3, rfl⟩ := list4 hl
  obtain ⟨y0, y1, y2, y3, rfl⟩ := list4 hxs
  have h0 : DataW.trod enc Try.prog w base sp held n 4 [c0] = some y0 := hf 0 _ rfl
  obtain ⟨a0, e0, rfl⟩ := DataW.trod_bool Try.underlying4 h0
  obtain rfl : c0 = _ := by simpa using e0
  have h1 : DataW.trod enc Try.prog w base sp held n 4 [c1] = some y1 := hf 1 _ rfl
  obtain ⟨a1, e1, rfl⟩ := DataW.trod_bool Try.underlying4 h1
  obtain rfl : c1 = _ := by simpa using e1
  have h2 : DataW.trod enc Try.prog w base sp held n 4 [c2] = some y2 := hf 2 _ rfl
  obtain ⟨a2, e2, rfl⟩ := DataW.trod_bool Try.underlying4 h2
  obtain rfl : c2 = _ := by simpa using e2
  have h3 : DataW.trod enc Try.prog w base sp held n 4 [c3] = some y3 := hf 3 _ rfl
  obtain ⟨a3, e3, rfl⟩ := DataW.trod_bool Try.underlying4 h3
  obtain rfl : c3 = _ := by simpa using e3
  exact ⟨a0, a1, a2, a3, rfl⟩

set_option maxRecDepth 100000 in
theorem open26 {H : Type} {enc : TypeId × Value → H} {w : World} {base : Nat} {sp : Nat → Bool} {held : Bool} {fuel : Nat} {cs : List Value} {x : DataW H × List MemPlace}
    (h : DataW.trod enc Try.prog w base sp held fuel 26 cs = some x) : ∃ (a0 : Int) (a1 : Bool) (a2 : Int) (a3 : Int) (a4 : Int) (a5 : Bool) (a6 : Bool) (a7 : Bool) (a8 : Bool), cs = [.int .i64 a0, .bool a1, .int .u32 a2, .int .u32 a3, .int .u32 a4, .bool a5, .bool a6, .bool a7, .bool a8] ∧ (Lit.int .i64 a0).wf = true ∧ (Lit.int .u32 a2).wf = true ∧ (Lit.int .u32 a3).wf = true ∧ (Lit.int .u32 a4).wf = true := by
  obtain ⟨xs, n, _, hx, hl, hxs, hf⟩ := DataW.trod_struct Try.underlying26 h
  have hc : Try.prog.cellsOf 26 = 9 := by kernel_rfl
  rw [hc] at hl
  obtain ⟨c0, c1, c2, c3, c4, c5, c6, c7, c8, rfl⟩ := list9 hl
  obtain ⟨y0, y1, y2, y3, y4, y5, rfl⟩ := list6 hxs
  have h0 : DataW.trod enc Try.prog w base sp held n 3 [c0] = some y0 := hf 0 _ rfl
  obtain ⟨a0, e0, rfl, w0⟩ := DataW.trod_int Try.underlying3 h0
  obtain rfl : c0 = _ := by simpa using e0
  have h1 : DataW.trod enc Try.prog w base sp held n 4 [c1] = some y1 := hf 1 _ rfl
  obtain ⟨a1, e1, rfl⟩ := DataW.trod_bool Try.underlying4 h1
  obtain rfl : c1 = _ := by simpa using e1
  have h2 : DataW.trod enc Try.prog w base sp held n 22 [c2] = some y2 := hf 2 _ rfl
  obtain ⟨a2, e2, rfl, w2⟩ := DataW.trod_int Try.underlying22 h2
  obtain rfl : c2 = _ := by simpa using e2
  have h3 : DataW.trod enc Try.prog w base sp held n 22 [c3] = some y3 := hf 3 _ rfl
  obtain ⟨a3, e3, rfl, w3⟩ := DataW.trod_int Try.underlying22 h3
  obtain rfl : c3 = _ := by simpa using e3
  have h4 : DataW.trod enc Try.prog w base sp held n 22 [c4] = some y4 := hf 4 _ rfl
  obtain ⟨a4, e4, rfl, w4⟩ := DataW.trod_int Try.underlying22 h4
  obtain rfl : c4 = _ := by simpa using e4
  have h5 : DataW.trod enc Try.prog w base sp held n 24 [c5, c6, c7, c8] = some y5 := hf 5 _ rfl
  obtain ⟨a5, a6, a7, a8, e5⟩ := open24 h5
  obtain ⟨rfl, rfl, rfl, rfl⟩ := by simpa using e5
  exact ⟨a0, a1, a2, a3, a4, a5, a6, a7, a8, rfl, w0, w2, w3, w4⟩

set_option maxRecDepth 100000 in
theorem lifted (os : Os) (started : os.Started) (H : Type) (enc : TypeId × Value → H) :
    ReturnsInHanded {} Try.checked os 8 .any (Rows.aluLogicSpec.pre6 enc Try.prog Try.f8 Rows.aluLogicRow.domain false) (Rows.aluLogicSpec.post enc Try.prog Try.f8 false true false false) := by
  refine returnsInHanded_of_change_sized (C := Try.checked) own started (by kernel_rfl) Try.func8
    (ChangeSpec.witness6 (enc := enc) (C := Try.checked) false ⟨#[], #[.agg #[.int .i64 0, .bool false, .int .u32 0, .int .u32 0, .int .u32 0, .bool false, .bool false, .bool false, .bool false]], []⟩ 8 (by kernel_rfl) (by kernel_rfl) (by kernel_rfl) (by kernel_rfl)) ?_
  intro W base args ds gs before hval0 hW hcnd hsz0 _
  have hsz : (DataW.weightsEach Try.prog (Try.f8.params.toList ++ Rows.aluLogicSpec.plain.varTypes Try.prog) (ds ++ gs)).all (· ≤ reachBytes) = true := hsz0
  have hval : ∀ (j : Nat) t v, Try.f8.params[j]? = some t → args[j]? = some v → Value.okWide Try.prog W .any base t v := hval0
  have hW' := hW
  obtain ⟨p, q, hA0, hV, rfl, hfz, hnd⟩ := hW
  have hA : DataW.TrodAll enc Try.prog W 0 (fun _ => true) true Try.f8.params.toList args.toList ds p := hA0
  rw [Try.params8] at hA hval hsz
  obtain ⟨v0, vs0, d0, ds0, p0, q0, hargs, rfl, rfl, h0, r0⟩ := trodAll_cons hA
  obtain ⟨rfl, rfl, rfl⟩ := trodAll_nil r0
  obtain rfl : args = #[v0] := by cases args; simp_all
  obtain ⟨rfl, rfl⟩ := trodVars_none hV
  have k0 := h0
  have lt0 : ∀ x ∈ p0, x.block < W.heap.size := by obtain ⟨m, hm⟩ := k0; exact DataW.trod_lt m _ _ _ hm
  obtain ⟨cs0, rfl, hcs0⟩ := okWide_struct Try.underlying26 (hval 0 26 v0 rfl rfl)
  obtain ⟨m0, hm0⟩ := h0
  obtain ⟨b0, b1, b2, b3, b4, b5, b6, b7, b8, el0, wf0, wf2, wf3, wf4⟩ := open26 hm0
  obtain rfl : cs0 = #[.int .i64 b0, .bool b1, .int .u32 b2, .int .u32 b3, .int .u32 b4, .bool b5, .bool b6, .bool b7, .bool b8] := by cases cs0; simpa [Value.cells] using el0
  clear hA0 hval0 hsz0 hsz
  refine (Go.Proofs.Ytbcoanjgpebedaa.LogicWalk.walk b0 b2 b3 b4 b1 b5 b6 b7 b8 (bounds_u32 wf2).1 (by have := (bounds_u32 wf2).2; omega) (bounds_u32 wf3).1 (by have := (bounds_u32 wf3).2; omega) (bounds_u32 wf4).1 (by have := (bounds_u32 wf4).2; omega) W).mono fun e W' ⟨he, bel⟩ => ?_
  subst he
  exact ⟨_, rfl, _, _, _, [], _, [], hW', trodAll_mk1 (shut_bool Try.underlying4 _), (trodAll_cons_mk (Below.trod laidOut (by kernel_rfl) (of_decide_eq_true (by kernel_rfl)) k0 bel lt0) trodAll_mk0), rfl, bel.frame _, fun h => by cases h⟩

theorem over : Rows.aluLogicRow.holds Try.pinned (OpenSpec.ofChange Rows.aluLogicSpec) :=
  OpenClaim.holds_of_wide 8 Try.f8 rfl rfl rfl rfl rfl rfl rfl ⟨rfl, rfl, rfl, rfl, rfl⟩ rfl rfl rfl rfl rfl (by kernel_rfl) Try.func8 (by kernel_rfl)
    (of_decide_eq_true (by kernel_rfl)) (by unfold Func.isWrapper; first | (rw [if_pos (by decide +kernel)]; kernel_rfl) | (rw [if_neg (by decide +kernel)]; exact ⟨rfl, rfl⟩))
    (fun os started H enc _ => lifted os started H enc)
theorem proved : Rows.AluLogicSaid := over
#print axioms proved
end Go.Proofs.Ytbcoanjgpebedaa.aluLogic
namespace Go.Proofs.Ytbcoanjgpebedaa
/-- The row, under a short name, for the claim. -/
theorem aluLogic_holds : Rows.AluLogicSaid := aluLogic.proved
end Go.Proofs.Ytbcoanjgpebedaa
