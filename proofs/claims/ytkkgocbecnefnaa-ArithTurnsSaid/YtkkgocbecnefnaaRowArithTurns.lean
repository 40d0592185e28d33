/- Sums and differences go round and come back; quotient and rest are put together again; sets are what their elements say. Conditions: none. -/
import Derived.Test.YtkkgocbecnefnaaRows
import Derived.Test.YtkkgocbecnefnaaLawArithTurns
import Derived.WalkKit
import Derived.ProofKit
import Derived.OpenShut
import Derived.ShutString
import Derived.ChangeOld
import Derived.Below
import Derived.SizedLaws
namespace Go.Proofs.Ytkkgocbecnefnaa.arithTurns
open Go.ChangeShapes Go.WideShapes Go.ChangeAt Go.RowKit
open Go.ChangeMaps (open_string shut_string)
set_option linter.unusedVariables false
theorem own : ownKnob Try.prog.godebug = none := by kernel_rfl
theorem laidOut : laidOutB Try.prog = true := by kernel_rfl
theorem list2 {α : Type} {l : List α} (h : l.length = 2) : ∃ c0 c1, l = [c0, c1] := by
  match l, h with
  | [c0, c1], _ => exact ⟨c0, c1, rfl⟩
set_option maxRecDepth 100000 in
theorem open31 {H : Type} {enc : TypeId × Value → H} {w : World} {base : Nat} {sp : Nat → Bool} {held : Bool} {fuel : Nat} {cs : List Value} {x : DataW H × List MemPlace}
    (h : DataW.trod enc Try.prog w base sp held fuel 31 cs = some x) : ∃ (a0 : Int) (a1 : Int), cs = [.int .u32 a0, .int .u32 a1] ∧ (Lit.int .u32 a0).wf = true ∧ (Lit.int .u32 a1).wf = true := by
  obtain ⟨xs, n, _, hx, hl, hxs, hf⟩ := DataW.trod_array Try.underlying31 h
  have hc : Try.prog.cellsOf 31 = 2 := by kernel_rfl
  rw [hc] at hl
  obtain ⟨c0, c1, rfl⟩ := list2 hl
  obtain ⟨y0, y1, rfl⟩ := list2 hxs
  have hce : Try.prog.cellsOf 30 = 1 := by kernel_rfl
  rw [hce] at hf
  have h0 : DataW.trod enc Try.prog w base sp held n 30 [c0] = some y0 := by simpa using hf 0 (by decide)
  obtain ⟨a0, e0, rfl, w0⟩ := DataW.trod_int Try.underlying30 h0
  obtain rfl : c0 = _ := by simpa using e0
  have h1 : DataW.trod enc Try.prog w base sp held n 30 [c1] = some y1 := by simpa using hf 1 (by decide)
  obtain ⟨a1, e1, rfl, w1⟩ := DataW.trod_int Try.underlying30 h1
  obtain rfl : c1 = _ := by simpa using e1
  exact ⟨a0, a1, rfl, w0, w1⟩

theorem okWide_array {P : Program} {w : World} {r : Reach} {base : Nat} {t : TypeId} {v : Value} {n : Nat} {e : TypeId} (ht : P.underlying t = some (.array n e)) (h : Value.okWide P w r base t v) : ∃ cs, v = .agg cs ∧ cs.size = P.cellsOf t := by
  simp only [Value.okWide, ht] at h
  obtain ⟨cs, h1, h2, _⟩ := h
  exact ⟨cs, h1, h2⟩
set_option maxRecDepth 100000 in
theorem lifted (os : Os) (started : os.Started) (H : Type) (enc : TypeId × Value → H) :
    ReturnsInHanded {} Try.checked os 6 .any (Rows.arithTurnsSpec.pre6 enc Try.prog Try.f6 Rows.arithTurnsRow.domain false) (Rows.arithTurnsSpec.post enc Try.prog Try.f6 false true false false) := by
  refine returnsInHanded_of_change_sized (C := Try.checked) own started (by kernel_rfl) Try.func6
    (ChangeSpec.witness6 (enc := enc) (C := Try.checked) false ⟨#[], #[.int .i64 0, .int .i64 0, .agg #[.int .u32 0, .int .u32 0]], []⟩ 8 (by kernel_rfl) (by kernel_rfl) (by kernel_rfl) (by kernel_rfl)) ?_
  intro W base args ds gs before hval0 hW hcnd hsz0 _
  have hsz : (DataW.weightsEach Try.prog (Try.f6.params.toList ++ Rows.arithTurnsSpec.plain.varTypes Try.prog) (ds ++ gs)).all (· ≤ reachBytes) = true := hsz0
  have hval : ∀ (j : Nat) t v, Try.f6.params[j]? = some t → args[j]? = some v → Value.okWide Try.prog W .any base t v := hval0
  have hW' := hW
  obtain ⟨p, q, hA0, hV, rfl, hfz, hnd⟩ := hW
  have hA : DataW.TrodAll enc Try.prog W 0 (fun _ => true) true Try.f6.params.toList args.toList ds p := hA0
  rw [Try.params6] at hA hval hsz
  obtain ⟨v0, vs0, d0, ds0, p0, q0, hargs, rfl, rfl, h0, r0⟩ := trodAll_cons hA
  obtain ⟨v1, vs1, d1, ds1, p1, q1, rfl, rfl, rfl, h1, r1⟩ := trodAll_cons r0
  obtain ⟨v2, vs2, d2, ds2, p2, q2, rfl, rfl, rfl, h2, r2⟩ := trodAll_cons r1
  obtain ⟨rfl, rfl, rfl⟩ := trodAll_nil r2
  obtain rfl : args = #[v0, v1, v2] := by cases args; simp_all
  obtain ⟨rfl, rfl⟩ := trodVars_none hV
  have k0 := h0
  have lt0 : ∀ x ∈ p0, x.block < W.heap.size := by obtain ⟨m, hm⟩ := k0; exact DataW.trod_lt m _ _ _ hm
  obtain ⟨b0, rfl, _, _, wf0⟩ := open_int Try.underlying3 (hval 0 3 v0 rfl rfl) h0
  have k1 := h1
  have lt1 : ∀ x ∈ p1, x.block < W.heap.size := by obtain ⟨m, hm⟩ := k1; exact DataW.trod_lt m _ _ _ hm
  obtain ⟨b1, rfl, _, _, wf1⟩ := open_int Try.underlying3 (hval 1 3 v1 rfl rfl) h1
  have k2 := h2
  have lt2 : ∀ x ∈ p2, x.block < W.heap.size := by obtain ⟨m, hm⟩ := k2; exact DataW.trod_lt m _ _ _ hm
  obtain ⟨cs2, rfl, hcs2⟩ := okWide_array Try.underlying31 (hval 2 31 v2 rfl rfl)
  obtain ⟨m2, hm2⟩ := h2
  obtain ⟨b2, b3, el2, wf2, wf3⟩ := open31 hm2
  obtain rfl : cs2 = #[.int .u32 b2, .int .u32 b3] := by cases cs2; simpa [Value.cells] using el2
  clear hA0 hval0 hsz0 hsz
  refine (LawArithTurns.walk b0 b1 b2 b3 W (bounds_i64 wf0).1 (bounds_i64 wf0).2 (bounds_i64 wf1).1 (bounds_i64 wf1).2 (bounds_u32 wf2).1 (Int.lt_of_le_of_lt (bounds_u32 wf2).2 (by decide)) (bounds_u32 wf3).1 (Int.lt_of_le_of_lt (bounds_u32 wf3).2 (by decide))).mono fun e W' ⟨he, bel⟩ => ?_
  subst he
  exact ⟨_, rfl, _, _, _, [], _, [], hW', trodAll_mk1 (shut_bool Try.underlying4 _), (trodAll_cons_mk (Below.trod laidOut (by kernel_rfl) (of_decide_eq_true (by kernel_rfl)) k0 bel lt0) (trodAll_cons_mk (Below.trod laidOut (by kernel_rfl) (of_decide_eq_true (by kernel_rfl)) k1 bel lt1) (trodAll_cons_mk (Below.trod laidOut (by kernel_rfl) (of_decide_eq_true (by kernel_rfl)) k2 bel lt2) trodAll_mk0))), rfl, bel.frame _, fun h => by cases h⟩

theorem over : Rows.arithTurnsRow.holds Try.pinned (OpenSpec.ofChange Rows.arithTurnsSpec) :=
  OpenClaim.holds_of_wide 6 Try.f6 rfl rfl rfl rfl rfl rfl rfl ⟨rfl, rfl, rfl, rfl, rfl⟩ rfl rfl rfl rfl rfl (by kernel_rfl) Try.func6 (by kernel_rfl)
    (of_decide_eq_true (by kernel_rfl)) (by unfold Func.isWrapper; first | (rw [if_pos (by decide +kernel)]; kernel_rfl) | (rw [if_neg (by decide +kernel)]; exact ⟨rfl, rfl⟩))
    (fun os started H enc _ => lifted os started H enc)
theorem proved : Rows.ArithTurnsSaid := over
#print axioms proved
end Go.Proofs.Ytkkgocbecnefnaa.arithTurns
namespace Go.Proofs.Ytkkgocbecnefnaa
/-- The row, under a short name, for the claim. -/
theorem arithTurns_holds : Rows.ArithTurnsSaid := arithTurns.proved
end Go.Proofs.Ytkkgocbecnefnaa
