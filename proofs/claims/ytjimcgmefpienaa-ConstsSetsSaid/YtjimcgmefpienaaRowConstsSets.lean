/- The set of any pairs is what the document's answer tells. Conditions: none. -/
import Derived.Test.YtjimcgmefpienaaRows
import Derived.Test.YtjimcgmefpienaaLawSets
import Derived.WalkKit
import Derived.ProofKit
import Derived.OpenShut
import Derived.ShutString
import Derived.ChangeOld
import Derived.Below
import Derived.SizedLaws
import Derived.Deep.Slices
import Derived.DataElems
namespace Go.Proofs.Ytjimcgmefpienaa.constsSets
open Go.ChangeShapes Go.WideShapes Go.ChangeAt Go.RowKit
open Go.ChangeMaps (open_string shut_string)
set_option linter.unusedVariables false
theorem own : ownKnob Try.prog.godebug = none := by kernel_rfl
theorem laidOut : laidOutB Try.prog = true := by kernel_rfl
theorem list2 {α : Type} {l : List α} (h : l.length = 2) : ∃ c0 c1, l = [c0, c1] := by
  match l, h with
  | [c0, c1], _ => exact ⟨c0, c1, rfl⟩
set_option maxRecDepth 100000 in
theorem open47 {H : Type} {enc : TypeId × Value → H} {w : World} {base : Nat} {sp : Nat → Bool} {held : Bool} {fuel : Nat} {cs : List Value} {x : DataW H × List MemPlace}
    (h : DataW.trod enc Try.prog w base sp held fuel 47 cs = some x) : ∃ (a0 : Int) (a1 : Int), cs = [.int .i64 a0, .int .i64 a1] ∧ (Lit.int .i64 a0).wf = true ∧ (Lit.int .i64 a1).wf = true := by
  obtain ⟨xs, n, _, hx, hl, hxs, hf⟩ := DataW.trod_array Try.underlying47 h
  have hc : Try.prog.cellsOf 47 = 2 := by kernel_rfl
  rw [hc] at hl
  obtain ⟨c0, c1, rfl⟩ := list2 hl
  obtain ⟨y0, y1, rfl⟩ := list2 hxs
  have hce : Try.prog.cellsOf 3 = 1 := by kernel_rfl
  rw [hce] at hf
  have h0 : DataW.trod enc Try.prog w base sp held n 3 [c0] = some y0 := by simpa using hf 0 (by decide)
  obtain ⟨a0, e0, rfl, w0⟩ := DataW.trod_int Try.underlying3 h0
  obtain rfl : c0 = _ := by simpa using e0
  have h1 : DataW.trod enc Try.prog w base sp held n 3 [c1] = some y1 := by simpa using hf 1 (by decide)
  obtain ⟨a1, e1, rfl, w1⟩ := DataW.trod_int Try.underlying3 h1
  obtain rfl : c1 = _ := by simpa using e1
  exact ⟨a0, a1, rfl, w0, w1⟩

theorem pairs_row {H : Type} {enc : TypeId × Value → H} {w : World} {base : Nat} {sp : Nat → Bool} {held : Bool} {x : Addr} {l c m n : Nat} {D : Nat → DataW H} {Pl : Nat → List MemPlace} (hl : l ≤ c) (hmx : c ≤ maxLen) (hlm : l ≤ m)
    (hi : ∀ i, i < m → ∃ cs', w.cells? base (x.add (i * Try.prog.cellsOf 47)) (Try.prog.cellsOf 47) = some cs' ∧ DataW.trod enc Try.prog w base sp held n 47 cs' = some (D i, Pl i)) : ∃ ps, LawSets.IsPairs w (some x) l c ps := by
  have hc : Try.prog.cellsOf 47 = 2 := by kernel_rfl
  rw [hc] at hi
  have key : ∀ i, ∃ p : Int × Int, i < l → (w.cell? (x.add (i * 2)) = some (.int .i64 p.1) ∧ w.cell? ⟨(x.add (i * 2)).block, (x.add (i * 2)).off + 1, none⟩ = some (.int .i64 p.2)) ∧
      (-9223372036854775808 ≤ p.1 ∧ p.1 ≤ 9223372036854775807) ∧ (-9223372036854775808 ≤ p.2 ∧ p.2 ≤ 9223372036854775807) := by
    intro i
    by_cases h : i < l
    · obtain ⟨cs, hcs, ht⟩ := hi i (by omega)
      obtain ⟨a0, a1, rfl, w0, w1⟩ := open47 ht
      obtain ⟨_, _, hat⟩ := World.cells?_some hcs
      refine ⟨(a0, a1), fun _ => ⟨⟨?_, ?_⟩, bounds_i64 w0, bounds_i64 w1⟩⟩
      · have := hat 0 (by decide)
        rw [Addr.add_add] at this
        exact this
      · have := hat 1 (by decide)
        rw [Addr.add_add, YtjimcgmefpienaaW.PrintWords.add_field _ _ 1 (by decide)] at this
        exact this
    · exact ⟨(0, 0), fun h' => absurd h' h⟩
  refine ⟨(List.range l).map (fun i => Classical.choose (key i)), .inr ⟨x, rfl, by simp, hl, ⟨fun i a b hab => ?_⟩, fun p hp => ?_⟩⟩
  · obtain ⟨h1, h2⟩ : i < l ∧ Classical.choose (key i) = (a, b) := by
      rw [List.getElem?_map] at hab
      by_cases h : i < l
      · rw [List.getElem?_range h] at hab
        exact ⟨h, by simpa using hab⟩
      · rw [List.getElem?_eq_none (by simp; omega)] at hab; simp at hab
    have := (Classical.choose_spec (key i) h1).1
    rw [h2] at this
    exact this
  · obtain ⟨i, hi', rfl⟩ := List.mem_map.1 hp
    exact (Classical.choose_spec (key i) (List.mem_range.1 hi')).2
set_option maxRecDepth 100000 in
theorem lifted (os : Os) (started : os.Started) (H : Type) (enc : TypeId × Value → H) :
    ReturnsInHanded {} Try.checked os 4 .any (Rows.constsSetsSpec.pre6 enc Try.prog Try.f4 Rows.constsSetsRow.domain false) (Rows.constsSetsSpec.post enc Try.prog Try.f4 false true false false) := by
  refine returnsInHanded_of_change_sized (C := Try.checked) own started (by kernel_rfl) Try.func4
    (ChangeSpec.witness6 (enc := enc) (C := Try.checked) false ⟨#[], #[.slice none 0 0], []⟩ 8 (by kernel_rfl) (by kernel_rfl) (by kernel_rfl) (by kernel_rfl)) ?_
  intro W base args ds gs before hval0 hW hcnd hsz0 _
  have hsz : (DataW.weightsEach Try.prog (Try.f4.params.toList ++ Rows.constsSetsSpec.plain.varTypes Try.prog) (ds ++ gs)).all (· ≤ reachBytes) = true := hsz0
  have hval : ∀ (j : Nat) t v, Try.f4.params[j]? = some t → args[j]? = some v → Value.okWide Try.prog W .any base t v := hval0
  have hW' := hW
  obtain ⟨p, q, hA0, hV, rfl, hfz, hnd⟩ := hW
  have hA : DataW.TrodAll enc Try.prog W 0 (fun _ => true) true Try.f4.params.toList args.toList ds p := hA0
  rw [Try.params4] at hA hval hsz
  obtain ⟨v0, vs0, d0, ds0, p0, q0, hargs, rfl, rfl, h0, r0⟩ := trodAll_cons hA
  obtain ⟨rfl, rfl, rfl⟩ := trodAll_nil r0
  obtain rfl : args = #[v0] := by cases args; simp_all
  obtain ⟨rfl, rfl⟩ := trodVars_none hV
  have k0 := h0
  have lt0 : ∀ x ∈ p0, x.block < W.heap.size := by obtain ⟨m, hm⟩ := k0; exact DataW.trod_lt m _ _ _ hm
  obtain ⟨A0, len0, cap0, rfl⟩ := okWide_slice Try.underlying33 (hval 0 33 v0 rfl rfl)
  obtain ⟨zs0, wz0⟩ : ∃ zs, LawSets.IsPairs W A0 len0 cap0 zs := by
    obtain ⟨fuel, hf⟩ := h0
    rcases Go.Deep.open_slice Try.underlying33 hf with ⟨hcs, _⟩ | ⟨x, l, c, m, n, D, Pl, hcs, _, hl, hmx, hmm, _, hi⟩
    · simp [Value.cells] at hcs
      obtain ⟨rfl, rfl, rfl⟩ := hcs
      exact ⟨[], .inl ⟨rfl, rfl, rfl⟩⟩
    · simp [Value.cells] at hcs
      obtain ⟨rfl, rfl, rfl⟩ := hcs
      exact pairs_row hl hmx (by rw [hmm]; simp; omega) hi
  clear hA0 hval0 hsz0 hsz
  refine (LawSets.walk A0 len0 cap0 zs0 W wz0).mono fun e W' ⟨he, bel⟩ => ?_
  subst he
  exact ⟨_, rfl, _, _, _, [], _, [], hW', trodAll_mk1 (shut_bool Try.underlying4 _), (trodAll_cons_mk (Below.trod laidOut (by kernel_rfl) (of_decide_eq_true (by kernel_rfl)) k0 bel lt0) trodAll_mk0), rfl, bel.frame _, fun h => by cases h⟩

theorem over : Rows.constsSetsRow.holds Try.pinned (OpenSpec.ofChange Rows.constsSetsSpec) :=
  OpenClaim.holds_of_wide 4 Try.f4 rfl rfl rfl rfl rfl rfl rfl ⟨rfl, rfl, rfl, rfl, rfl⟩ rfl rfl rfl rfl rfl (by kernel_rfl) Try.func4 (by kernel_rfl)
    (of_decide_eq_true (by kernel_rfl)) (by unfold Func.isWrapper; first | (rw [if_pos (by decide +kernel)]; kernel_rfl) | (rw [if_neg (by decide +kernel)]; exact ⟨rfl, rfl⟩))
    (fun os started H enc _ => lifted os started H enc)
theorem proved : Rows.ConstsSetsSaid := over
#print axioms proved
end Go.Proofs.Ytjimcgmefpienaa.constsSets
namespace Go.Proofs.Ytjimcgmefpienaa
/-- The row, under a short name, for the claim. -/
theorem constsSets_holds : Rows.ConstsSetsSaid := constsSets.proved
end Go.Proofs.Ytjimcgmefpienaa
