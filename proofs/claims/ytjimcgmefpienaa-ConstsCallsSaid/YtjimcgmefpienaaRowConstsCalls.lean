/- What every standard function tells of any constants is what the document's answer tells. Conditions: none. -/
import Derived.Test.YtjimcgmefpienaaRows
import Derived.Test.YtjimcgmefpienaaLawCalls
import Derived.WalkKit
import Derived.ProofKit
import Derived.OpenShut
import Derived.ShutString
import Derived.ChangeOld
import Derived.Below
import Derived.SizedLaws
import Derived.Deep.Slices
import Derived.DataElems
namespace Go.Proofs.Ytjimcgmefpienaa.constsCalls
open Go.ChangeShapes Go.WideShapes Go.ChangeAt Go.RowKit
open Go.ChangeMaps (open_string shut_string)
set_option linter.unusedVariables false
theorem own : ownKnob Try.prog.godebug = none := by kernel_rfl
theorem laidOut : laidOutB Try.prog = true := by kernel_rfl
theorem list3 {α : Type} {l : List α} (h : l.length = 3) : ∃ c0 c1 c2, l = [c0, c1, c2] := by
  match l, h with
  | [c0, c1, c2], _ => exact ⟨c0, c1, c2, rfl⟩
set_option maxRecDepth 100000 in
theorem open23 {H : Type} {enc : TypeId × Value → H} {w : World} {base : Nat} {sp : Nat → Bool} {held : Bool} {fuel : Nat} {cs : List Value} {x : DataW H × List MemPlace}
    (h : DataW.trod enc Try.prog w base sp held fuel 23 cs = some x) : ∃ (a0 : Int) (a1 : Int) (a2 : ByteArray), cs = [.int .i64 a0, .int .i64 a1, .string a2] ∧ (Lit.int .i64 a0).wf = true ∧ (Lit.int .i64 a1).wf = true ∧ a2.size ≤ maxLen := by
  obtain ⟨xs, n, _, hx, hl, hxs, hf⟩ := DataW.trod_struct Try.underlying23 h
  have hc : Try.prog.cellsOf 23 = 3 := by kernel_rfl
  rw [hc] at hl
  obtain ⟨c0, c1, c2, rfl⟩ := list3 hl
  obtain ⟨y0, y1, y2, rfl⟩ := list3 hxs
  have h0 : DataW.trod enc Try.prog w base sp held n 3 [c0] = some y0 := hf 0 _ rfl
  obtain ⟨a0, e0, rfl, w0⟩ := DataW.trod_int Try.underlying3 h0
  obtain rfl : c0 = _ := by simpa using e0
  have h1 : DataW.trod enc Try.prog w base sp held n 3 [c1] = some y1 := hf 1 _ rfl
  obtain ⟨a1, e1, rfl, w1⟩ := DataW.trod_int Try.underlying3 h1
  obtain rfl : c1 = _ := by simpa using e1
  have h2 : DataW.trod enc Try.prog w base sp held n 9 [c2] = some y2 := hf 2 _ rfl
  obtain ⟨a2, e2, rfl, w2⟩ := DataW.trod_string Try.underlying9 h2
  obtain rfl : c2 = _ := by simpa using e2
  exact ⟨a0, a1, a2, rfl, w0, w1, w2⟩

theorem vals_row {H : Type} {enc : TypeId × Value → H} {w : World} {base : Nat} {sp : Nat → Bool} {held : Bool} {x : Addr} {l c m n : Nat} {D : Nat → DataW H} {Pl : Nat → List MemPlace} (hl : l ≤ c) (hmx : c ≤ maxLen) (hlm : l ≤ m)
    (hi : ∀ i, i < m → ∃ cs', w.cells? base (x.add (i * Try.prog.cellsOf 23)) (Try.prog.cellsOf 23) = some cs' ∧ DataW.trod enc Try.prog w base sp held n 23 cs' = some (D i, Pl i)) : ∃ zs, LawCalls.IsVals w (some x) l c zs := by
  have hc : Try.prog.cellsOf 23 = 3 := by kernel_rfl
  rw [hc] at hi
  have key : ∀ i, ∃ p : PConstsCalls.S23, i < l → (∀ j u, [Value.int .i64 p.f0, .int .i64 p.f1, .string p.f2][j]? = some u → w.cell? (x.add (i * 3 + j)) = some u) ∧
      (-9223372036854775808 ≤ p.f1 ∧ p.f1 ≤ 9223372036854775807) ∧ p.f2.size ≤ 9223372036854775807 := by
    intro i
    by_cases h : i < l
    · obtain ⟨cs, hcs, ht⟩ := hi i (by omega)
      obtain ⟨a0, a1, a2, rfl, w0, w1, w2⟩ := open23 ht
      obtain ⟨_, _, hat⟩ := World.cells?_some hcs
      refine ⟨⟨a0, a1, a2⟩, fun _ => ⟨fun j u hu => ?_, bounds_i64 w1, w2⟩⟩
      have hj : j < 3 := by
        have := (List.getElem?_eq_some_iff.1 hu).1
        simpa using this
      have := hat j hj
      rw [Addr.add_add] at this
      exact this.trans hu
    · exact ⟨PConstsCalls.z23, fun h' => absurd h' h⟩
  have hlen : ((List.range l).map (fun i => Classical.choose (key i))).length = l := by simp
  refine ⟨(List.range l).map (fun i => Classical.choose (key i)), .inr ⟨x, rfl, hlen.symm, hl, ?_, fun p hp => ?_⟩⟩
  · rw [hlen]
    refine ⟨hlen, by unfold maxLen at hmx; omega, fun _ => ⟨x, rfl, fun j p hj => ?_⟩⟩
    obtain ⟨h1, h2⟩ : j < l ∧ Classical.choose (key j) = p := by
      rw [List.getElem?_map] at hj
      by_cases h : j < l
      · rw [List.getElem?_range h] at hj
        exact ⟨h, by simpa using hj⟩
      · rw [List.getElem?_eq_none (by simp; omega)] at hj; simp at hj
    have := (Classical.choose_spec (key j) h1).1
    rw [h2] at this
    refine ⟨_, rfl, PConstsCalls.k23_mk w p, fun i u hu => ?_⟩
    rw [Law12.sz23]
    exact this i u hu
  · obtain ⟨i, hi', rfl⟩ := List.mem_map.1 hp
    exact (Classical.choose_spec (key i) (List.mem_range.1 hi')).2
set_option maxRecDepth 100000 in
theorem lifted (os : Os) (started : os.Started) (H : Type) (enc : TypeId × Value → H) :
    ReturnsInHanded {} Try.checked os 9 .any (Rows.constsCallsSpec.pre6 enc Try.prog Try.f9 Rows.constsCallsRow.domain false) (Rows.constsCallsSpec.post enc Try.prog Try.f9 false true false false) := by
  refine returnsInHanded_of_change_sized (C := Try.checked) own started (by kernel_rfl) Try.func9
    (ChangeSpec.witness6 (enc := enc) (C := Try.checked) false ⟨#[], #[.string ByteArray.empty, .slice none 0 0], []⟩ 8 (by kernel_rfl) (by kernel_rfl) (by kernel_rfl) (by kernel_rfl)) ?_
  intro W base args ds gs before hval0 hW hcnd hsz0 _
  have hsz : (DataW.weightsEach Try.prog (Try.f9.params.toList ++ Rows.constsCallsSpec.plain.varTypes Try.prog) (ds ++ gs)).all (· ≤ reachBytes) = true := hsz0
  have hval : ∀ (j : Nat) t v, Try.f9.params[j]? = some t → args[j]? = some v → Value.okWide Try.prog W .any base t v := hval0
  have hW' := hW
  obtain ⟨p, q, hA0, hV, rfl, hfz, hnd⟩ := hW
  have hA : DataW.TrodAll enc Try.prog W 0 (fun _ => true) true Try.f9.params.toList args.toList ds p := hA0
  rw [Try.params9] at hA hval hsz
  obtain ⟨v0, vs0, d0, ds0, p0, q0, hargs, rfl, rfl, h0, r0⟩ := trodAll_cons hA
  obtain ⟨v1, vs1, d1, ds1, p1, q1, rfl, rfl, rfl, h1, r1⟩ := trodAll_cons r0
  obtain ⟨rfl, rfl, rfl⟩ := trodAll_nil r1
  obtain rfl : args = #[v0, v1] := by cases args; simp_all
  obtain ⟨rfl, rfl⟩ := trodVars_none hV
  have k0 := h0
  have lt0 : ∀ x ∈ p0, x.block < W.heap.size := by obtain ⟨m, hm⟩ := k0; exact DataW.trod_lt m _ _ _ hm
  obtain ⟨b0, rfl, rfl, _, y0⟩ := open_string Try.underlying9 (hval 0 9 v0 rfl rfl) h0
  have wf0 : b0.size ≤ 140737488351232 := by
    have z := sized_string hsz (j := 0) (t := 9) rfl rfl
    rw [Array.length_toList] at z
    exact z
  have k1 := h1
  have lt1 : ∀ x ∈ p1, x.block < W.heap.size := by obtain ⟨m, hm⟩ := k1; exact DataW.trod_lt m _ _ _ hm
  obtain ⟨A1, len1, cap1, rfl⟩ := okWide_slice Try.underlying49 (hval 1 49 v1 rfl rfl)
  obtain ⟨zs1, wz1⟩ : ∃ zs, LawCalls.IsVals W A1 len1 cap1 zs := by
    obtain ⟨fuel, hf⟩ := h1
    rcases Go.Deep.open_slice Try.underlying49 hf with ⟨hcs, _⟩ | ⟨x, l, c, m, n, D, Pl, hcs, _, hl, hmx, hmm, _, hi⟩
    · simp [Value.cells] at hcs
      obtain ⟨rfl, rfl, rfl⟩ := hcs
      exact ⟨[], .inl ⟨rfl, rfl, rfl⟩⟩
    · simp [Value.cells] at hcs
      obtain ⟨rfl, rfl, rfl⟩ := hcs
      exact vals_row hl hmx (by rw [hmm]; simp; omega) hi
  clear hA0 hval0 hsz0 hsz
  refine (LawCalls.walk b0 A1 len1 cap1 zs1 W wz1).mono fun e W' ⟨he, bel⟩ => ?_
  subst he
  exact ⟨_, rfl, _, _, _, [], _, [], hW', trodAll_mk1 (shut_bool Try.underlying4 _), (trodAll_cons_mk (Below.trod laidOut (by kernel_rfl) (of_decide_eq_true (by kernel_rfl)) k0 bel lt0) (trodAll_cons_mk (Below.trod laidOut (by kernel_rfl) (of_decide_eq_true (by kernel_rfl)) k1 bel lt1) trodAll_mk0)), rfl, bel.frame _, fun h => by cases h⟩

theorem over : Rows.constsCallsRow.holds Try.pinned (OpenSpec.ofChange Rows.constsCallsSpec) :=
  OpenClaim.holds_of_wide 9 Try.f9 rfl rfl rfl rfl rfl rfl rfl ⟨rfl, rfl, rfl, rfl, rfl⟩ rfl rfl rfl rfl rfl (by kernel_rfl) Try.func9 (by kernel_rfl)
    (of_decide_eq_true (by kernel_rfl)) (by unfold Func.isWrapper; first | (rw [if_pos (by decide +kernel)]; kernel_rfl) | (rw [if_neg (by decide +kernel)]; exact ⟨rfl, rfl⟩))
    (fun os started H enc _ => lifted os started H enc)
theorem proved : Rows.ConstsCallsSaid := over
#print axioms proved
end Go.Proofs.Ytjimcgmefpienaa.constsCalls
namespace Go.Proofs.Ytjimcgmefpienaa
/-- The row, under a short name, for the claim. -/
theorem constsCalls_holds : Rows.ConstsCallsSaid := constsCalls.proved
end Go.Proofs.Ytjimcgmefpienaa
