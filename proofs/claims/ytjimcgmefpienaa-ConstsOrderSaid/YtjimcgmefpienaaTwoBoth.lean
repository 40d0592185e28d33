/- Of two constants the program tells what the document tells. -/
import Derived.Test.YtjimcgmefpienaaTwoPure
namespace Go.Proofs.Ytjimcgmefpienaa.TwoBoth
open Go.RowKit Go.Maps Go.Proofs.Ytjimcgmefpienaa.Tab Go.Proofs.Ytjimcgmefpienaa.Plain Go.Proofs.Ytjimcgmefpienaa.Small Go.Proofs.Ytjimcgmefpienaa.Rels Go.Proofs.Ytjimcgmefpienaa.Two Go.Proofs.Ytjimcgmefpienaa.Good12 Go.Proofs.Ytjimcgmefpienaa.TwoPure Go.Proofs.Ytjimcgmefpienaa.PConstsCalls Go.Proofs.YtjimcgmefpienaaW.PrintWords Go.Proofs.YtjimcgmefpienaaW.PrintLast Go.Proofs.YtjimcgmefpienaaW.PrintMore
set_option linter.unusedVariables false
set_option linter.unusedSimpArgs false

theorem good_ge (f n : Int) (t : ByteArray) (g : Bool) (k : Nat) (h : spinetref12_Good.f k f n t = some g) : ∀ d, spinetref12_Good.f (k + d) f n t = some g := by
  intro d
  induction d with
  | zero => exact h
  | succ d ih => exact spinetref12_Good.mono f n t (k + d) g ih
theorem char_eq (f n : Int) (t : ByteArray) : spinetref12_Char.f f n t = some (charR f n t) := by
  unfold spinetref12_Char.f charR
  by_cases h6 : f = 6
  · rw [if_pos h6]
    by_cases h1 : t.size = 1
    · rw [if_pos (by omega), if_pos (by omega), if_pos ⟨h6, h1⟩]
      obtain ⟨⟨l⟩⟩ := t
      have hl : l.length = 1 := h1
      obtain ⟨b, rfl⟩ := List.length_eq_one_iff.1 hl
      have hb := b.toNat_lt
      have e : bt (ByteArray.mk ⟨[b]⟩) 0 = (b.toNat : Int) := by simp [bt]; rfl
      rw [e, w64 (by omega) (by omega)]
      rfl
    · rw [if_neg (by omega), if_neg (fun h => h1 h.2)]
  · rw [if_neg h6, if_neg (fun h => h6 h.1)]
theorem facts_char {f n : Int} {t : ByteArray} (F : Facts f n t) : Facts (charR f n t).1 (charR f n t).2.1 (charR f n t).2.2 := by
  unfold charR
  by_cases h : f = 6 ∧ t.size = 1
  · rw [if_pos h]
    have hb : 0 ≤ byte0 t ∧ byte0 t < 256 := by
      unfold byte0
      have := (t.data.toList.headD 0).toNat_lt
      omega
    show Facts 3 (byte0 t) E0
    exact ⟨by omega, by omega, by omega, fun _ => hb, by omega, by omega, fun _ => rfl, by decide⟩
  · rw [if_neg h]; exact F
theorem char_not (f n : Int) (t : ByteArray) (h : f ≠ 6) : charR f n t = (f, n, t) := by unfold charR; rw [if_neg (fun x => h x.1)]
/-- The turn to characters, in either order. -/
theorem chars (k : Nat) (op : ByteArray) (fa na fb nb : Int) (ta tb : ByteArray) :
    spinetref12_Two.j0 (k + 2) op false fa na ta fb nb tb =
      spinetref12_Two.j2 k op (chA fa na fb ta).1 (chA fa na fb ta).2.1 (chA fa na fb ta).2.2 (chB fa na fb nb ta tb).1 (chB fa na fb nb ta tb).2.1 (chB fa na fb nb ta tb).2.2 := by
  simp only [spinetref12_Two.j0, Bool.false_eq_true, if_false]
  by_cases ha : fa = 3
  · have hA : chA fa na fb ta = (fa, na, ta) := by unfold chA; rw [char_not fa na ta (by omega)]; split <;> rfl
    have hB : chB fa na fb nb ta tb = charR fb nb tb := by unfold chB; rw [hA, if_pos ha]
    rw [if_pos ha, char_eq, hA, hB]
    simp only [Option.bind_some, spinetref12_Two.j1]
    by_cases h3 : (charR fb nb tb).1 = 3
    · rw [if_pos h3, char_eq, char_not fa na ta (by omega)]; rfl
    · rw [if_neg h3]
  · rw [if_neg ha]
    simp only [spinetref12_Two.j1]
    by_cases hb : fb = 3
    · have hA : chA fa na fb ta = charR fa na ta := by unfold chA; rw [if_pos hb]
      have hB : chB fa na fb nb ta tb = (fb, nb, tb) := by unfold chB; rw [char_not fb nb tb (by omega)]; split <;> rfl
      rw [if_pos hb, char_eq, hA, hB]; rfl
    · have hA : chA fa na fb ta = (fa, na, ta) := by unfold chA; rw [if_neg hb]
      have hB : chB fa na fb nb ta tb = (fb, nb, tb) := by unfold chB; rw [hA, if_neg ha]
      rw [if_neg hb, hA, hB]
theorem facts_A {fa na fb : Int} {ta : ByteArray} (F : Facts fa na ta) : Facts (chA fa na fb ta).1 (chA fa na fb ta).2.1 (chA fa na fb ta).2.2 := by
  unfold chA; split
  · exact facts_char F
  · exact F
theorem facts_B {fa na fb nb : Int} {ta tb : ByteArray} (F : Facts fb nb tb) : Facts (chB fa na fb nb ta tb).1 (chB fa na fb nb ta tb).2.1 (chB fa na fb nb ta tb).2.2 := by
  unfold chB; split
  · exact facts_char F
  · exact F
theorem two_both (op : ByteArray) (fa na fb nb : Int) (ta tb : ByteArray) (hop : op.size ≤ 9223372036854775807)
    (fa0 : -9223372036854775808 ≤ fa) (fa9 : fa ≤ 9223372036854775807) (na0 : -9223372036854775808 ≤ na) (na9 : na ≤ 9223372036854775807) (hta : ta.size ≤ 9223372036854775807)
    (fb0 : -9223372036854775808 ≤ fb) (fb9 : fb ≤ 9223372036854775807) (nb0 : -9223372036854775808 ≤ nb) (nb9 : nb ≤ 9223372036854775807) (htb : tb.size ≤ 9223372036854775807) :
    ∃ r : Int × Int × Int, (∀ W, Calls Try.prog 12 #[.string op, V fa na ta, V fb nb tb] W fun e w' => e = .returned (VR r) ∧ Below W.heap.size W w') ∧
      (∀ W, Calls Try.prog 13 #[.string op, V fa na ta, V fb nb tb] W fun e w' => e = .returned (VR r) ∧ Below W.heap.size W w') := by
  obtain ⟨ka, ga, a1, a2, a3⟩ := good_pure fa na ta na0 na9 hta
  obtain ⟨kb, gb, b1, b2, b3⟩ := good_pure fb nb tb nb0 nb9 htb
  have A : ∀ W, Calls Try.prog 20 #[V fa na ta] W fun e w' => e = .returned (.bool ga) ∧ Below W.heap.size W w' := fun W => consts_Good.calls ka fa na ta ga W a1
  have B : ∀ W, Calls Try.prog 20 #[V fb nb tb] W fun e w' => e = .returned (.bool gb) ∧ Below W.heap.size W w' := fun W => consts_Good.calls kb fb nb tb gb W b1
  have a2' := good_ge fa na ta ga ka a2 (kb + 62)
  have b2' := good_ge fb nb tb gb kb b2 (ka + 62)
  rw [show ka + (kb + 62) = ka + kb + 62 by omega] at a2'
  rw [show kb + (ka + 62) = ka + kb + 62 by omega] at b2'
  by_cases hg : (ga && gb) = true
  · obtain ⟨rfl, rfl⟩ : ga = true ∧ gb = true := by simpa using hg
    have FA := a3 rfl
    have FB := b3 rfl
    refine ⟨twoR op fa na fb nb ta tb, fun W => two_some op fa na fb nb ta tb W hop A B fa0 fa9 fb0 fb9 FA.int FB.int _ rfl, fun W => ?_⟩
    refine spinetref12_Two.calls (ka + kb + 62) op fa na ta fb nb tb _ _ _ _ W ?_
    unfold spinetref12_Two.f
    rw [a2', b2']
    simp only [Option.bind_some, if_true, Bool.not_true]
    rw [chars (ka + kb + 60), core (ka + kb) op _ _ _ _ _ _ (facts_A FA) (facts_B FB), Lib.toList_data]
    rfl
  · have hg : (ga && gb) = false := by simpa using hg
    refine ⟨(0, 0, 120), fun W => two_none op fa na fb nb ta tb ga gb W hg A B, fun W => ?_⟩
    refine spinetref12_Two.calls (ka + kb + 62) op fa na ta fb nb tb _ _ _ _ W ?_
    unfold spinetref12_Two.f
    rw [a2', b2']
    cases ga
    · simp [spinetref12_Two.j0, none_eq, R4]
    · obtain rfl : gb = false := by simpa using hg
      simp [spinetref12_Two.j0, none_eq, R4]
end Go.Proofs.Ytjimcgmefpienaa.TwoBoth
