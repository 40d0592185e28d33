/- The relations of two constants hang together: no Go in sight. -/
import Derived.Test.YtjimcgmefpienaaTwoBoth
namespace Go.Proofs.Ytjimcgmefpienaa.OrderPure
open Go.RowKit Go.Maps Go.Proofs.Ytjimcgmefpienaa.Tab Go.Proofs.Ytjimcgmefpienaa.Plain Go.Proofs.Ytjimcgmefpienaa.Small Go.Proofs.Ytjimcgmefpienaa.Rels Go.Proofs.Ytjimcgmefpienaa.Two Go.Proofs.Ytjimcgmefpienaa.Good12 Go.Proofs.Ytjimcgmefpienaa.TwoPure Go.Proofs.Ytjimcgmefpienaa.TwoBoth Go.Proofs.Ytjimcgmefpienaa.PConstsCalls Go.Proofs.YtjimcgmefpienaaW.PrintWords Go.Proofs.YtjimcgmefpienaaW.PrintLast Go.Proofs.YtjimcgmefpienaaW.PrintMore
set_option linter.unusedVariables false
set_option linter.unusedSimpArgs false

/-- Of any operation of two constants, both. -/
theorem two_all (fa na fb nb : Int) (ta tb : ByteArray)
    (fa0 : -9223372036854775808 ≤ fa) (fa9 : fa ≤ 9223372036854775807) (na0 : -9223372036854775808 ≤ na) (na9 : na ≤ 9223372036854775807) (hta : ta.size ≤ 9223372036854775807)
    (fb0 : -9223372036854775808 ≤ fb) (fb9 : fb ≤ 9223372036854775807) (nb0 : -9223372036854775808 ≤ nb) (nb9 : nb ≤ 9223372036854775807) (htb : tb.size ≤ 9223372036854775807) :
    ∃ g : Bool, (g = true → Facts fa na ta ∧ Facts fb nb tb) ∧ ∀ op : ByteArray, op.size ≤ 9223372036854775807 →
      (∀ W, Calls Try.prog 12 #[.string op, V fa na ta, V fb nb tb] W fun e w' => e = .returned (VR (if g = true then twoR op fa na fb nb ta tb else (0, 0, 120))) ∧ Below W.heap.size W w') ∧
      (∀ W, Calls Try.prog 13 #[.string op, V fa na ta, V fb nb tb] W fun e w' => e = .returned (VR (if g = true then twoR op fa na fb nb ta tb else (0, 0, 120))) ∧ Below W.heap.size W w') := by
  obtain ⟨ka, ga, a1, a2, a3⟩ := good_pure fa na ta na0 na9 hta
  obtain ⟨kb, gb, b1, b2, b3⟩ := good_pure fb nb tb nb0 nb9 htb
  have A : ∀ W, Calls Try.prog 20 #[V fa na ta] W fun e w' => e = .returned (.bool ga) ∧ Below W.heap.size W w' := fun W => consts_Good.calls ka fa na ta ga W a1
  have B : ∀ W, Calls Try.prog 20 #[V fb nb tb] W fun e w' => e = .returned (.bool gb) ∧ Below W.heap.size W w' := fun W => consts_Good.calls kb fb nb tb gb W b1
  have a2' := good_ge fa na ta ga ka a2 (kb + 62)
  have b2' := good_ge fb nb tb gb kb b2 (ka + 62)
  rw [show ka + (kb + 62) = ka + kb + 62 by omega] at a2'
  rw [show kb + (ka + 62) = ka + kb + 62 by omega] at b2'
  refine ⟨ga && gb, fun h => ?_, fun op hop => ?_⟩
  · obtain ⟨rfl, rfl⟩ : ga = true ∧ gb = true := by simpa using h
    exact ⟨a3 rfl, b3 rfl⟩
  by_cases hg : (ga && gb) = true
  · obtain ⟨rfl, rfl⟩ : ga = true ∧ gb = true := by simpa using hg
    have FA := a3 rfl
    have FB := b3 rfl
    rw [if_pos hg]
    refine ⟨fun W => two_some op fa na fb nb ta tb W hop A B fa0 fa9 fb0 fb9 FA.int FB.int _ rfl, fun W => ?_⟩
    refine spinetref12_Two.calls (ka + kb + 62) op fa na ta fb nb tb _ _ _ _ W ?_
    unfold spinetref12_Two.f
    rw [a2', b2']
    simp only [Option.bind_some, if_true, Bool.not_true]
    rw [chars (ka + kb + 60), core (ka + kb) op _ _ _ _ _ _ (facts_A FA) (facts_B FB), Lib.toList_data]
    rfl
  · rw [if_neg hg]
    have hg : (ga && gb) = false := by simpa using hg
    refine ⟨fun W => two_none op fa na fb nb ta tb ga gb W hg A B, fun W => ?_⟩
    refine spinetref12_Two.calls (ka + kb + 62) op fa na ta fb nb tb _ _ _ _ W ?_
    unfold spinetref12_Two.f
    rw [a2', b2']
    cases ga
    · simp [spinetref12_Two.j0, none_eq, R4]
    · obtain rfl : gb = false := by simpa using hg
      simp [spinetref12_Two.j0, none_eq, R4]
/-- The signs of the relations, in the law's order. -/
def sgn (i : Nat) : ByteArray := if i = 0 then ByteArray.mk #[60] else if i = 1 then ByteArray.mk #[61] else if i = 2 then ByteArray.mk #[62] else if i = 3 then ByteArray.mk #[60, 61] else if i = 4 then ByteArray.mk #[35] else ByteArray.mk #[62, 61]
/-- What they tell. -/
def val (q : Int) (i : Nat) : Int := if i = 0 then tr (decide (q < 0)) else if i = 1 then tr (q == 0) else if i = 2 then tr (decide (0 < q)) else if i = 3 then tr (decide (q ≤ 0)) else if i = 4 then tr (q != 0) else tr (decide (0 ≤ q))
theorem e_lt (f n m : Int) (t u : ByteArray) : entR (some (78, some 74)) f n t m u = (2, tr ((fun q : Int => decide (q < 0)) (dif f n m t u)), 0) := by (first | (simp [entR, dif]; done) | (simp [entR, dif]; rfl) | (simp [entR, dif]; congr))
theorem e_eq (f n m : Int) (t u : ByteArray) : entR (some (78, some 72)) f n t m u = (2, tr ((fun q : Int => q == 0) (dif f n m t u)), 0) := by (first | (simp [entR, dif]; done) | (simp [entR, dif]; rfl) | (simp [entR, dif]; congr))
theorem e_gt (f n m : Int) (t u : ByteArray) : entR (some (78, some 76)) f n t m u = (2, tr ((fun q : Int => decide (0 < q)) (dif f n m t u)), 0) := by (first | (simp [entR, dif]; done) | (simp [entR, dif]; rfl) | (simp [entR, dif]; congr))
theorem e_le (f n m : Int) (t u : ByteArray) : entR (some (78, some 75)) f n t m u = (2, tr ((fun q : Int => decide (q ≤ 0)) (dif f n m t u)), 0) := by (first | (simp [entR, dif]; done) | (simp [entR, dif]; rfl) | (simp [entR, dif]; congr))
theorem e_ne (f n m : Int) (t u : ByteArray) : entR (some (78, some 73)) f n t m u = (2, tr ((fun q : Int => q != 0) (dif f n m t u)), 0) := by (first | (simp [entR, dif]; done) | (simp [entR, dif]; rfl) | (simp [entR, dif]; congr))
theorem e_ge (f n m : Int) (t u : ByteArray) : entR (some (78, some 77)) f n t m u = (2, tr ((fun q : Int => decide (0 ≤ q)) (dif f n m t u)), 0) := by (first | (simp [entR, dif]; done) | (simp [entR, dif]; rfl) | (simp [entR, dif]; congr))
/-- Either 'below' is refused, or all six are told by one number. -/
theorem six (f g n m : Int) (t u : ByteArray) (F : Facts f n t) (G : Facts g m u) :
    (entR (total f g (sgn 0).data.toList) f n t m u).2.2 ≠ 0 ∨ ∃ q, ∀ i, i < 6 → entR (total f g (sgn i).data.toList) f n t m u = (2, val q i, 0) := by
  by_cases hfg : f = g
  · subst hfg
    have hf := F.form
    have cs : f = 1 ∨ f = 2 ∨ f = 3 ∨ f = 4 ∨ f = 5 ∨ f = 6 := by omega
    rcases cs with rfl | rfl | rfl | rfl | rfl | rfl
    · refine Or.inr ⟨dif 1 n m t u, fun i hi => ?_⟩
      match i, hi with
      | 0, _ => rw [show (sgn 0).data.toList = [60] from rfl, tt_1_lt, e_lt]; rfl
      | 1, _ => rw [show (sgn 1).data.toList = [61] from rfl, tt_1_eq, e_eq]; rfl
      | 2, _ => rw [show (sgn 2).data.toList = [62] from rfl, tt_1_gt, e_gt]; rfl
      | 3, _ => rw [show (sgn 3).data.toList = [60, 61] from rfl, tt_1_le, e_le]; rfl
      | 4, _ => rw [show (sgn 4).data.toList = [35] from rfl, tt_1_ne, e_ne]; rfl
      | 5, _ => rw [show (sgn 5).data.toList = [62, 61] from rfl, tt_1_ge, e_ge]; rfl
      | i + 6, hi => omega
    · refine Or.inl ?_
      rw [show (sgn 0).data.toList = [60] from rfl, tt_2_lt]
      simp [entR]
    · refine Or.inr ⟨dif 3 n m t u, fun i hi => ?_⟩
      match i, hi with
      | 0, _ => rw [show (sgn 0).data.toList = [60] from rfl, tt_3_lt, e_lt]; rfl
      | 1, _ => rw [show (sgn 1).data.toList = [61] from rfl, tt_3_eq, e_eq]; rfl
      | 2, _ => rw [show (sgn 2).data.toList = [62] from rfl, tt_3_gt, e_gt]; rfl
      | 3, _ => rw [show (sgn 3).data.toList = [60, 61] from rfl, tt_3_le, e_le]; rfl
      | 4, _ => rw [show (sgn 4).data.toList = [35] from rfl, tt_3_ne, e_ne]; rfl
      | 5, _ => rw [show (sgn 5).data.toList = [62, 61] from rfl, tt_3_ge, e_ge]; rfl
      | i + 6, hi => omega
    · refine Or.inl ?_
      rw [show (sgn 0).data.toList = [60] from rfl, tt_4_lt]
      simp [entR]
    · refine Or.inl ?_
      rw [show (sgn 0).data.toList = [60] from rfl, tt_5_lt]
      simp [entR]
    · refine Or.inr ⟨dif 6 n m t u, fun i hi => ?_⟩
      match i, hi with
      | 0, _ => rw [show (sgn 0).data.toList = [60] from rfl, tt_6_lt, e_lt]; rfl
      | 1, _ => rw [show (sgn 1).data.toList = [61] from rfl, tt_6_eq, e_eq]; rfl
      | 2, _ => rw [show (sgn 2).data.toList = [62] from rfl, tt_6_gt, e_gt]; rfl
      | 3, _ => rw [show (sgn 3).data.toList = [60, 61] from rfl, tt_6_le, e_le]; rfl
      | 4, _ => rw [show (sgn 4).data.toList = [35] from rfl, tt_6_ne, e_ne]; rfl
      | 5, _ => rw [show (sgn 5).data.toList = [62, 61] from rfl, tt_6_ge, e_ge]; rfl
      | i + 6, hi => omega
  · refine Or.inl ?_
    rw [total_ne f g _ hfg (fun h => by have := h.2.2; rw [show (sgn 0).data.toList = [60] from rfl] at this; simp at this)]
    simp [entR]
theorem sgn_size (i : Nat) : (sgn i).size ≤ 9223372036854775807 := by
  unfold sgn
  repeat (first | (split; · decide) | decide)
/-- The two ways of the law. -/
theorem ways (fa na fb nb : Int) (ta tb : ByteArray)
    (fa0 : -9223372036854775808 ≤ fa) (fa9 : fa ≤ 9223372036854775807) (na0 : -9223372036854775808 ≤ na) (na9 : na ≤ 9223372036854775807) (hta : ta.size ≤ 9223372036854775807)
    (fb0 : -9223372036854775808 ≤ fb) (fb9 : fb ≤ 9223372036854775807) (nb0 : -9223372036854775808 ≤ nb) (nb9 : nb ≤ 9223372036854775807) (htb : tb.size ≤ 9223372036854775807) :
    (∃ r : Int × Int × Int, r.2.2 ≠ 0 ∧ (∀ W, Calls Try.prog 12 #[.string (ByteArray.mk #[60]), V fa na ta, V fb nb tb] W fun e w' => e = .returned (VR r) ∧ Below W.heap.size W w') ∧
      (∀ W, Calls Try.prog 13 #[.string (ByteArray.mk #[60]), V fa na ta, V fb nb tb] W fun e w' => e = .returned (VR r) ∧ Below W.heap.size W w')) ∨
    (∃ q : Int, ∀ i, i < 6 → ∀ W, Calls Try.prog 12 #[.string (sgn i), V fa na ta, V fb nb tb] W fun e w' => e = .returned (VR (2, val q i, 0)) ∧ Below W.heap.size W w') := by
  obtain ⟨g, hg, h⟩ := two_all fa na fb nb ta tb fa0 fa9 na0 na9 hta fb0 fb9 nb0 nb9 htb
  cases g
  · have := h (ByteArray.mk #[60]) (by decide)
    exact Or.inl ⟨(0, 0, 120), by decide, this.1, this.2⟩
  · obtain ⟨FA, FB⟩ := hg rfl
    rcases six _ _ _ _ _ _ (facts_A FA) (facts_B FB) with h1 | ⟨q, h1⟩
    · have := h (ByteArray.mk #[60]) (by decide)
      exact Or.inl ⟨_, h1, this.1, this.2⟩
    · refine Or.inr ⟨q, fun i hi W => ?_⟩
      have := (h (sgn i) (sgn_size i)).1 W
      rw [if_pos rfl] at this
      rw [← h1 i hi]
      exact this
/-- The sums of the law. -/
theorem sums (q : Int) : val q 0 + val q 1 + val q 2 = 1 ∧ val q 3 = val q 0 + val q 1 ∧ val q 4 = 1 - val q 1 ∧ val q 5 = val q 1 + val q 2 := by
  have cs : q < 0 ∨ q = 0 ∨ 0 < q := by omega
  rcases cs with h | h | h
  · have e1 : ¬ q = 0 := by omega
    have e2 : ¬ 0 < q := by omega
    have e3 : q ≤ 0 := by omega
    have e4 : ¬ 0 ≤ q := by omega
    simp [val, tr, h, e1, e2, e3, e4]
  · subst h
    simp [val, tr]
  · have e1 : ¬ q = 0 := by omega
    have e2 : ¬ q < 0 := by omega
    have e3 : ¬ q ≤ 0 := by omega
    have e4 : 0 ≤ q := by omega
    simp [val, tr, h, e1, e2, e3, e4]
theorem val01 (q : Int) (i : Nat) : 0 ≤ val q i ∧ val q i ≤ 1 := by
  unfold val tr
  repeat' split
  all_goals omega
end Go.Proofs.Ytjimcgmefpienaa.OrderPure
