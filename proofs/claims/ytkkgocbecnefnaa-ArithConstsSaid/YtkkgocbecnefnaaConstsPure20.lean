/- Constants of numbers against numbers of programs: no Go in sight. -/
import Derived.Test.YtkkgocbecnefnaaConstsTwo
import Derived.Test.YtkkgocbecnefnaaConstsNums
import Derived.Test.YtkkgocbecnefnaaConsts20
import Derived.Test.YtkkgocbecnefnaaWakes
namespace Go.Proofs.Ytkkgocbecnefnaa.ConstsPure20
open Go.RowKit Go.Proofs.Ytkkgocbecnefnaa Go.Proofs.Ytkkgocbecnefnaa.Plain Go.Proofs.Ytkkgocbecnefnaa.Tab Go.Proofs.Ytkkgocbecnefnaa.Small Go.Proofs.Ytkkgocbecnefnaa.Fill Go.Proofs.Ytkkgocbecnefnaa.Rels Go.Proofs.Ytkkgocbecnefnaa.Two Go.Proofs.Ytkkgocbecnefnaa.Nums Go.Proofs.Ytkkgocbecnefnaa.Wakes Go.Proofs.Ytkkgocbecnefnaa.PArithConsts Go.Proofs.YtkkgocbecnefnaaW.PrintWords Go.Proofs.YtkkgocbecnefnaaW.PrintLast Go.Proofs.YtkkgocbecnefnaaW.PrintMore
set_option linter.unusedVariables false
set_option linter.unusedSimpArgs false

/-! ### the first half: operations and relations -/
theorem round_of (n : Int) : arith_round.f n = some (wrap32 n) := by
  simp only [arith_round.f, bits_Word.f, bits_Signed.f, Option.bind_some]
  congr 1
  unfold wrap64 wrap32; omega
theorem relate_eq (op : ByteArray) (a b : Int) (a0 : -2147483648 ≤ a) (a1 : a < 2147483648) (b0 : -2147483648 ≤ b) (b1 : b < 2147483648) : arith_Relate.f op a b = arith_holds.f op (wrap64 (a - b)) := by
  have e1 : wrap32 a = a := by unfold wrap32; omega
  have e2 : wrap32 b = b := by unfold wrap32; omega
  simp only [arith_Relate.f, round_of, Option.bind_some, e1, e2]
  cases arith_holds.f op (wrap64 (a - b)) <;> rfl
theorem holds_some (op : ByteArray) (n : Int) : ∃ x y, arith_holds.f op n = some (x, y) := by
  unfold arith_holds.f
  repeat (split; · exact ⟨_, _, rfl⟩)
  exact ⟨_, _, rfl⟩
theorem relate_ex (op : ByteArray) (a b : Int) : ∃ x y, arith_Relate.f op a b = some (x, y) := by
  simp only [arith_Relate.f, round_of, Option.bind_some]
  obtain ⟨x, y, h⟩ := holds_some op (wrap64 (wrap32 a - wrap32 b))
  exact ⟨x, y, by rw [h]; rfl⟩
/-- What the law asks of the first half. -/
def First (r : Int × Int × Int) (t : Int × Int × Bool) (is there : Bool) : Prop :=
  (r.2.2 ≠ 0 ∧ r.2.2 ≠ 121) ∨ (r.2.2 = 121 ∧ t.2.1 = 6) ∨ (r.1 = 1 ∧ r.2.2 = 0 ∧ t.2.2 = true ∧ t.2.1 = 0 ∧ t.1 = r.2.1) ∨ (r.1 = 2 ∧ r.2.2 = 0 ∧ there = true ∧ is = (r.2.1 == 1))
theorem fits_case (x m : Int) (ok : Bool) (h : -2147483648 ≤ x → x < 2147483648 → m = x) (is there : Bool) : First (fitsR x) (m, 0, true) is there := by
  unfold fitsR
  by_cases hx : -2147483648 ≤ x ∧ x < 2147483648
  · rw [if_pos hx]; exact Or.inr (Or.inr (Or.inl ⟨rfl, rfl, rfl, rfl, h hx.1 hx.2⟩))
  · rw [if_neg hx]; exact Or.inl ⟨by decide, by decide⟩
theorem wrap_in (x y : Int) (hy : y = wrap32 x) (h0 : -2147483648 ≤ wrap64 x) (h1 : wrap64 x < 2147483648) : y = wrap64 x := by
  rw [hy]; unfold wrap32 wrap64 at *; omega

theorem u_add : total 1 1 [43] = some (74, some 75) := by decide +kernel
theorem u_sub : total 1 1 [45] = some (74, some 77) := by decide +kernel
theorem u_mul : total 1 1 [42] = some (74, some 78) := by decide +kernel
theorem u_DIV : total 1 1 [68, 73, 86] = some (74, some 79) := by decide +kernel
theorem u_MOD : total 1 1 [77, 79, 68] = some (74, some 81) := by decide +kernel
theorem u_eq : total 1 1 [61] = some (96, some 90) := by decide +kernel
theorem u_ne : total 1 1 [35] = some (96, some 91) := by decide +kernel
theorem u_lt : total 1 1 [60] = some (96, some 92) := by decide +kernel
theorem u_le : total 1 1 [60, 61] = some (96, some 93) := by decide +kernel
theorem u_gt : total 1 1 [62] = some (96, some 94) := by decide +kernel
theorem u_ge : total 1 1 [62, 61] = some (96, some 95) := by decide +kernel
def Other (l : List UInt8) : Prop := l ≠ [43] ∧ l ≠ [45] ∧ l ≠ [42] ∧ l ≠ [68, 73, 86] ∧ l ≠ [77, 79, 68] ∧ l ≠ [61] ∧ l ≠ [35] ∧ l ≠ [60] ∧ l ≠ [60, 61] ∧ l ≠ [62] ∧ l ≠ [62, 61]
theorem total_other (l : List UInt8) (h : Other l) : total 1 1 l = none := by
  obtain ⟨hadd, hsub, hmul, hDIV, hMOD, heq, hne, hlt, hle, hgt, hge⟩ := h
  have hr : relF l = none := by
    unfold relF
    rw [if_neg (by simpa using hge), if_neg (by simpa using hgt), if_neg (by simpa using hle), if_neg (by simpa using hlt), if_neg (by simpa using hne), if_neg (by simpa using heq)]
  unfold total booSt
  rw [if_neg (by rintro ⟨h, _⟩; revert h; decide)]
  unfold relSt
  rw [hr, if_neg (by simp)]
  unfold st2 st1 upd
  have n4 : ¬ ((1 : Int) = 4) := by decide
  simp only [show (ByteArray.mk #[43]).data.toList = [43] from rfl, show (ByteArray.mk #[45]).data.toList = [45] from rfl, show (ByteArray.mk #[42]).data.toList = [42] from rfl, show (ByteArray.mk #[68, 73, 86]).data.toList = [68, 73, 86] from rfl, show (ByteArray.mk #[77, 79, 68]).data.toList = [77, 79, 68] from rfl, hadd, hsub, hmul, hDIV, hMOD, n4, and_false, false_and, if_false]
theorem signs (l : List UInt8) : l = [43] ∨ l = [45] ∨ l = [42] ∨ l = [68, 73, 86] ∨ l = [77, 79, 68] ∨ l = [61] ∨ l = [35] ∨ l = [60] ∨ l = [60, 61] ∨ l = [62] ∨ l = [62, 61] ∨ Other l := by
  by_cases hadd : l = [43]
  · simp [hadd]
  by_cases hsub : l = [45]
  · simp [hsub]
  by_cases hmul : l = [42]
  · simp [hmul]
  by_cases hDIV : l = [68, 73, 86]
  · simp [hDIV]
  by_cases hMOD : l = [77, 79, 68]
  · simp [hMOD]
  by_cases heq : l = [61]
  · simp [heq]
  by_cases hne : l = [35]
  · simp [hne]
  by_cases hlt : l = [60]
  · simp [hlt]
  by_cases hle : l = [60, 61]
  · simp [hle]
  by_cases hgt : l = [62]
  · simp [hgt]
  by_cases hge : l = [62, 61]
  · simp [hge]
  repeat right
  exact ⟨hadd, hsub, hmul, hDIV, hMOD, heq, hne, hlt, hle, hgt, hge⟩
theorem first_in (op : ByteArray) (a b : Int) (a0 : -2147483648 ≤ a) (a1 : a < 2147483648) (b0 : -2147483648 ≤ b) (b1 : b < 2147483648) (is there : Bool) (hr : arith_Relate.f op a b = some (is, there)) :
    First (entR (total 1 1 op.toList) 1 a E0 b E0) (intF op.toList a b) is there := by
  have e1 : wrap32 a = a := by unfold wrap32; omega
  have e2 : wrap32 b = b := by unfold wrap32; omega
  rw [relate_eq op a b a0 a1 b0 b1] at hr
  rcases signs op.toList with h | h | h | h | h | h | h | h | h | h | h | h
  · rw [h, u_add]
    have hE : entR (some (74, some 75)) 1 a E0 b E0 = fitsR (wrap64 (a + b)) := by simp [entR]
    have hI : intF [43] a b = (wrap32 (a + b), 0, true) := by simp [intF, e1, e2]
    rw [hE, hI]
    exact fits_case _ _ true (fun h0 h1 => wrap_in _ _ rfl h0 h1) is there
  · rw [h, u_sub]
    have hE : entR (some (74, some 77)) 1 a E0 b E0 = fitsR (wrap64 (a - b)) := by simp [entR]
    have hI : intF [45] a b = (wrap32 (a - b), 0, true) := by simp [intF, e1, e2]
    rw [hE, hI]
    exact fits_case _ _ true (fun h0 h1 => wrap_in _ _ rfl h0 h1) is there
  · rw [h, u_mul]
    have hE : entR (some (74, some 78)) 1 a E0 b E0 = fitsR (wrap64 (a * b)) := by simp [entR]
    have hI : intF [42] a b = (wrap32 (a * b), 0, true) := by simp [intF, e1, e2]
    rw [hE, hI]
    exact fits_case _ _ true (fun h0 h1 => wrap_in _ _ rfl h0 h1) is there
  · rw [h, u_DIV]
    have hE : entR (some (74, some 79)) 1 a E0 b E0 = divR true a b := by simp [entR]
    have hI : intF [68, 73, 86] a b = if b ≤ 0 then (0, 6, true) else (wrap32 (a / b), 0, true) := by simp [intF, e1, e2]
    rw [hE, hI]
    unfold divR
    by_cases hb : b ≤ 0
    · rw [if_pos hb, if_pos hb]; exact Or.inr (Or.inl ⟨rfl, rfl⟩)
    · rw [if_neg hb, if_neg hb]
      have q0 : -2147483648 ≤ a / b := by rw [Int.le_ediv_iff_mul_le (by omega)]; omega
      have q1 : a / b < 2147483648 := by rw [Int.ediv_lt_iff_lt_mul (by omega)]; omega
      have m0 := Int.emod_nonneg a (show b ≠ 0 by omega)
      have m1 := Int.emod_lt_of_pos a (show 0 < b by omega)
      refine Or.inr (Or.inr (Or.inl ⟨rfl, rfl, rfl, rfl, ?_⟩))
      show wrap32 (a / b) = a / b
      unfold wrap32; omega
  · rw [h, u_MOD]
    have hE : entR (some (74, some 81)) 1 a E0 b E0 = divR false a b := by simp [entR]
    have hI : intF [77, 79, 68] a b = if b ≤ 0 then (0, 6, true) else (wrap32 (a % b), 0, true) := by simp [intF, e1, e2]
    rw [hE, hI]
    unfold divR
    by_cases hb : b ≤ 0
    · rw [if_pos hb, if_pos hb]; exact Or.inr (Or.inl ⟨rfl, rfl⟩)
    · rw [if_neg hb, if_neg hb]
      have q0 : -2147483648 ≤ a / b := by rw [Int.le_ediv_iff_mul_le (by omega)]; omega
      have q1 : a / b < 2147483648 := by rw [Int.ediv_lt_iff_lt_mul (by omega)]; omega
      have m0 := Int.emod_nonneg a (show b ≠ 0 by omega)
      have m1 := Int.emod_lt_of_pos a (show 0 < b by omega)
      refine Or.inr (Or.inr (Or.inl ⟨rfl, rfl, rfl, rfl, ?_⟩))
      show wrap32 (a % b) = a % b
      unfold wrap32; omega
  · rw [h, u_eq]
    have hE : entR (some (96, some 90)) 1 a E0 b E0 = (2, tr ((fun q : Int => q == 0) (wrap64 (a - b))), 0) := by first | (simp [entR]; done) | (simp [entR]; rfl)
    rw [hE]
    unfold arith_holds.f at hr
    simp [h] at hr
    obtain ⟨h1, h2⟩ := hr
    refine Or.inr (Or.inr (Or.inr ⟨rfl, rfl, by simp [← h2], ?_⟩))
    rw [← h1]
    generalize wrap64 (a - b) = q
    have ht : ∀ x : Bool, x = (tr x == 1) := by intro x; cases x <;> rfl
    exact ht _
  · rw [h, u_ne]
    have hE : entR (some (96, some 91)) 1 a E0 b E0 = (2, tr ((fun q : Int => q != 0) (wrap64 (a - b))), 0) := by first | (simp [entR]; done) | (simp [entR]; rfl)
    rw [hE]
    unfold arith_holds.f at hr
    simp [h] at hr
    obtain ⟨h1, h2⟩ := hr
    refine Or.inr (Or.inr (Or.inr ⟨rfl, rfl, by simp [← h2], ?_⟩))
    rw [← h1]
    generalize wrap64 (a - b) = q
    have ht : ∀ x : Bool, x = (tr x == 1) := by intro x; cases x <;> rfl
    exact ht _
  · rw [h, u_lt]
    have hE : entR (some (96, some 92)) 1 a E0 b E0 = (2, tr ((fun q : Int => decide (q < 0)) (wrap64 (a - b))), 0) := by first | (simp [entR]; done) | (simp [entR]; rfl)
    rw [hE]
    unfold arith_holds.f at hr
    simp [h] at hr
    obtain ⟨h1, h2⟩ := hr
    refine Or.inr (Or.inr (Or.inr ⟨rfl, rfl, by simp [← h2], ?_⟩))
    rw [← h1]
    generalize wrap64 (a - b) = q
    have ht : ∀ x : Bool, x = (tr x == 1) := by intro x; cases x <;> rfl
    exact ht _
  · rw [h, u_le]
    have hE : entR (some (96, some 93)) 1 a E0 b E0 = (2, tr ((fun q : Int => decide (q ≤ 0)) (wrap64 (a - b))), 0) := by first | (simp [entR]; done) | (simp [entR]; rfl)
    rw [hE]
    unfold arith_holds.f at hr
    simp [h] at hr
    obtain ⟨h1, h2⟩ := hr
    refine Or.inr (Or.inr (Or.inr ⟨rfl, rfl, by simp [← h2], ?_⟩))
    rw [← h1]
    generalize wrap64 (a - b) = q
    have ht : ∀ x : Bool, x = (tr x == 1) := by intro x; cases x <;> rfl
    exact ht _
  · rw [h, u_gt]
    have hE : entR (some (96, some 94)) 1 a E0 b E0 = (2, tr ((fun q : Int => decide (0 < q)) (wrap64 (a - b))), 0) := by first | (simp [entR]; done) | (simp [entR]; rfl)
    rw [hE]
    unfold arith_holds.f at hr
    simp [h] at hr
    obtain ⟨h1, h2⟩ := hr
    refine Or.inr (Or.inr (Or.inr ⟨rfl, rfl, by simp [← h2], ?_⟩))
    rw [← h1]
    generalize wrap64 (a - b) = q
    have ht : ∀ x : Bool, x = (tr x == 1) := by intro x; cases x <;> rfl
    exact ht _
  · rw [h, u_ge]
    have hE : entR (some (96, some 95)) 1 a E0 b E0 = (2, tr ((fun q : Int => decide (0 ≤ q)) (wrap64 (a - b))), 0) := by first | (simp [entR]; done) | (simp [entR]; rfl)
    rw [hE]
    unfold arith_holds.f at hr
    simp [h] at hr
    obtain ⟨h1, h2⟩ := hr
    refine Or.inr (Or.inr (Or.inr ⟨rfl, rfl, by simp [← h2], ?_⟩))
    rw [← h1]
    generalize wrap64 (a - b) = q
    have ht : ∀ x : Bool, x = (tr x == 1) := by intro x; cases x <;> rfl
    exact ht _
  · rw [total_other _ h]
    exact Or.inl ⟨by simp [entR], by simp [entR]⟩
/-- Two numbers, whatever they are. -/
theorem first_any (op : ByteArray) (a b : Int) (hop : op.size ≤ maxLen) : ∃ (r : Int × Int × Int) (is there : Bool), (∀ W, Calls Try.prog 24 #[.string op, V 1 a E0, V 1 b E0] W fun e w' => e = .returned (VR r) ∧ Below W.heap.size W w') ∧
    arith_Relate.f op a b = some (is, there) ∧ First r (intF op.toList a b) is there := by
  obtain ⟨is, there, hr⟩ := relate_ex op a b
  by_cases h : (decide (-2147483648 ≤ a) && decide (a < 2147483648) && (decide (-2147483648 ≤ b) && decide (b < 2147483648))) = true
  · have h' := h
    simp at h'
    obtain ⟨⟨a0, a1⟩, b0, b1⟩ := h'
    refine ⟨_, is, there, fun W => ?_, hr, first_in op a b a0 a1 b0 b1 is there hr⟩
    have ga : (decide (-2147483648 ≤ a) && decide (a < 2147483648)) = true := by simp [a0, a1]
    have gb : (decide (-2147483648 ≤ b) && decide (b < 2147483648)) = true := by simp [b0, b1]
    exact two_some op 1 a 1 b E0 E0 W hop (fun W => by have := good_int a W; rwa [ga] at this) (fun W => by have := good_int b W; rwa [gb] at this) (by decide) (by decide) (by decide) (by decide) (fun _ => ⟨a0, a1⟩) (fun _ => ⟨b0, b1⟩) _ (by rw [Lib.toList_data]; rfl)
  · have h : (decide (-2147483648 ≤ a) && decide (a < 2147483648) && (decide (-2147483648 ≤ b) && decide (b < 2147483648))) = false := by simpa using h
    exact ⟨(0, 0, 120), is, there, fun W => two_none op 1 a 1 b E0 E0 _ _ W h (good_int a) (good_int b), hr, Or.inl ⟨by decide, by decide⟩⟩
end Go.Proofs.Ytkkgocbecnefnaa.ConstsPure20
