/- The document's operation of two constants tells what the table of consts.Two tells: no Go in sight. -/
import Derived.Test.YtjimcgmefpienaaConstsTwo
import Derived.Test.YtjimcgmefpienaaGood12
import Derived.Test.YtjimcgmefpienaaRef12c
namespace Go.Proofs.Ytjimcgmefpienaa.TwoPure
open Go.RowKit Go.Maps Go.Proofs.Ytjimcgmefpienaa.Tab Go.Proofs.Ytjimcgmefpienaa.Plain Go.Proofs.Ytjimcgmefpienaa.Small Go.Proofs.Ytjimcgmefpienaa.Clo Go.Proofs.Ytjimcgmefpienaa.Fill Go.Proofs.Ytjimcgmefpienaa.Rels Go.Proofs.Ytjimcgmefpienaa.Two Go.Proofs.Ytjimcgmefpienaa.Good12 Go.Proofs.Ytjimcgmefpienaa.PConstsCalls Go.Proofs.Ytjimcgmefpienaa.Pure12 Go.Proofs.YtjimcgmefpienaaW.PrintWords Go.Proofs.YtjimcgmefpienaaW.PrintLast Go.Proofs.YtjimcgmefpienaaW.PrintMore
set_option linter.unusedVariables false
set_option linter.unusedSimpArgs false

/-- A number and a form, in the document's shape. -/
abbrev R4 (r : Int × Int × Int) : Option (Int × Int × ByteArray × Int) := some (r.1, r.2.1, (⟨#[]⟩ : ByteArray), r.2.2)
theorem truth_eq (b : Bool) : spinetref12_truth.f b = R4 (2, tr b, 0) := by cases b <;> rfl
theorem integer_k (k : Nat) (n : Int) (hk : 39 ≤ k) : spinetref12_integer.f k n = R4 (fitsR n) := by
  unfold spinetref12_integer.f fitsR
  rw [fits_k n k hk]
  by_cases h1 : -2147483648 ≤ n <;> by_cases h2 : n < 2147483648 <;> simp [h1, h2, R4]
theorem set_eq (n : Int) (h0 : 0 ≤ n) (h1 : n < 4294967296) : spinetref12_set.f n = R4 (4, n, 0) := by unfold spinetref12_set.f; rw [w64 (by omega) (by omega)]
theorem none_eq : spinetref12_none.f = R4 (0, 0, 120) := rfl
theorem bind_R4 (r : Int × Int × Int) : ((R4 r).bind fun bt => some (bt.1, bt.2.1, bt.2.2.1, bt.2.2.2)) = R4 r := rfl
/-- Quotient and rest, as the document finds them. -/
theorem div_k (k : Nat) (a b : Int) (a0 : -2147483648 ≤ a) (a1 : a < 2147483648) (b0 : 0 < b) (b1 : b < 2147483648) :
    ∃ N Z OK, spinetref03_Do.f (k + 1) 11 false (a % 4294967296) (b % 4294967296) 0 false false false false = some (a / b % 4294967296, a % b % 4294967296, N, Z, false, false, OK) := by
  have q0 : -2147483648 ≤ a / b := by rw [Int.le_ediv_iff_mul_le (by omega)]; omega
  have q1 : a / b < 2147483648 := by rw [Int.ediv_lt_iff_lt_mul (by omega)]; omega
  have hm := Int.emod_add_mul_ediv a b
  have m0 := Int.emod_nonneg a (show b ≠ 0 by omega)
  have m1 := Int.emod_lt_of_pos a b0
  have e1 : wrap32 (a % 4294967296) = a := by unfold wrap32; omega
  have e2 : wrap32 (b % 4294967296) = b := by unfold wrap32; omega
  have e3 : wrap64 (a - wrap64 (a / b * b)) = a % b := by
    rw [show a / b * b = b * (a / b) from Int.mul_comm _ _, w64 (n := b * (a / b)) (by omega) (by omega), w64 (by omega) (by omega)]; omega
  have e : spinetref03_Do.f (k + 1) 11 false (a % 4294967296) (b % 4294967296) 0 false false false false = spinetref03_Do.j0 (k + 1) 11 false (a % 4294967296) (b % 4294967296) 0 false false false false false := by simp [spinetref03_Do.f]
  rw [e]
  simp only [spinetref03_Do.j0]
  rw [signed_of _ (by omega) (by omega), signed_of _ (by omega) (by omega), e1, e2]
  simp only [Option.bind_some, Int.reduceEq, Bool.false_eq_true, reduceIte, gt_iff_lt, b0]
  rw [rfloor_of a b b0 (by omega) (by omega) (by omega)]
  simp only [Option.bind_some]
  rw [word_of _ (by omega) (by omega), e3, word_of (a % b) (by omega) (by omega)]
  exact ⟨_, _, _, rfl⟩
theorem ints_quot (k : Nat) (q : Bool) (op : ByteArray) (hq : op.toList = if q then [68, 73, 86] else [77, 79, 68]) (a b : Int) (a0 : -2147483648 ≤ a) (a1 : a < 2147483648) (b0 : -2147483648 ≤ b) (b1 : b < 2147483648) (hk : 39 ≤ k) :
    spinetref12_ints.f (k + 2) op a b = R4 (divR q a b) := by
  have e : spinetref12_ints.f (k + 2) op a b = spinetref12_ints.j0 (k + 2) op a b true := by
    unfold spinetref12_ints.f
    cases q
    · have hq : op.toList = [77, 79, 68] := hq
      rw [hq]; simp
    · have hq : op.toList = [68, 73, 86] := hq
      rw [hq]; simp
  rw [e]
  simp only [spinetref12_ints.j0, if_true]
  unfold divR
  by_cases hb : b ≤ 0
  · rw [if_pos hb, if_pos hb]
  · rw [if_neg hb, if_neg hb]
    obtain ⟨N, Z, OK, hd⟩ := div_k k a b a0 a1 (by omega) b1
    have q0 : -2147483648 ≤ a / b := by rw [Int.le_ediv_iff_mul_le (by omega)]; omega
    have q1 : a / b < 2147483648 := by rw [Int.ediv_lt_iff_lt_mul (by omega)]; omega
    have m0 := Int.emod_nonneg a (show b ≠ 0 by omega)
    have m1 := Int.emod_lt_of_pos a (show 0 < b by omega)
    have e1 : wrap32 (a / b % 4294967296) = a / b := by unfold wrap32; omega
    have e2 : wrap32 (a % b % 4294967296) = a % b := by unfold wrap32; omega
    rw [word_of a (by omega) (by omega), word_of b (by omega) (by omega)]
    simp only [Option.bind_some]
    rw [hd]
    simp only [Option.bind_some]
    rw [signed_of (a / b % 4294967296) (by omega) (by omega), signed_of (a % b % 4294967296) (by omega) (by omega), e1, e2]
    simp only [Option.bind_some]
    rw [integer_k _ _ (by omega), integer_k _ _ (by omega), bind_R4, bind_R4]
    cases q
    · have hq : op.toList = [77, 79, 68] := hq
      rw [hq, if_neg (by decide)]
      unfold fitsR
      rw [if_pos (by omega)]; rfl
    · have hq : op.toList = [68, 73, 86] := hq
      rw [hq, if_pos rfl]
      unfold fitsR
      rw [if_pos (by omega)]; rfl
/-- The order of two constants of one form, as the document and as the program find it. -/
def dif (f n m : Int) (t u : ByteArray) : Int := if f = 6 then Lib.compareBytes t.data.toList u.data.toList else wrap64 (n - m)
theorem cmp_of : ∀ x y : List UInt8, Lib.compareBytes x y = if Op.bytesLess x y = true then -1 else if (x == y) = true then 0 else 1
  | [], [] => by simp [Lib.compareBytes, Op.bytesLess]
  | [], b :: y => by simp [Lib.compareBytes, Op.bytesLess]
  | a :: x, [] => by simp [Lib.compareBytes, Op.bytesLess]
  | a :: x, b :: y => by
    have ih := cmp_of x y
    unfold Lib.compareBytes Op.bytesLess
    by_cases h1 : a < b
    · simp [h1]
    · by_cases h2 : b < a
      · have hne : a ≠ b := fun e => by subst e; exact absurd h2 (UInt8.lt_irrefl _)
        simp [h1, h2, hne]
      · have he : a = b := UInt8.le_antisymm (UInt8.not_lt.1 h2) (UInt8.not_lt.1 h1)
        subst he
        simp only [h1, if_false, ih]
        simp
theorem order_of (t u : ByteArray) : spinetref12_order.f t u = some (Lib.compareBytes t.data.toList u.data.toList) := by
  unfold spinetref12_order.f
  rw [Lib.toList_data, Lib.toList_data, cmp_of]
  by_cases h1 : Op.bytesLess t.data.toList u.data.toList = true
  · rw [if_pos h1, if_pos h1]
  · rw [if_neg h1, if_neg h1]
    have d1 : Op.bytesLess t.data.toList u.data.toList = false := by simpa using h1
    by_cases h2 : (t.data.toList == u.data.toList) = true
    · have e := eq_of_beq h2
      rw [if_pos h2, ← e, less_self]; rfl
    · have d2 : (t.data.toList == u.data.toList) = false := by simpa using h2
      rw [if_neg h2, if_pos (less_total _ _ d1 d2)]
theorem bound_of {f n : Int} {t : ByteArray} (F : Facts f n t) : -4294967296 ≤ n ∧ n ≤ 4294967296 := by
  have h1 := F.form
  have h2 := F.int
  have h3 := F.bool
  have h4 := F.char
  have h5 := F.set
  have h6 := F.zero
  have cs : f = 1 ∨ f = 2 ∨ f = 3 ∨ f = 4 ∨ (f = 5 ∨ f = 6) := by omega
  rcases cs with h | h | h | h | h
  · have := h2 h; omega
  · have := h3 h; omega
  · have := h4 h; omega
  · have := h5 h; omega
  · have := h6 h; omega
theorem ord (k : Nat) (op : ByteArray) (f n m : Int) (t u : ByteArray) (F : Facts f n t) (G : Facts f m u) :
    ∃ o : Int, spinetref12_Two.j3 (k + 1) op false f n t f m u = spinetref12_Two.j5 k op o f n t f m u ∧ (o < 0 ↔ dif f n m t u < 0) ∧ (o = 0 ↔ dif f n m t u = 0) := by
  simp only [spinetref12_Two.j3, Bool.false_eq_true, if_false, if_true]
  rw [order_of]
  simp only [Option.bind_some]
  have b1 := bound_of F
  have b2 := bound_of G
  unfold dif
  by_cases h6 : f = 6
  · have e1 := F.zero (Or.inr h6)
    have e2 := G.zero (Or.inr h6)
    rw [if_pos h6, e1, e2, if_pos rfl]
    exact ⟨_, rfl, Iff.rfl, Iff.rfl⟩
  · rw [if_neg h6, F.text h6, G.text h6, w64 (by omega) (by omega)]
    by_cases e : n = m
    · rw [if_pos e]
      exact ⟨_, rfl, by rw [show Lib.compareBytes E0.data.toList E0.data.toList = 0 by decide]; omega, by rw [show Lib.compareBytes E0.data.toList E0.data.toList = 0 by decide]; omega⟩
    · rw [if_neg e]
      by_cases l : n < m
      · rw [if_pos l]; exact ⟨_, rfl, by omega, by omega⟩
      · rw [if_neg l]; exact ⟨_, rfl, by omega, by omega⟩

theorem tt_1_add : total 1 1 [43] = some (58, some 59) := by decide +kernel
theorem tt_1_sub : total 1 1 [45] = some (58, some 60) := by decide +kernel
theorem tt_1_mul : total 1 1 [42] = some (58, some 61) := by decide +kernel
theorem tt_1_quo : total 1 1 [47] = none := by decide +kernel
theorem tt_1_DIV : total 1 1 [68, 73, 86] = some (58, some 62) := by decide +kernel
theorem tt_1_MOD : total 1 1 [77, 79, 68] = some (58, some 64) := by decide +kernel
theorem tt_1_IN : total 1 1 [73, 78] = none := by decide +kernel
theorem tt_1_and : total 1 1 [38] = none := by decide +kernel
theorem tt_1_OR : total 1 1 [79, 82] = none := by decide +kernel
theorem tt_1_eq : total 1 1 [61] = some (78, some 72) := by decide +kernel
theorem tt_1_ne : total 1 1 [35] = some (78, some 73) := by decide +kernel
theorem tt_1_lt : total 1 1 [60] = some (78, some 74) := by decide +kernel
theorem tt_1_le : total 1 1 [60, 61] = some (78, some 75) := by decide +kernel
theorem tt_1_gt : total 1 1 [62] = some (78, some 76) := by decide +kernel
theorem tt_1_ge : total 1 1 [62, 61] = some (78, some 77) := by decide +kernel
theorem tt_2_add : total 2 2 [43] = none := by decide +kernel
theorem tt_2_sub : total 2 2 [45] = none := by decide +kernel
theorem tt_2_mul : total 2 2 [42] = none := by decide +kernel
theorem tt_2_quo : total 2 2 [47] = none := by decide +kernel
theorem tt_2_DIV : total 2 2 [68, 73, 86] = none := by decide +kernel
theorem tt_2_MOD : total 2 2 [77, 79, 68] = none := by decide +kernel
theorem tt_2_IN : total 2 2 [73, 78] = none := by decide +kernel
theorem tt_2_and : total 2 2 [38] = some (31, some 29) := by decide +kernel
theorem tt_2_OR : total 2 2 [79, 82] = some (31, some 30) := by decide +kernel
theorem tt_2_eq : total 2 2 [61] = some (78, some 72) := by decide +kernel
theorem tt_2_ne : total 2 2 [35] = some (78, some 73) := by decide +kernel
theorem tt_2_lt : total 2 2 [60] = none := by decide +kernel
theorem tt_2_le : total 2 2 [60, 61] = none := by decide +kernel
theorem tt_2_gt : total 2 2 [62] = none := by decide +kernel
theorem tt_2_ge : total 2 2 [62, 61] = none := by decide +kernel
theorem tt_3_add : total 3 3 [43] = none := by decide +kernel
theorem tt_3_sub : total 3 3 [45] = none := by decide +kernel
theorem tt_3_mul : total 3 3 [42] = none := by decide +kernel
theorem tt_3_quo : total 3 3 [47] = none := by decide +kernel
theorem tt_3_DIV : total 3 3 [68, 73, 86] = none := by decide +kernel
theorem tt_3_MOD : total 3 3 [77, 79, 68] = none := by decide +kernel
theorem tt_3_IN : total 3 3 [73, 78] = none := by decide +kernel
theorem tt_3_and : total 3 3 [38] = none := by decide +kernel
theorem tt_3_OR : total 3 3 [79, 82] = none := by decide +kernel
theorem tt_3_eq : total 3 3 [61] = some (78, some 72) := by decide +kernel
theorem tt_3_ne : total 3 3 [35] = some (78, some 73) := by decide +kernel
theorem tt_3_lt : total 3 3 [60] = some (78, some 74) := by decide +kernel
theorem tt_3_le : total 3 3 [60, 61] = some (78, some 75) := by decide +kernel
theorem tt_3_gt : total 3 3 [62] = some (78, some 76) := by decide +kernel
theorem tt_3_ge : total 3 3 [62, 61] = some (78, some 77) := by decide +kernel
theorem tt_4_add : total 4 4 [43] = some (66, some 67) := by decide +kernel
theorem tt_4_sub : total 4 4 [45] = some (66, some 68) := by decide +kernel
theorem tt_4_mul : total 4 4 [42] = some (66, some 69) := by decide +kernel
theorem tt_4_quo : total 4 4 [47] = some (66, some 70) := by decide +kernel
theorem tt_4_DIV : total 4 4 [68, 73, 86] = none := by decide +kernel
theorem tt_4_MOD : total 4 4 [77, 79, 68] = none := by decide +kernel
theorem tt_4_IN : total 4 4 [73, 78] = none := by decide +kernel
theorem tt_4_and : total 4 4 [38] = none := by decide +kernel
theorem tt_4_OR : total 4 4 [79, 82] = none := by decide +kernel
theorem tt_4_eq : total 4 4 [61] = some (78, some 72) := by decide +kernel
theorem tt_4_ne : total 4 4 [35] = some (78, some 73) := by decide +kernel
theorem tt_4_lt : total 4 4 [60] = none := by decide +kernel
theorem tt_4_le : total 4 4 [60, 61] = none := by decide +kernel
theorem tt_4_gt : total 4 4 [62] = none := by decide +kernel
theorem tt_4_ge : total 4 4 [62, 61] = none := by decide +kernel
theorem tt_5_add : total 5 5 [43] = none := by decide +kernel
theorem tt_5_sub : total 5 5 [45] = none := by decide +kernel
theorem tt_5_mul : total 5 5 [42] = none := by decide +kernel
theorem tt_5_quo : total 5 5 [47] = none := by decide +kernel
theorem tt_5_DIV : total 5 5 [68, 73, 86] = none := by decide +kernel
theorem tt_5_MOD : total 5 5 [77, 79, 68] = none := by decide +kernel
theorem tt_5_IN : total 5 5 [73, 78] = none := by decide +kernel
theorem tt_5_and : total 5 5 [38] = none := by decide +kernel
theorem tt_5_OR : total 5 5 [79, 82] = none := by decide +kernel
theorem tt_5_eq : total 5 5 [61] = some (78, some 72) := by decide +kernel
theorem tt_5_ne : total 5 5 [35] = some (78, some 73) := by decide +kernel
theorem tt_5_lt : total 5 5 [60] = none := by decide +kernel
theorem tt_5_le : total 5 5 [60, 61] = none := by decide +kernel
theorem tt_5_gt : total 5 5 [62] = none := by decide +kernel
theorem tt_5_ge : total 5 5 [62, 61] = none := by decide +kernel
theorem tt_6_add : total 6 6 [43] = none := by decide +kernel
theorem tt_6_sub : total 6 6 [45] = none := by decide +kernel
theorem tt_6_mul : total 6 6 [42] = none := by decide +kernel
theorem tt_6_quo : total 6 6 [47] = none := by decide +kernel
theorem tt_6_DIV : total 6 6 [68, 73, 86] = none := by decide +kernel
theorem tt_6_MOD : total 6 6 [77, 79, 68] = none := by decide +kernel
theorem tt_6_IN : total 6 6 [73, 78] = none := by decide +kernel
theorem tt_6_and : total 6 6 [38] = none := by decide +kernel
theorem tt_6_OR : total 6 6 [79, 82] = none := by decide +kernel
theorem tt_6_eq : total 6 6 [61] = some (78, some 72) := by decide +kernel
theorem tt_6_ne : total 6 6 [35] = some (78, some 73) := by decide +kernel
theorem tt_6_lt : total 6 6 [60] = some (78, some 74) := by decide +kernel
theorem tt_6_le : total 6 6 [60, 61] = some (78, some 75) := by decide +kernel
theorem tt_6_gt : total 6 6 [62] = some (78, some 76) := by decide +kernel
theorem tt_6_ge : total 6 6 [62, 61] = some (78, some 77) := by decide +kernel
/-- None of the signs. -/
def Other (l : List UInt8) : Prop := l ≠ [43] ∧ l ≠ [45] ∧ l ≠ [42] ∧ l ≠ [47] ∧ l ≠ [68, 73, 86] ∧ l ≠ [77, 79, 68] ∧ l ≠ [73, 78] ∧ l ≠ [38] ∧ l ≠ [79, 82] ∧ l ≠ [61] ∧ l ≠ [35] ∧ l ≠ [60] ∧ l ≠ [60, 61] ∧ l ≠ [62] ∧ l ≠ [62, 61]
theorem total_other (a b : Int) (l : List UInt8) (h : Other l) : total a b l = none := by
  obtain ⟨hadd, hsub, hmul, hquo, hDIV, hMOD, hIN, hand, hOR, heq, hne, hlt, hle, hgt, hge⟩ := h
  have hb : booF l = none := by unfold booF; rw [if_neg (by simpa using hOR), if_neg (by simpa using hand)]
  have hr : relF l = none := by
    unfold relF
    rw [if_neg (by simpa using hge), if_neg (by simpa using hgt), if_neg (by simpa using hle), if_neg (by simpa using hlt), if_neg (by simpa using hne), if_neg (by simpa using heq)]
  unfold total booSt
  rw [hb, if_neg (by simp)]
  unfold relSt
  rw [hr, if_neg (by simp)]
  unfold st2 st1 upd
  simp only [show (ByteArray.mk #[43]).data.toList = [43] from rfl, show (ByteArray.mk #[45]).data.toList = [45] from rfl, show (ByteArray.mk #[42]).data.toList = [42] from rfl, show (ByteArray.mk #[47]).data.toList = [47] from rfl, show (ByteArray.mk #[68, 73, 86]).data.toList = [68, 73, 86] from rfl, show (ByteArray.mk #[77, 79, 68]).data.toList = [77, 79, 68] from rfl, show (ByteArray.mk #[73, 78]).data.toList = [73, 78] from rfl, hadd, hsub, hmul, hquo, hDIV, hMOD, hIN, and_false, if_false]
theorem total_ne (a b : Int) (l : List UInt8) (h : a ≠ b) (hin : ¬ (a = 1 ∧ b = 4 ∧ l = [73, 78])) : total a b l = none := by
  unfold total booSt
  rw [if_neg (by rintro ⟨h1, h2, _⟩; exact h (h1.trans h2.symm))]
  unfold relSt
  rw [if_neg (by rintro ⟨h1, _⟩; exact h h1)]
  unfold st2 st1 upd
  have hin' : ¬ (a = 1 ∧ b = 4 ∧ l = (ByteArray.mk #[73, 78]).data.toList) := hin
  have e1 : ∀ X : List UInt8, ¬ (a = 1 ∧ b = 1 ∧ l = X) := fun X hx => h (hx.1.trans hx.2.1.symm)
  have e4 : ∀ X : List UInt8, ¬ (a = 4 ∧ b = 4 ∧ l = X) := fun X hx => h (hx.1.trans hx.2.1.symm)
  simp only [e1, e4, hin', if_false]
section
variable (k : Nat) (op : ByteArray) (o n m : Int) (t u : ByteArray)
theorem c_1_add (hl : op.toList = [43]) (F : Facts 1 n t) (G : Facts 1 m u) (h1 : o < 0 ↔ dif 1 n m t u < 0) (h2 : o = 0 ↔ dif 1 n m t u = 0) :
    spinetref12_Two.j5 (k + 50) op o 1 n t 1 m u = R4 (entR (total 1 1 op.toList) 1 n t m u) := by
  rw [hl, tt_1_add]
  simp [spinetref12_Two.j5, spinetref12_Two.j6, spinetref12_Relate.f, hl, spinetref12_ints.f, integer_k _ _ (show 39 ≤ k + 48 by omega), entR, R4]
theorem c_1_sub (hl : op.toList = [45]) (F : Facts 1 n t) (G : Facts 1 m u) (h1 : o < 0 ↔ dif 1 n m t u < 0) (h2 : o = 0 ↔ dif 1 n m t u = 0) :
    spinetref12_Two.j5 (k + 50) op o 1 n t 1 m u = R4 (entR (total 1 1 op.toList) 1 n t m u) := by
  rw [hl, tt_1_sub]
  simp [spinetref12_Two.j5, spinetref12_Two.j6, spinetref12_Relate.f, hl, spinetref12_ints.f, integer_k _ _ (show 39 ≤ k + 48 by omega), entR, R4]
theorem c_1_mul (hl : op.toList = [42]) (F : Facts 1 n t) (G : Facts 1 m u) (h1 : o < 0 ↔ dif 1 n m t u < 0) (h2 : o = 0 ↔ dif 1 n m t u = 0) :
    spinetref12_Two.j5 (k + 50) op o 1 n t 1 m u = R4 (entR (total 1 1 op.toList) 1 n t m u) := by
  rw [hl, tt_1_mul]
  simp [spinetref12_Two.j5, spinetref12_Two.j6, spinetref12_Relate.f, hl, spinetref12_ints.f, integer_k _ _ (show 39 ≤ k + 48 by omega), entR, R4]
theorem c_1_quo (hl : op.toList = [47]) (F : Facts 1 n t) (G : Facts 1 m u) (h1 : o < 0 ↔ dif 1 n m t u < 0) (h2 : o = 0 ↔ dif 1 n m t u = 0) :
    spinetref12_Two.j5 (k + 50) op o 1 n t 1 m u = R4 (entR (total 1 1 op.toList) 1 n t m u) := by
  rw [hl, tt_1_quo]
  simp [spinetref12_Two.j5, spinetref12_Two.j6, spinetref12_Relate.f, hl, spinetref12_ints.f, spinetref12_ints.j0, spinetref12_SetOp.f, none_eq, entR, R4]
theorem c_1_DIV (hl : op.toList = [68, 73, 86]) (F : Facts 1 n t) (G : Facts 1 m u) (h1 : o < 0 ↔ dif 1 n m t u < 0) (h2 : o = 0 ↔ dif 1 n m t u = 0) :
    spinetref12_Two.j5 (k + 50) op o 1 n t 1 m u = R4 (entR (total 1 1 op.toList) 1 n t m u) := by
  rw [hl, tt_1_DIV]
  have hi := ints_quot (k + 46) true op hl n m (F.int rfl).1 (F.int rfl).2 (G.int rfl).1 (G.int rfl).2 (by omega)
  simp [spinetref12_Two.j5, spinetref12_Two.j6, spinetref12_Relate.f, hl, hi, entR, R4]
theorem c_1_MOD (hl : op.toList = [77, 79, 68]) (F : Facts 1 n t) (G : Facts 1 m u) (h1 : o < 0 ↔ dif 1 n m t u < 0) (h2 : o = 0 ↔ dif 1 n m t u = 0) :
    spinetref12_Two.j5 (k + 50) op o 1 n t 1 m u = R4 (entR (total 1 1 op.toList) 1 n t m u) := by
  rw [hl, tt_1_MOD]
  have hi := ints_quot (k + 46) false op hl n m (F.int rfl).1 (F.int rfl).2 (G.int rfl).1 (G.int rfl).2 (by omega)
  simp [spinetref12_Two.j5, spinetref12_Two.j6, spinetref12_Relate.f, hl, hi, entR, R4]
theorem c_1_IN (hl : op.toList = [73, 78]) (F : Facts 1 n t) (G : Facts 1 m u) (h1 : o < 0 ↔ dif 1 n m t u < 0) (h2 : o = 0 ↔ dif 1 n m t u = 0) :
    spinetref12_Two.j5 (k + 50) op o 1 n t 1 m u = R4 (entR (total 1 1 op.toList) 1 n t m u) := by
  rw [hl, tt_1_IN]
  simp [spinetref12_Two.j5, spinetref12_Two.j6, spinetref12_Relate.f, hl, spinetref12_ints.f, spinetref12_ints.j0, spinetref12_SetOp.f, none_eq, entR, R4]
theorem c_1_and (hl : op.toList = [38]) (F : Facts 1 n t) (G : Facts 1 m u) (h1 : o < 0 ↔ dif 1 n m t u < 0) (h2 : o = 0 ↔ dif 1 n m t u = 0) :
    spinetref12_Two.j5 (k + 50) op o 1 n t 1 m u = R4 (entR (total 1 1 op.toList) 1 n t m u) := by
  rw [hl, tt_1_and]
  simp [spinetref12_Two.j5, spinetref12_Two.j6, spinetref12_Relate.f, hl, spinetref12_ints.f, spinetref12_ints.j0, spinetref12_SetOp.f, none_eq, entR, R4]
theorem c_1_OR (hl : op.toList = [79, 82]) (F : Facts 1 n t) (G : Facts 1 m u) (h1 : o < 0 ↔ dif 1 n m t u < 0) (h2 : o = 0 ↔ dif 1 n m t u = 0) :
    spinetref12_Two.j5 (k + 50) op o 1 n t 1 m u = R4 (entR (total 1 1 op.toList) 1 n t m u) := by
  rw [hl, tt_1_OR]
  simp [spinetref12_Two.j5, spinetref12_Two.j6, spinetref12_Relate.f, hl, spinetref12_ints.f, spinetref12_ints.j0, spinetref12_SetOp.f, none_eq, entR, R4]
theorem c_1_eq (hl : op.toList = [61]) (F : Facts 1 n t) (G : Facts 1 m u) (h1 : o < 0 ↔ dif 1 n m t u < 0) (h2 : o = 0 ↔ dif 1 n m t u = 0) :
    spinetref12_Two.j5 (k + 50) op o 1 n t 1 m u = R4 (entR (total 1 1 op.toList) 1 n t m u) := by
  rw [hl, tt_1_eq]
  have hE : entR (some (78, some 72)) 1 n t m u = (2, tr ((fun q : Int => q == 0) (dif 1 n m t u)), 0) := by simp [entR, dif]
  rw [hE]
  clear hE
  generalize dif 1 n m t u = q at *
  have he : (fun q : Int => q == 0) o = (fun q : Int => q == 0) q := by rw [Bool.eq_iff_iff]; simp; omega
  rw [← he]
  simp [spinetref12_Two.j5, spinetref12_Two.j6, spinetref12_Relate.f, hl, truth_eq, R4]
theorem c_1_ne (hl : op.toList = [35]) (F : Facts 1 n t) (G : Facts 1 m u) (h1 : o < 0 ↔ dif 1 n m t u < 0) (h2 : o = 0 ↔ dif 1 n m t u = 0) :
    spinetref12_Two.j5 (k + 50) op o 1 n t 1 m u = R4 (entR (total 1 1 op.toList) 1 n t m u) := by
  rw [hl, tt_1_ne]
  have hE : entR (some (78, some 73)) 1 n t m u = (2, tr ((fun q : Int => q != 0) (dif 1 n m t u)), 0) := by simp [entR, dif]
  rw [hE]
  clear hE
  generalize dif 1 n m t u = q at *
  have he : (fun q : Int => q != 0) o = (fun q : Int => q != 0) q := by rw [Bool.eq_iff_iff]; simp; omega
  rw [← he]
  simp [spinetref12_Two.j5, spinetref12_Two.j6, spinetref12_Relate.f, hl, truth_eq, R4]
theorem c_1_lt (hl : op.toList = [60]) (F : Facts 1 n t) (G : Facts 1 m u) (h1 : o < 0 ↔ dif 1 n m t u < 0) (h2 : o = 0 ↔ dif 1 n m t u = 0) :
    spinetref12_Two.j5 (k + 50) op o 1 n t 1 m u = R4 (entR (total 1 1 op.toList) 1 n t m u) := by
  rw [hl, tt_1_lt]
  have hE : entR (some (78, some 74)) 1 n t m u = (2, tr ((fun q : Int => decide (q < 0)) (dif 1 n m t u)), 0) := by simp [entR, dif]
  rw [hE]
  clear hE
  generalize dif 1 n m t u = q at *
  have he : (fun q : Int => decide (q < 0)) o = (fun q : Int => decide (q < 0)) q := by rw [Bool.eq_iff_iff]; simp; omega
  rw [← he]
  simp [spinetref12_Two.j5, spinetref12_Two.j6, spinetref12_Relate.f, hl, truth_eq, R4]
theorem c_1_le (hl : op.toList = [60, 61]) (F : Facts 1 n t) (G : Facts 1 m u) (h1 : o < 0 ↔ dif 1 n m t u < 0) (h2 : o = 0 ↔ dif 1 n m t u = 0) :
    spinetref12_Two.j5 (k + 50) op o 1 n t 1 m u = R4 (entR (total 1 1 op.toList) 1 n t m u) := by
  rw [hl, tt_1_le]
  have hE : entR (some (78, some 75)) 1 n t m u = (2, tr ((fun q : Int => decide (q ≤ 0)) (dif 1 n m t u)), 0) := by simp [entR, dif]
  rw [hE]
  clear hE
  generalize dif 1 n m t u = q at *
  have he : (fun q : Int => decide (q ≤ 0)) o = (fun q : Int => decide (q ≤ 0)) q := by rw [Bool.eq_iff_iff]; simp; omega
  rw [← he]
  simp [spinetref12_Two.j5, spinetref12_Two.j6, spinetref12_Relate.f, hl, truth_eq, R4]
theorem c_1_gt (hl : op.toList = [62]) (F : Facts 1 n t) (G : Facts 1 m u) (h1 : o < 0 ↔ dif 1 n m t u < 0) (h2 : o = 0 ↔ dif 1 n m t u = 0) :
    spinetref12_Two.j5 (k + 50) op o 1 n t 1 m u = R4 (entR (total 1 1 op.toList) 1 n t m u) := by
  rw [hl, tt_1_gt]
  have hE : entR (some (78, some 76)) 1 n t m u = (2, tr ((fun q : Int => decide (0 < q)) (dif 1 n m t u)), 0) := by simp [entR, dif]
  rw [hE]
  clear hE
  generalize dif 1 n m t u = q at *
  have he : (fun q : Int => decide (0 < q)) o = (fun q : Int => decide (0 < q)) q := by rw [Bool.eq_iff_iff]; simp; omega
  rw [← he]
  simp [spinetref12_Two.j5, spinetref12_Two.j6, spinetref12_Relate.f, hl, truth_eq, R4]
theorem c_1_ge (hl : op.toList = [62, 61]) (F : Facts 1 n t) (G : Facts 1 m u) (h1 : o < 0 ↔ dif 1 n m t u < 0) (h2 : o = 0 ↔ dif 1 n m t u = 0) :
    spinetref12_Two.j5 (k + 50) op o 1 n t 1 m u = R4 (entR (total 1 1 op.toList) 1 n t m u) := by
  rw [hl, tt_1_ge]
  have hE : entR (some (78, some 77)) 1 n t m u = (2, tr ((fun q : Int => decide (0 ≤ q)) (dif 1 n m t u)), 0) := by simp [entR, dif]
  rw [hE]
  clear hE
  generalize dif 1 n m t u = q at *
  have he : (fun q : Int => decide (0 ≤ q)) o = (fun q : Int => decide (0 ≤ q)) q := by rw [Bool.eq_iff_iff]; simp; omega
  rw [← he]
  simp [spinetref12_Two.j5, spinetref12_Two.j6, spinetref12_Relate.f, hl, truth_eq, R4]
theorem c_1_other (hl : Other op.toList) (F : Facts 1 n t) (G : Facts 1 m u) (h1 : o < 0 ↔ dif 1 n m t u < 0) (h2 : o = 0 ↔ dif 1 n m t u = 0) :
    spinetref12_Two.j5 (k + 50) op o 1 n t 1 m u = R4 (entR (total 1 1 op.toList) 1 n t m u) := by
  have ht := total_other 1 1 _ hl
  obtain ⟨kadd, ksub, kmul, kquo, kDIV, kMOD, kIN, kand, kOR, keq, kne, klt, kle, kgt, kge⟩ := hl
  rw [ht]
  simp [spinetref12_Two.j5, spinetref12_Two.j6, spinetref12_Relate.f, kadd, ksub, kmul, kquo, kDIV, kMOD, kIN, kand, kOR, keq, kne, klt, kle, kgt, kge, spinetref12_ints.f, spinetref12_ints.j0, spinetref12_SetOp.f, none_eq, entR, R4]
theorem c_2_add (hl : op.toList = [43]) (F : Facts 2 n t) (G : Facts 2 m u) (h1 : o < 0 ↔ dif 2 n m t u < 0) (h2 : o = 0 ↔ dif 2 n m t u = 0) :
    spinetref12_Two.j5 (k + 50) op o 2 n t 2 m u = R4 (entR (total 2 2 op.toList) 2 n t m u) := by
  rw [hl, tt_2_add]
  simp [spinetref12_Two.j5, spinetref12_Two.j6, spinetref12_Relate.f, hl, spinetref12_ints.f, spinetref12_ints.j0, spinetref12_SetOp.f, none_eq, entR, R4]
theorem c_2_sub (hl : op.toList = [45]) (F : Facts 2 n t) (G : Facts 2 m u) (h1 : o < 0 ↔ dif 2 n m t u < 0) (h2 : o = 0 ↔ dif 2 n m t u = 0) :
    spinetref12_Two.j5 (k + 50) op o 2 n t 2 m u = R4 (entR (total 2 2 op.toList) 2 n t m u) := by
  rw [hl, tt_2_sub]
  simp [spinetref12_Two.j5, spinetref12_Two.j6, spinetref12_Relate.f, hl, spinetref12_ints.f, spinetref12_ints.j0, spinetref12_SetOp.f, none_eq, entR, R4]
theorem c_2_mul (hl : op.toList = [42]) (F : Facts 2 n t) (G : Facts 2 m u) (h1 : o < 0 ↔ dif 2 n m t u < 0) (h2 : o = 0 ↔ dif 2 n m t u = 0) :
    spinetref12_Two.j5 (k + 50) op o 2 n t 2 m u = R4 (entR (total 2 2 op.toList) 2 n t m u) := by
  rw [hl, tt_2_mul]
  simp [spinetref12_Two.j5, spinetref12_Two.j6, spinetref12_Relate.f, hl, spinetref12_ints.f, spinetref12_ints.j0, spinetref12_SetOp.f, none_eq, entR, R4]
theorem c_2_quo (hl : op.toList = [47]) (F : Facts 2 n t) (G : Facts 2 m u) (h1 : o < 0 ↔ dif 2 n m t u < 0) (h2 : o = 0 ↔ dif 2 n m t u = 0) :
    spinetref12_Two.j5 (k + 50) op o 2 n t 2 m u = R4 (entR (total 2 2 op.toList) 2 n t m u) := by
  rw [hl, tt_2_quo]
  simp [spinetref12_Two.j5, spinetref12_Two.j6, spinetref12_Relate.f, hl, spinetref12_ints.f, spinetref12_ints.j0, spinetref12_SetOp.f, none_eq, entR, R4]
theorem c_2_DIV (hl : op.toList = [68, 73, 86]) (F : Facts 2 n t) (G : Facts 2 m u) (h1 : o < 0 ↔ dif 2 n m t u < 0) (h2 : o = 0 ↔ dif 2 n m t u = 0) :
    spinetref12_Two.j5 (k + 50) op o 2 n t 2 m u = R4 (entR (total 2 2 op.toList) 2 n t m u) := by
  rw [hl, tt_2_DIV]
  simp [spinetref12_Two.j5, spinetref12_Two.j6, spinetref12_Relate.f, hl, spinetref12_ints.f, spinetref12_ints.j0, spinetref12_SetOp.f, none_eq, entR, R4]
theorem c_2_MOD (hl : op.toList = [77, 79, 68]) (F : Facts 2 n t) (G : Facts 2 m u) (h1 : o < 0 ↔ dif 2 n m t u < 0) (h2 : o = 0 ↔ dif 2 n m t u = 0) :
    spinetref12_Two.j5 (k + 50) op o 2 n t 2 m u = R4 (entR (total 2 2 op.toList) 2 n t m u) := by
  rw [hl, tt_2_MOD]
  simp [spinetref12_Two.j5, spinetref12_Two.j6, spinetref12_Relate.f, hl, spinetref12_ints.f, spinetref12_ints.j0, spinetref12_SetOp.f, none_eq, entR, R4]
theorem c_2_IN (hl : op.toList = [73, 78]) (F : Facts 2 n t) (G : Facts 2 m u) (h1 : o < 0 ↔ dif 2 n m t u < 0) (h2 : o = 0 ↔ dif 2 n m t u = 0) :
    spinetref12_Two.j5 (k + 50) op o 2 n t 2 m u = R4 (entR (total 2 2 op.toList) 2 n t m u) := by
  rw [hl, tt_2_IN]
  simp [spinetref12_Two.j5, spinetref12_Two.j6, spinetref12_Relate.f, hl, spinetref12_ints.f, spinetref12_ints.j0, spinetref12_SetOp.f, none_eq, entR, R4]
theorem c_2_and (hl : op.toList = [38]) (F : Facts 2 n t) (G : Facts 2 m u) (h1 : o < 0 ↔ dif 2 n m t u < 0) (h2 : o = 0 ↔ dif 2 n m t u = 0) :
    spinetref12_Two.j5 (k + 50) op o 2 n t 2 m u = R4 (entR (total 2 2 op.toList) 2 n t m u) := by
  rw [hl, tt_2_and]
  have hn := F.bool rfl
  have hm := G.bool rfl
  rcases hn with rfl | rfl <;> rcases hm with rfl | rfl <;> (simp [spinetref12_Two.j5, spinetref12_Two.j6, spinetref12_Relate.f, hl, truth_eq, entR, R4]; try decide +kernel)
theorem c_2_OR (hl : op.toList = [79, 82]) (F : Facts 2 n t) (G : Facts 2 m u) (h1 : o < 0 ↔ dif 2 n m t u < 0) (h2 : o = 0 ↔ dif 2 n m t u = 0) :
    spinetref12_Two.j5 (k + 50) op o 2 n t 2 m u = R4 (entR (total 2 2 op.toList) 2 n t m u) := by
  rw [hl, tt_2_OR]
  have hn := F.bool rfl
  have hm := G.bool rfl
  rcases hn with rfl | rfl <;> rcases hm with rfl | rfl <;> (simp [spinetref12_Two.j5, spinetref12_Two.j6, spinetref12_Relate.f, hl, truth_eq, entR, R4]; try decide +kernel)
theorem c_2_eq (hl : op.toList = [61]) (F : Facts 2 n t) (G : Facts 2 m u) (h1 : o < 0 ↔ dif 2 n m t u < 0) (h2 : o = 0 ↔ dif 2 n m t u = 0) :
    spinetref12_Two.j5 (k + 50) op o 2 n t 2 m u = R4 (entR (total 2 2 op.toList) 2 n t m u) := by
  rw [hl, tt_2_eq]
  have hE : entR (some (78, some 72)) 2 n t m u = (2, tr ((fun q : Int => q == 0) (dif 2 n m t u)), 0) := by simp [entR, dif]
  rw [hE]
  clear hE
  generalize dif 2 n m t u = q at *
  have he : (fun q : Int => q == 0) o = (fun q : Int => q == 0) q := by rw [Bool.eq_iff_iff]; simp; omega
  rw [← he]
  simp [spinetref12_Two.j5, spinetref12_Two.j6, spinetref12_Relate.f, hl, truth_eq, R4]
theorem c_2_ne (hl : op.toList = [35]) (F : Facts 2 n t) (G : Facts 2 m u) (h1 : o < 0 ↔ dif 2 n m t u < 0) (h2 : o = 0 ↔ dif 2 n m t u = 0) :
    spinetref12_Two.j5 (k + 50) op o 2 n t 2 m u = R4 (entR (total 2 2 op.toList) 2 n t m u) := by
  rw [hl, tt_2_ne]
  have hE : entR (some (78, some 73)) 2 n t m u = (2, tr ((fun q : Int => q != 0) (dif 2 n m t u)), 0) := by simp [entR, dif]
  rw [hE]
  clear hE
  generalize dif 2 n m t u = q at *
  have he : (fun q : Int => q != 0) o = (fun q : Int => q != 0) q := by rw [Bool.eq_iff_iff]; simp; omega
  rw [← he]
  simp [spinetref12_Two.j5, spinetref12_Two.j6, spinetref12_Relate.f, hl, truth_eq, R4]
theorem c_2_lt (hl : op.toList = [60]) (F : Facts 2 n t) (G : Facts 2 m u) (h1 : o < 0 ↔ dif 2 n m t u < 0) (h2 : o = 0 ↔ dif 2 n m t u = 0) :
    spinetref12_Two.j5 (k + 50) op o 2 n t 2 m u = R4 (entR (total 2 2 op.toList) 2 n t m u) := by
  rw [hl, tt_2_lt]
  simp [spinetref12_Two.j5, spinetref12_Two.j6, spinetref12_Relate.f, hl, spinetref12_ints.f, spinetref12_ints.j0, spinetref12_SetOp.f, none_eq, entR, R4]
theorem c_2_le (hl : op.toList = [60, 61]) (F : Facts 2 n t) (G : Facts 2 m u) (h1 : o < 0 ↔ dif 2 n m t u < 0) (h2 : o = 0 ↔ dif 2 n m t u = 0) :
    spinetref12_Two.j5 (k + 50) op o 2 n t 2 m u = R4 (entR (total 2 2 op.toList) 2 n t m u) := by
  rw [hl, tt_2_le]
  simp [spinetref12_Two.j5, spinetref12_Two.j6, spinetref12_Relate.f, hl, spinetref12_ints.f, spinetref12_ints.j0, spinetref12_SetOp.f, none_eq, entR, R4]
theorem c_2_gt (hl : op.toList = [62]) (F : Facts 2 n t) (G : Facts 2 m u) (h1 : o < 0 ↔ dif 2 n m t u < 0) (h2 : o = 0 ↔ dif 2 n m t u = 0) :
    spinetref12_Two.j5 (k + 50) op o 2 n t 2 m u = R4 (entR (total 2 2 op.toList) 2 n t m u) := by
  rw [hl, tt_2_gt]
  simp [spinetref12_Two.j5, spinetref12_Two.j6, spinetref12_Relate.f, hl, spinetref12_ints.f, spinetref12_ints.j0, spinetref12_SetOp.f, none_eq, entR, R4]
theorem c_2_ge (hl : op.toList = [62, 61]) (F : Facts 2 n t) (G : Facts 2 m u) (h1 : o < 0 ↔ dif 2 n m t u < 0) (h2 : o = 0 ↔ dif 2 n m t u = 0) :
    spinetref12_Two.j5 (k + 50) op o 2 n t 2 m u = R4 (entR (total 2 2 op.toList) 2 n t m u) := by
  rw [hl, tt_2_ge]
  simp [spinetref12_Two.j5, spinetref12_Two.j6, spinetref12_Relate.f, hl, spinetref12_ints.f, spinetref12_ints.j0, spinetref12_SetOp.f, none_eq, entR, R4]
theorem c_2_other (hl : Other op.toList) (F : Facts 2 n t) (G : Facts 2 m u) (h1 : o < 0 ↔ dif 2 n m t u < 0) (h2 : o = 0 ↔ dif 2 n m t u = 0) :
    spinetref12_Two.j5 (k + 50) op o 2 n t 2 m u = R4 (entR (total 2 2 op.toList) 2 n t m u) := by
  have ht := total_other 2 2 _ hl
  obtain ⟨kadd, ksub, kmul, kquo, kDIV, kMOD, kIN, kand, kOR, keq, kne, klt, kle, kgt, kge⟩ := hl
  rw [ht]
  simp [spinetref12_Two.j5, spinetref12_Two.j6, spinetref12_Relate.f, kadd, ksub, kmul, kquo, kDIV, kMOD, kIN, kand, kOR, keq, kne, klt, kle, kgt, kge, spinetref12_ints.f, spinetref12_ints.j0, spinetref12_SetOp.f, none_eq, entR, R4]
theorem c_3_add (hl : op.toList = [43]) (F : Facts 3 n t) (G : Facts 3 m u) (h1 : o < 0 ↔ dif 3 n m t u < 0) (h2 : o = 0 ↔ dif 3 n m t u = 0) :
    spinetref12_Two.j5 (k + 50) op o 3 n t 3 m u = R4 (entR (total 3 3 op.toList) 3 n t m u) := by
  rw [hl, tt_3_add]
  simp [spinetref12_Two.j5, spinetref12_Two.j6, spinetref12_Relate.f, hl, spinetref12_ints.f, spinetref12_ints.j0, spinetref12_SetOp.f, none_eq, entR, R4]
theorem c_3_sub (hl : op.toList = [45]) (F : Facts 3 n t) (G : Facts 3 m u) (h1 : o < 0 ↔ dif 3 n m t u < 0) (h2 : o = 0 ↔ dif 3 n m t u = 0) :
    spinetref12_Two.j5 (k + 50) op o 3 n t 3 m u = R4 (entR (total 3 3 op.toList) 3 n t m u) := by
  rw [hl, tt_3_sub]
  simp [spinetref12_Two.j5, spinetref12_Two.j6, spinetref12_Relate.f, hl, spinetref12_ints.f, spinetref12_ints.j0, spinetref12_SetOp.f, none_eq, entR, R4]
theorem c_3_mul (hl : op.toList = [42]) (F : Facts 3 n t) (G : Facts 3 m u) (h1 : o < 0 ↔ dif 3 n m t u < 0) (h2 : o = 0 ↔ dif 3 n m t u = 0) :
    spinetref12_Two.j5 (k + 50) op o 3 n t 3 m u = R4 (entR (total 3 3 op.toList) 3 n t m u) := by
  rw [hl, tt_3_mul]
  simp [spinetref12_Two.j5, spinetref12_Two.j6, spinetref12_Relate.f, hl, spinetref12_ints.f, spinetref12_ints.j0, spinetref12_SetOp.f, none_eq, entR, R4]
theorem c_3_quo (hl : op.toList = [47]) (F : Facts 3 n t) (G : Facts 3 m u) (h1 : o < 0 ↔ dif 3 n m t u < 0) (h2 : o = 0 ↔ dif 3 n m t u = 0) :
    spinetref12_Two.j5 (k + 50) op o 3 n t 3 m u = R4 (entR (total 3 3 op.toList) 3 n t m u) := by
  rw [hl, tt_3_quo]
  simp [spinetref12_Two.j5, spinetref12_Two.j6, spinetref12_Relate.f, hl, spinetref12_ints.f, spinetref12_ints.j0, spinetref12_SetOp.f, none_eq, entR, R4]
theorem c_3_DIV (hl : op.toList = [68, 73, 86]) (F : Facts 3 n t) (G : Facts 3 m u) (h1 : o < 0 ↔ dif 3 n m t u < 0) (h2 : o = 0 ↔ dif 3 n m t u = 0) :
    spinetref12_Two.j5 (k + 50) op o 3 n t 3 m u = R4 (entR (total 3 3 op.toList) 3 n t m u) := by
  rw [hl, tt_3_DIV]
  simp [spinetref12_Two.j5, spinetref12_Two.j6, spinetref12_Relate.f, hl, spinetref12_ints.f, spinetref12_ints.j0, spinetref12_SetOp.f, none_eq, entR, R4]
theorem c_3_MOD (hl : op.toList = [77, 79, 68]) (F : Facts 3 n t) (G : Facts 3 m u) (h1 : o < 0 ↔ dif 3 n m t u < 0) (h2 : o = 0 ↔ dif 3 n m t u = 0) :
    spinetref12_Two.j5 (k + 50) op o 3 n t 3 m u = R4 (entR (total 3 3 op.toList) 3 n t m u) := by
  rw [hl, tt_3_MOD]
  simp [spinetref12_Two.j5, spinetref12_Two.j6, spinetref12_Relate.f, hl, spinetref12_ints.f, spinetref12_ints.j0, spinetref12_SetOp.f, none_eq, entR, R4]
theorem c_3_IN (hl : op.toList = [73, 78]) (F : Facts 3 n t) (G : Facts 3 m u) (h1 : o < 0 ↔ dif 3 n m t u < 0) (h2 : o = 0 ↔ dif 3 n m t u = 0) :
    spinetref12_Two.j5 (k + 50) op o 3 n t 3 m u = R4 (entR (total 3 3 op.toList) 3 n t m u) := by
  rw [hl, tt_3_IN]
  simp [spinetref12_Two.j5, spinetref12_Two.j6, spinetref12_Relate.f, hl, spinetref12_ints.f, spinetref12_ints.j0, spinetref12_SetOp.f, none_eq, entR, R4]
theorem c_3_and (hl : op.toList = [38]) (F : Facts 3 n t) (G : Facts 3 m u) (h1 : o < 0 ↔ dif 3 n m t u < 0) (h2 : o = 0 ↔ dif 3 n m t u = 0) :
    spinetref12_Two.j5 (k + 50) op o 3 n t 3 m u = R4 (entR (total 3 3 op.toList) 3 n t m u) := by
  rw [hl, tt_3_and]
  simp [spinetref12_Two.j5, spinetref12_Two.j6, spinetref12_Relate.f, hl, spinetref12_ints.f, spinetref12_ints.j0, spinetref12_SetOp.f, none_eq, entR, R4]
theorem c_3_OR (hl : op.toList = [79, 82]) (F : Facts 3 n t) (G : Facts 3 m u) (h1 : o < 0 ↔ dif 3 n m t u < 0) (h2 : o = 0 ↔ dif 3 n m t u = 0) :
    spinetref12_Two.j5 (k + 50) op o 3 n t 3 m u = R4 (entR (total 3 3 op.toList) 3 n t m u) := by
  rw [hl, tt_3_OR]
  simp [spinetref12_Two.j5, spinetref12_Two.j6, spinetref12_Relate.f, hl, spinetref12_ints.f, spinetref12_ints.j0, spinetref12_SetOp.f, none_eq, entR, R4]
theorem c_3_eq (hl : op.toList = [61]) (F : Facts 3 n t) (G : Facts 3 m u) (h1 : o < 0 ↔ dif 3 n m t u < 0) (h2 : o = 0 ↔ dif 3 n m t u = 0) :
    spinetref12_Two.j5 (k + 50) op o 3 n t 3 m u = R4 (entR (total 3 3 op.toList) 3 n t m u) := by
  rw [hl, tt_3_eq]
  have hE : entR (some (78, some 72)) 3 n t m u = (2, tr ((fun q : Int => q == 0) (dif 3 n m t u)), 0) := by simp [entR, dif]
  rw [hE]
  clear hE
  generalize dif 3 n m t u = q at *
  have he : (fun q : Int => q == 0) o = (fun q : Int => q == 0) q := by rw [Bool.eq_iff_iff]; simp; omega
  rw [← he]
  simp [spinetref12_Two.j5, spinetref12_Two.j6, spinetref12_Relate.f, hl, truth_eq, R4]
theorem c_3_ne (hl : op.toList = [35]) (F : Facts 3 n t) (G : Facts 3 m u) (h1 : o < 0 ↔ dif 3 n m t u < 0) (h2 : o = 0 ↔ dif 3 n m t u = 0) :
    spinetref12_Two.j5 (k + 50) op o 3 n t 3 m u = R4 (entR (total 3 3 op.toList) 3 n t m u) := by
  rw [hl, tt_3_ne]
  have hE : entR (some (78, some 73)) 3 n t m u = (2, tr ((fun q : Int => q != 0) (dif 3 n m t u)), 0) := by simp [entR, dif]
  rw [hE]
  clear hE
  generalize dif 3 n m t u = q at *
  have he : (fun q : Int => q != 0) o = (fun q : Int => q != 0) q := by rw [Bool.eq_iff_iff]; simp; omega
  rw [← he]
  simp [spinetref12_Two.j5, spinetref12_Two.j6, spinetref12_Relate.f, hl, truth_eq, R4]
theorem c_3_lt (hl : op.toList = [60]) (F : Facts 3 n t) (G : Facts 3 m u) (h1 : o < 0 ↔ dif 3 n m t u < 0) (h2 : o = 0 ↔ dif 3 n m t u = 0) :
    spinetref12_Two.j5 (k + 50) op o 3 n t 3 m u = R4 (entR (total 3 3 op.toList) 3 n t m u) := by
  rw [hl, tt_3_lt]
  have hE : entR (some (78, some 74)) 3 n t m u = (2, tr ((fun q : Int => decide (q < 0)) (dif 3 n m t u)), 0) := by simp [entR, dif]
  rw [hE]
  clear hE
  generalize dif 3 n m t u = q at *
  have he : (fun q : Int => decide (q < 0)) o = (fun q : Int => decide (q < 0)) q := by rw [Bool.eq_iff_iff]; simp; omega
  rw [← he]
  simp [spinetref12_Two.j5, spinetref12_Two.j6, spinetref12_Relate.f, hl, truth_eq, R4]
theorem c_3_le (hl : op.toList = [60, 61]) (F : Facts 3 n t) (G : Facts 3 m u) (h1 : o < 0 ↔ dif 3 n m t u < 0) (h2 : o = 0 ↔ dif 3 n m t u = 0) :
    spinetref12_Two.j5 (k + 50) op o 3 n t 3 m u = R4 (entR (total 3 3 op.toList) 3 n t m u) := by
  rw [hl, tt_3_le]
  have hE : entR (some (78, some 75)) 3 n t m u = (2, tr ((fun q : Int => decide (q ≤ 0)) (dif 3 n m t u)), 0) := by simp [entR, dif]
  rw [hE]
  clear hE
  generalize dif 3 n m t u = q at *
  have he : (fun q : Int => decide (q ≤ 0)) o = (fun q : Int => decide (q ≤ 0)) q := by rw [Bool.eq_iff_iff]; simp; omega
  rw [← he]
  simp [spinetref12_Two.j5, spinetref12_Two.j6, spinetref12_Relate.f, hl, truth_eq, R4]
theorem c_3_gt (hl : op.toList = [62]) (F : Facts 3 n t) (G : Facts 3 m u) (h1 : o < 0 ↔ dif 3 n m t u < 0) (h2 : o = 0 ↔ dif 3 n m t u = 0) :
    spinetref12_Two.j5 (k + 50) op o 3 n t 3 m u = R4 (entR (total 3 3 op.toList) 3 n t m u) := by
  rw [hl, tt_3_gt]
  have hE : entR (some (78, some 76)) 3 n t m u = (2, tr ((fun q : Int => decide (0 < q)) (dif 3 n m t u)), 0) := by simp [entR, dif]
  rw [hE]
  clear hE
  generalize dif 3 n m t u = q at *
  have he : (fun q : Int => decide (0 < q)) o = (fun q : Int => decide (0 < q)) q := by rw [Bool.eq_iff_iff]; simp; omega
  rw [← he]
  simp [spinetref12_Two.j5, spinetref12_Two.j6, spinetref12_Relate.f, hl, truth_eq, R4]
theorem c_3_ge (hl : op.toList = [62, 61]) (F : Facts 3 n t) (G : Facts 3 m u) (h1 : o < 0 ↔ dif 3 n m t u < 0) (h2 : o = 0 ↔ dif 3 n m t u = 0) :
    spinetref12_Two.j5 (k + 50) op o 3 n t 3 m u = R4 (entR (total 3 3 op.toList) 3 n t m u) := by
  rw [hl, tt_3_ge]
  have hE : entR (some (78, some 77)) 3 n t m u = (2, tr ((fun q : Int => decide (0 ≤ q)) (dif 3 n m t u)), 0) := by simp [entR, dif]
  rw [hE]
  clear hE
  generalize dif 3 n m t u = q at *
  have he : (fun q : Int => decide (0 ≤ q)) o = (fun q : Int => decide (0 ≤ q)) q := by rw [Bool.eq_iff_iff]; simp; omega
  rw [← he]
  simp [spinetref12_Two.j5, spinetref12_Two.j6, spinetref12_Relate.f, hl, truth_eq, R4]
theorem c_3_other (hl : Other op.toList) (F : Facts 3 n t) (G : Facts 3 m u) (h1 : o < 0 ↔ dif 3 n m t u < 0) (h2 : o = 0 ↔ dif 3 n m t u = 0) :
    spinetref12_Two.j5 (k + 50) op o 3 n t 3 m u = R4 (entR (total 3 3 op.toList) 3 n t m u) := by
  have ht := total_other 3 3 _ hl
  obtain ⟨kadd, ksub, kmul, kquo, kDIV, kMOD, kIN, kand, kOR, keq, kne, klt, kle, kgt, kge⟩ := hl
  rw [ht]
  simp [spinetref12_Two.j5, spinetref12_Two.j6, spinetref12_Relate.f, kadd, ksub, kmul, kquo, kDIV, kMOD, kIN, kand, kOR, keq, kne, klt, kle, kgt, kge, spinetref12_ints.f, spinetref12_ints.j0, spinetref12_SetOp.f, none_eq, entR, R4]
theorem c_4_add (hl : op.toList = [43]) (F : Facts 4 n t) (G : Facts 4 m u) (h1 : o < 0 ↔ dif 4 n m t u < 0) (h2 : o = 0 ↔ dif 4 n m t u = 0) :
    spinetref12_Two.j5 (k + 50) op o 4 n t 4 m u = R4 (entR (total 4 4 op.toList) 4 n t m u) := by
  rw [hl, tt_4_add]
  simp [spinetref12_Two.j5, spinetref12_Two.j6, spinetref12_Relate.f, hl, spinetref12_SetOp.f, set_eq _ (bits32 _ _ _).1 (bits32 _ _ _).2, entR, R4]
theorem c_4_sub (hl : op.toList = [45]) (F : Facts 4 n t) (G : Facts 4 m u) (h1 : o < 0 ↔ dif 4 n m t u < 0) (h2 : o = 0 ↔ dif 4 n m t u = 0) :
    spinetref12_Two.j5 (k + 50) op o 4 n t 4 m u = R4 (entR (total 4 4 op.toList) 4 n t m u) := by
  rw [hl, tt_4_sub]
  simp [spinetref12_Two.j5, spinetref12_Two.j6, spinetref12_Relate.f, hl, spinetref12_SetOp.f, set_eq _ (bits32 _ _ _).1 (bits32 _ _ _).2, entR, R4]
theorem c_4_mul (hl : op.toList = [42]) (F : Facts 4 n t) (G : Facts 4 m u) (h1 : o < 0 ↔ dif 4 n m t u < 0) (h2 : o = 0 ↔ dif 4 n m t u = 0) :
    spinetref12_Two.j5 (k + 50) op o 4 n t 4 m u = R4 (entR (total 4 4 op.toList) 4 n t m u) := by
  rw [hl, tt_4_mul]
  simp [spinetref12_Two.j5, spinetref12_Two.j6, spinetref12_Relate.f, hl, spinetref12_SetOp.f, set_eq _ (bits32 _ _ _).1 (bits32 _ _ _).2, entR, R4]
theorem c_4_quo (hl : op.toList = [47]) (F : Facts 4 n t) (G : Facts 4 m u) (h1 : o < 0 ↔ dif 4 n m t u < 0) (h2 : o = 0 ↔ dif 4 n m t u = 0) :
    spinetref12_Two.j5 (k + 50) op o 4 n t 4 m u = R4 (entR (total 4 4 op.toList) 4 n t m u) := by
  rw [hl, tt_4_quo]
  simp [spinetref12_Two.j5, spinetref12_Two.j6, spinetref12_Relate.f, hl, spinetref12_SetOp.f, set_eq _ (bits32 _ _ _).1 (bits32 _ _ _).2, entR, R4]
theorem c_4_DIV (hl : op.toList = [68, 73, 86]) (F : Facts 4 n t) (G : Facts 4 m u) (h1 : o < 0 ↔ dif 4 n m t u < 0) (h2 : o = 0 ↔ dif 4 n m t u = 0) :
    spinetref12_Two.j5 (k + 50) op o 4 n t 4 m u = R4 (entR (total 4 4 op.toList) 4 n t m u) := by
  rw [hl, tt_4_DIV]
  simp [spinetref12_Two.j5, spinetref12_Two.j6, spinetref12_Relate.f, hl, spinetref12_ints.f, spinetref12_ints.j0, spinetref12_SetOp.f, none_eq, entR, R4]
theorem c_4_MOD (hl : op.toList = [77, 79, 68]) (F : Facts 4 n t) (G : Facts 4 m u) (h1 : o < 0 ↔ dif 4 n m t u < 0) (h2 : o = 0 ↔ dif 4 n m t u = 0) :
    spinetref12_Two.j5 (k + 50) op o 4 n t 4 m u = R4 (entR (total 4 4 op.toList) 4 n t m u) := by
  rw [hl, tt_4_MOD]
  simp [spinetref12_Two.j5, spinetref12_Two.j6, spinetref12_Relate.f, hl, spinetref12_ints.f, spinetref12_ints.j0, spinetref12_SetOp.f, none_eq, entR, R4]
theorem c_4_IN (hl : op.toList = [73, 78]) (F : Facts 4 n t) (G : Facts 4 m u) (h1 : o < 0 ↔ dif 4 n m t u < 0) (h2 : o = 0 ↔ dif 4 n m t u = 0) :
    spinetref12_Two.j5 (k + 50) op o 4 n t 4 m u = R4 (entR (total 4 4 op.toList) 4 n t m u) := by
  rw [hl, tt_4_IN]
  simp [spinetref12_Two.j5, spinetref12_Two.j6, spinetref12_Relate.f, hl, spinetref12_ints.f, spinetref12_ints.j0, spinetref12_SetOp.f, none_eq, entR, R4]
theorem c_4_and (hl : op.toList = [38]) (F : Facts 4 n t) (G : Facts 4 m u) (h1 : o < 0 ↔ dif 4 n m t u < 0) (h2 : o = 0 ↔ dif 4 n m t u = 0) :
    spinetref12_Two.j5 (k + 50) op o 4 n t 4 m u = R4 (entR (total 4 4 op.toList) 4 n t m u) := by
  rw [hl, tt_4_and]
  simp [spinetref12_Two.j5, spinetref12_Two.j6, spinetref12_Relate.f, hl, spinetref12_ints.f, spinetref12_ints.j0, spinetref12_SetOp.f, none_eq, entR, R4]
theorem c_4_OR (hl : op.toList = [79, 82]) (F : Facts 4 n t) (G : Facts 4 m u) (h1 : o < 0 ↔ dif 4 n m t u < 0) (h2 : o = 0 ↔ dif 4 n m t u = 0) :
    spinetref12_Two.j5 (k + 50) op o 4 n t 4 m u = R4 (entR (total 4 4 op.toList) 4 n t m u) := by
  rw [hl, tt_4_OR]
  simp [spinetref12_Two.j5, spinetref12_Two.j6, spinetref12_Relate.f, hl, spinetref12_ints.f, spinetref12_ints.j0, spinetref12_SetOp.f, none_eq, entR, R4]
theorem c_4_eq (hl : op.toList = [61]) (F : Facts 4 n t) (G : Facts 4 m u) (h1 : o < 0 ↔ dif 4 n m t u < 0) (h2 : o = 0 ↔ dif 4 n m t u = 0) :
    spinetref12_Two.j5 (k + 50) op o 4 n t 4 m u = R4 (entR (total 4 4 op.toList) 4 n t m u) := by
  rw [hl, tt_4_eq]
  have hE : entR (some (78, some 72)) 4 n t m u = (2, tr ((fun q : Int => q == 0) (dif 4 n m t u)), 0) := by simp [entR, dif]
  rw [hE]
  clear hE
  generalize dif 4 n m t u = q at *
  have he : (fun q : Int => q == 0) o = (fun q : Int => q == 0) q := by rw [Bool.eq_iff_iff]; simp; omega
  rw [← he]
  simp [spinetref12_Two.j5, spinetref12_Two.j6, spinetref12_Relate.f, hl, truth_eq, R4]
theorem c_4_ne (hl : op.toList = [35]) (F : Facts 4 n t) (G : Facts 4 m u) (h1 : o < 0 ↔ dif 4 n m t u < 0) (h2 : o = 0 ↔ dif 4 n m t u = 0) :
    spinetref12_Two.j5 (k + 50) op o 4 n t 4 m u = R4 (entR (total 4 4 op.toList) 4 n t m u) := by
  rw [hl, tt_4_ne]
  have hE : entR (some (78, some 73)) 4 n t m u = (2, tr ((fun q : Int => q != 0) (dif 4 n m t u)), 0) := by simp [entR, dif]
  rw [hE]
  clear hE
  generalize dif 4 n m t u = q at *
  have he : (fun q : Int => q != 0) o = (fun q : Int => q != 0) q := by rw [Bool.eq_iff_iff]; simp; omega
  rw [← he]
  simp [spinetref12_Two.j5, spinetref12_Two.j6, spinetref12_Relate.f, hl, truth_eq, R4]
theorem c_4_lt (hl : op.toList = [60]) (F : Facts 4 n t) (G : Facts 4 m u) (h1 : o < 0 ↔ dif 4 n m t u < 0) (h2 : o = 0 ↔ dif 4 n m t u = 0) :
    spinetref12_Two.j5 (k + 50) op o 4 n t 4 m u = R4 (entR (total 4 4 op.toList) 4 n t m u) := by
  rw [hl, tt_4_lt]
  simp [spinetref12_Two.j5, spinetref12_Two.j6, spinetref12_Relate.f, hl, spinetref12_ints.f, spinetref12_ints.j0, spinetref12_SetOp.f, none_eq, entR, R4]
theorem c_4_le (hl : op.toList = [60, 61]) (F : Facts 4 n t) (G : Facts 4 m u) (h1 : o < 0 ↔ dif 4 n m t u < 0) (h2 : o = 0 ↔ dif 4 n m t u = 0) :
    spinetref12_Two.j5 (k + 50) op o 4 n t 4 m u = R4 (entR (total 4 4 op.toList) 4 n t m u) := by
  rw [hl, tt_4_le]
  simp [spinetref12_Two.j5, spinetref12_Two.j6, spinetref12_Relate.f, hl, spinetref12_ints.f, spinetref12_ints.j0, spinetref12_SetOp.f, none_eq, entR, R4]
theorem c_4_gt (hl : op.toList = [62]) (F : Facts 4 n t) (G : Facts 4 m u) (h1 : o < 0 ↔ dif 4 n m t u < 0) (h2 : o = 0 ↔ dif 4 n m t u = 0) :
    spinetref12_Two.j5 (k + 50) op o 4 n t 4 m u = R4 (entR (total 4 4 op.toList) 4 n t m u) := by
  rw [hl, tt_4_gt]
  simp [spinetref12_Two.j5, spinetref12_Two.j6, spinetref12_Relate.f, hl, spinetref12_ints.f, spinetref12_ints.j0, spinetref12_SetOp.f, none_eq, entR, R4]
theorem c_4_ge (hl : op.toList = [62, 61]) (F : Facts 4 n t) (G : Facts 4 m u) (h1 : o < 0 ↔ dif 4 n m t u < 0) (h2 : o = 0 ↔ dif 4 n m t u = 0) :
    spinetref12_Two.j5 (k + 50) op o 4 n t 4 m u = R4 (entR (total 4 4 op.toList) 4 n t m u) := by
  rw [hl, tt_4_ge]
  simp [spinetref12_Two.j5, spinetref12_Two.j6, spinetref12_Relate.f, hl, spinetref12_ints.f, spinetref12_ints.j0, spinetref12_SetOp.f, none_eq, entR, R4]
theorem c_4_other (hl : Other op.toList) (F : Facts 4 n t) (G : Facts 4 m u) (h1 : o < 0 ↔ dif 4 n m t u < 0) (h2 : o = 0 ↔ dif 4 n m t u = 0) :
    spinetref12_Two.j5 (k + 50) op o 4 n t 4 m u = R4 (entR (total 4 4 op.toList) 4 n t m u) := by
  have ht := total_other 4 4 _ hl
  obtain ⟨kadd, ksub, kmul, kquo, kDIV, kMOD, kIN, kand, kOR, keq, kne, klt, kle, kgt, kge⟩ := hl
  rw [ht]
  simp [spinetref12_Two.j5, spinetref12_Two.j6, spinetref12_Relate.f, kadd, ksub, kmul, kquo, kDIV, kMOD, kIN, kand, kOR, keq, kne, klt, kle, kgt, kge, spinetref12_ints.f, spinetref12_ints.j0, spinetref12_SetOp.f, none_eq, entR, R4]
theorem c_5_add (hl : op.toList = [43]) (F : Facts 5 n t) (G : Facts 5 m u) (h1 : o < 0 ↔ dif 5 n m t u < 0) (h2 : o = 0 ↔ dif 5 n m t u = 0) :
    spinetref12_Two.j5 (k + 50) op o 5 n t 5 m u = R4 (entR (total 5 5 op.toList) 5 n t m u) := by
  rw [hl, tt_5_add]
  simp [spinetref12_Two.j5, spinetref12_Two.j6, spinetref12_Relate.f, hl, spinetref12_ints.f, spinetref12_ints.j0, spinetref12_SetOp.f, none_eq, entR, R4]
theorem c_5_sub (hl : op.toList = [45]) (F : Facts 5 n t) (G : Facts 5 m u) (h1 : o < 0 ↔ dif 5 n m t u < 0) (h2 : o = 0 ↔ dif 5 n m t u = 0) :
    spinetref12_Two.j5 (k + 50) op o 5 n t 5 m u = R4 (entR (total 5 5 op.toList) 5 n t m u) := by
  rw [hl, tt_5_sub]
  simp [spinetref12_Two.j5, spinetref12_Two.j6, spinetref12_Relate.f, hl, spinetref12_ints.f, spinetref12_ints.j0, spinetref12_SetOp.f, none_eq, entR, R4]
theorem c_5_mul (hl : op.toList = [42]) (F : Facts 5 n t) (G : Facts 5 m u) (h1 : o < 0 ↔ dif 5 n m t u < 0) (h2 : o = 0 ↔ dif 5 n m t u = 0) :
    spinetref12_Two.j5 (k + 50) op o 5 n t 5 m u = R4 (entR (total 5 5 op.toList) 5 n t m u) := by
  rw [hl, tt_5_mul]
  simp [spinetref12_Two.j5, spinetref12_Two.j6, spinetref12_Relate.f, hl, spinetref12_ints.f, spinetref12_ints.j0, spinetref12_SetOp.f, none_eq, entR, R4]
theorem c_5_quo (hl : op.toList = [47]) (F : Facts 5 n t) (G : Facts 5 m u) (h1 : o < 0 ↔ dif 5 n m t u < 0) (h2 : o = 0 ↔ dif 5 n m t u = 0) :
    spinetref12_Two.j5 (k + 50) op o 5 n t 5 m u = R4 (entR (total 5 5 op.toList) 5 n t m u) := by
  rw [hl, tt_5_quo]
  simp [spinetref12_Two.j5, spinetref12_Two.j6, spinetref12_Relate.f, hl, spinetref12_ints.f, spinetref12_ints.j0, spinetref12_SetOp.f, none_eq, entR, R4]
theorem c_5_DIV (hl : op.toList = [68, 73, 86]) (F : Facts 5 n t) (G : Facts 5 m u) (h1 : o < 0 ↔ dif 5 n m t u < 0) (h2 : o = 0 ↔ dif 5 n m t u = 0) :
    spinetref12_Two.j5 (k + 50) op o 5 n t 5 m u = R4 (entR (total 5 5 op.toList) 5 n t m u) := by
  rw [hl, tt_5_DIV]
  simp [spinetref12_Two.j5, spinetref12_Two.j6, spinetref12_Relate.f, hl, spinetref12_ints.f, spinetref12_ints.j0, spinetref12_SetOp.f, none_eq, entR, R4]
theorem c_5_MOD (hl : op.toList = [77, 79, 68]) (F : Facts 5 n t) (G : Facts 5 m u) (h1 : o < 0 ↔ dif 5 n m t u < 0) (h2 : o = 0 ↔ dif 5 n m t u = 0) :
    spinetref12_Two.j5 (k + 50) op o 5 n t 5 m u = R4 (entR (total 5 5 op.toList) 5 n t m u) := by
  rw [hl, tt_5_MOD]
  simp [spinetref12_Two.j5, spinetref12_Two.j6, spinetref12_Relate.f, hl, spinetref12_ints.f, spinetref12_ints.j0, spinetref12_SetOp.f, none_eq, entR, R4]
theorem c_5_IN (hl : op.toList = [73, 78]) (F : Facts 5 n t) (G : Facts 5 m u) (h1 : o < 0 ↔ dif 5 n m t u < 0) (h2 : o = 0 ↔ dif 5 n m t u = 0) :
    spinetref12_Two.j5 (k + 50) op o 5 n t 5 m u = R4 (entR (total 5 5 op.toList) 5 n t m u) := by
  rw [hl, tt_5_IN]
  simp [spinetref12_Two.j5, spinetref12_Two.j6, spinetref12_Relate.f, hl, spinetref12_ints.f, spinetref12_ints.j0, spinetref12_SetOp.f, none_eq, entR, R4]
theorem c_5_and (hl : op.toList = [38]) (F : Facts 5 n t) (G : Facts 5 m u) (h1 : o < 0 ↔ dif 5 n m t u < 0) (h2 : o = 0 ↔ dif 5 n m t u = 0) :
    spinetref12_Two.j5 (k + 50) op o 5 n t 5 m u = R4 (entR (total 5 5 op.toList) 5 n t m u) := by
  rw [hl, tt_5_and]
  simp [spinetref12_Two.j5, spinetref12_Two.j6, spinetref12_Relate.f, hl, spinetref12_ints.f, spinetref12_ints.j0, spinetref12_SetOp.f, none_eq, entR, R4]
theorem c_5_OR (hl : op.toList = [79, 82]) (F : Facts 5 n t) (G : Facts 5 m u) (h1 : o < 0 ↔ dif 5 n m t u < 0) (h2 : o = 0 ↔ dif 5 n m t u = 0) :
    spinetref12_Two.j5 (k + 50) op o 5 n t 5 m u = R4 (entR (total 5 5 op.toList) 5 n t m u) := by
  rw [hl, tt_5_OR]
  simp [spinetref12_Two.j5, spinetref12_Two.j6, spinetref12_Relate.f, hl, spinetref12_ints.f, spinetref12_ints.j0, spinetref12_SetOp.f, none_eq, entR, R4]
theorem c_5_eq (hl : op.toList = [61]) (F : Facts 5 n t) (G : Facts 5 m u) (h1 : o < 0 ↔ dif 5 n m t u < 0) (h2 : o = 0 ↔ dif 5 n m t u = 0) :
    spinetref12_Two.j5 (k + 50) op o 5 n t 5 m u = R4 (entR (total 5 5 op.toList) 5 n t m u) := by
  rw [hl, tt_5_eq]
  have hE : entR (some (78, some 72)) 5 n t m u = (2, tr ((fun q : Int => q == 0) (dif 5 n m t u)), 0) := by simp [entR, dif]
  rw [hE]
  clear hE
  generalize dif 5 n m t u = q at *
  have he : (fun q : Int => q == 0) o = (fun q : Int => q == 0) q := by rw [Bool.eq_iff_iff]; simp; omega
  rw [← he]
  simp [spinetref12_Two.j5, spinetref12_Two.j6, spinetref12_Relate.f, hl, truth_eq, R4]
theorem c_5_ne (hl : op.toList = [35]) (F : Facts 5 n t) (G : Facts 5 m u) (h1 : o < 0 ↔ dif 5 n m t u < 0) (h2 : o = 0 ↔ dif 5 n m t u = 0) :
    spinetref12_Two.j5 (k + 50) op o 5 n t 5 m u = R4 (entR (total 5 5 op.toList) 5 n t m u) := by
  rw [hl, tt_5_ne]
  have hE : entR (some (78, some 73)) 5 n t m u = (2, tr ((fun q : Int => q != 0) (dif 5 n m t u)), 0) := by simp [entR, dif]
  rw [hE]
  clear hE
  generalize dif 5 n m t u = q at *
  have he : (fun q : Int => q != 0) o = (fun q : Int => q != 0) q := by rw [Bool.eq_iff_iff]; simp; omega
  rw [← he]
  simp [spinetref12_Two.j5, spinetref12_Two.j6, spinetref12_Relate.f, hl, truth_eq, R4]
theorem c_5_lt (hl : op.toList = [60]) (F : Facts 5 n t) (G : Facts 5 m u) (h1 : o < 0 ↔ dif 5 n m t u < 0) (h2 : o = 0 ↔ dif 5 n m t u = 0) :
    spinetref12_Two.j5 (k + 50) op o 5 n t 5 m u = R4 (entR (total 5 5 op.toList) 5 n t m u) := by
  rw [hl, tt_5_lt]
  simp [spinetref12_Two.j5, spinetref12_Two.j6, spinetref12_Relate.f, hl, spinetref12_ints.f, spinetref12_ints.j0, spinetref12_SetOp.f, none_eq, entR, R4]
theorem c_5_le (hl : op.toList = [60, 61]) (F : Facts 5 n t) (G : Facts 5 m u) (h1 : o < 0 ↔ dif 5 n m t u < 0) (h2 : o = 0 ↔ dif 5 n m t u = 0) :
    spinetref12_Two.j5 (k + 50) op o 5 n t 5 m u = R4 (entR (total 5 5 op.toList) 5 n t m u) := by
  rw [hl, tt_5_le]
  simp [spinetref12_Two.j5, spinetref12_Two.j6, spinetref12_Relate.f, hl, spinetref12_ints.f, spinetref12_ints.j0, spinetref12_SetOp.f, none_eq, entR, R4]
theorem c_5_gt (hl : op.toList = [62]) (F : Facts 5 n t) (G : Facts 5 m u) (h1 : o < 0 ↔ dif 5 n m t u < 0) (h2 : o = 0 ↔ dif 5 n m t u = 0) :
    spinetref12_Two.j5 (k + 50) op o 5 n t 5 m u = R4 (entR (total 5 5 op.toList) 5 n t m u) := by
  rw [hl, tt_5_gt]
  simp [spinetref12_Two.j5, spinetref12_Two.j6, spinetref12_Relate.f, hl, spinetref12_ints.f, spinetref12_ints.j0, spinetref12_SetOp.f, none_eq, entR, R4]
theorem c_5_ge (hl : op.toList = [62, 61]) (F : Facts 5 n t) (G : Facts 5 m u) (h1 : o < 0 ↔ dif 5 n m t u < 0) (h2 : o = 0 ↔ dif 5 n m t u = 0) :
    spinetref12_Two.j5 (k + 50) op o 5 n t 5 m u = R4 (entR (total 5 5 op.toList) 5 n t m u) := by
  rw [hl, tt_5_ge]
  simp [spinetref12_Two.j5, spinetref12_Two.j6, spinetref12_Relate.f, hl, spinetref12_ints.f, spinetref12_ints.j0, spinetref12_SetOp.f, none_eq, entR, R4]
theorem c_5_other (hl : Other op.toList) (F : Facts 5 n t) (G : Facts 5 m u) (h1 : o < 0 ↔ dif 5 n m t u < 0) (h2 : o = 0 ↔ dif 5 n m t u = 0) :
    spinetref12_Two.j5 (k + 50) op o 5 n t 5 m u = R4 (entR (total 5 5 op.toList) 5 n t m u) := by
  have ht := total_other 5 5 _ hl
  obtain ⟨kadd, ksub, kmul, kquo, kDIV, kMOD, kIN, kand, kOR, keq, kne, klt, kle, kgt, kge⟩ := hl
  rw [ht]
  simp [spinetref12_Two.j5, spinetref12_Two.j6, spinetref12_Relate.f, kadd, ksub, kmul, kquo, kDIV, kMOD, kIN, kand, kOR, keq, kne, klt, kle, kgt, kge, spinetref12_ints.f, spinetref12_ints.j0, spinetref12_SetOp.f, none_eq, entR, R4]
theorem c_6_add (hl : op.toList = [43]) (F : Facts 6 n t) (G : Facts 6 m u) (h1 : o < 0 ↔ dif 6 n m t u < 0) (h2 : o = 0 ↔ dif 6 n m t u = 0) :
    spinetref12_Two.j5 (k + 50) op o 6 n t 6 m u = R4 (entR (total 6 6 op.toList) 6 n t m u) := by
  rw [hl, tt_6_add]
  simp [spinetref12_Two.j5, spinetref12_Two.j6, spinetref12_Relate.f, hl, spinetref12_ints.f, spinetref12_ints.j0, spinetref12_SetOp.f, none_eq, entR, R4]
theorem c_6_sub (hl : op.toList = [45]) (F : Facts 6 n t) (G : Facts 6 m u) (h1 : o < 0 ↔ dif 6 n m t u < 0) (h2 : o = 0 ↔ dif 6 n m t u = 0) :
    spinetref12_Two.j5 (k + 50) op o 6 n t 6 m u = R4 (entR (total 6 6 op.toList) 6 n t m u) := by
  rw [hl, tt_6_sub]
  simp [spinetref12_Two.j5, spinetref12_Two.j6, spinetref12_Relate.f, hl, spinetref12_ints.f, spinetref12_ints.j0, spinetref12_SetOp.f, none_eq, entR, R4]
theorem c_6_mul (hl : op.toList = [42]) (F : Facts 6 n t) (G : Facts 6 m u) (h1 : o < 0 ↔ dif 6 n m t u < 0) (h2 : o = 0 ↔ dif 6 n m t u = 0) :
    spinetref12_Two.j5 (k + 50) op o 6 n t 6 m u = R4 (entR (total 6 6 op.toList) 6 n t m u) := by
  rw [hl, tt_6_mul]
  simp [spinetref12_Two.j5, spinetref12_Two.j6, spinetref12_Relate.f, hl, spinetref12_ints.f, spinetref12_ints.j0, spinetref12_SetOp.f, none_eq, entR, R4]
theorem c_6_quo (hl : op.toList = [47]) (F : Facts 6 n t) (G : Facts 6 m u) (h1 : o < 0 ↔ dif 6 n m t u < 0) (h2 : o = 0 ↔ dif 6 n m t u = 0) :
    spinetref12_Two.j5 (k + 50) op o 6 n t 6 m u = R4 (entR (total 6 6 op.toList) 6 n t m u) := by
  rw [hl, tt_6_quo]
  simp [spinetref12_Two.j5, spinetref12_Two.j6, spinetref12_Relate.f, hl, spinetref12_ints.f, spinetref12_ints.j0, spinetref12_SetOp.f, none_eq, entR, R4]
theorem c_6_DIV (hl : op.toList = [68, 73, 86]) (F : Facts 6 n t) (G : Facts 6 m u) (h1 : o < 0 ↔ dif 6 n m t u < 0) (h2 : o = 0 ↔ dif 6 n m t u = 0) :
    spinetref12_Two.j5 (k + 50) op o 6 n t 6 m u = R4 (entR (total 6 6 op.toList) 6 n t m u) := by
  rw [hl, tt_6_DIV]
  simp [spinetref12_Two.j5, spinetref12_Two.j6, spinetref12_Relate.f, hl, spinetref12_ints.f, spinetref12_ints.j0, spinetref12_SetOp.f, none_eq, entR, R4]
theorem c_6_MOD (hl : op.toList = [77, 79, 68]) (F : Facts 6 n t) (G : Facts 6 m u) (h1 : o < 0 ↔ dif 6 n m t u < 0) (h2 : o = 0 ↔ dif 6 n m t u = 0) :
    spinetref12_Two.j5 (k + 50) op o 6 n t 6 m u = R4 (entR (total 6 6 op.toList) 6 n t m u) := by
  rw [hl, tt_6_MOD]
  simp [spinetref12_Two.j5, spinetref12_Two.j6, spinetref12_Relate.f, hl, spinetref12_ints.f, spinetref12_ints.j0, spinetref12_SetOp.f, none_eq, entR, R4]
theorem c_6_IN (hl : op.toList = [73, 78]) (F : Facts 6 n t) (G : Facts 6 m u) (h1 : o < 0 ↔ dif 6 n m t u < 0) (h2 : o = 0 ↔ dif 6 n m t u = 0) :
    spinetref12_Two.j5 (k + 50) op o 6 n t 6 m u = R4 (entR (total 6 6 op.toList) 6 n t m u) := by
  rw [hl, tt_6_IN]
  simp [spinetref12_Two.j5, spinetref12_Two.j6, spinetref12_Relate.f, hl, spinetref12_ints.f, spinetref12_ints.j0, spinetref12_SetOp.f, none_eq, entR, R4]
theorem c_6_and (hl : op.toList = [38]) (F : Facts 6 n t) (G : Facts 6 m u) (h1 : o < 0 ↔ dif 6 n m t u < 0) (h2 : o = 0 ↔ dif 6 n m t u = 0) :
    spinetref12_Two.j5 (k + 50) op o 6 n t 6 m u = R4 (entR (total 6 6 op.toList) 6 n t m u) := by
  rw [hl, tt_6_and]
  simp [spinetref12_Two.j5, spinetref12_Two.j6, spinetref12_Relate.f, hl, spinetref12_ints.f, spinetref12_ints.j0, spinetref12_SetOp.f, none_eq, entR, R4]
theorem c_6_OR (hl : op.toList = [79, 82]) (F : Facts 6 n t) (G : Facts 6 m u) (h1 : o < 0 ↔ dif 6 n m t u < 0) (h2 : o = 0 ↔ dif 6 n m t u = 0) :
    spinetref12_Two.j5 (k + 50) op o 6 n t 6 m u = R4 (entR (total 6 6 op.toList) 6 n t m u) := by
  rw [hl, tt_6_OR]
  simp [spinetref12_Two.j5, spinetref12_Two.j6, spinetref12_Relate.f, hl, spinetref12_ints.f, spinetref12_ints.j0, spinetref12_SetOp.f, none_eq, entR, R4]
theorem c_6_eq (hl : op.toList = [61]) (F : Facts 6 n t) (G : Facts 6 m u) (h1 : o < 0 ↔ dif 6 n m t u < 0) (h2 : o = 0 ↔ dif 6 n m t u = 0) :
    spinetref12_Two.j5 (k + 50) op o 6 n t 6 m u = R4 (entR (total 6 6 op.toList) 6 n t m u) := by
  rw [hl, tt_6_eq]
  have hE : entR (some (78, some 72)) 6 n t m u = (2, tr ((fun q : Int => q == 0) (dif 6 n m t u)), 0) := by simp [entR, dif]
  rw [hE]
  clear hE
  generalize dif 6 n m t u = q at *
  have he : (fun q : Int => q == 0) o = (fun q : Int => q == 0) q := by rw [Bool.eq_iff_iff]; simp; omega
  rw [← he]
  simp [spinetref12_Two.j5, spinetref12_Two.j6, spinetref12_Relate.f, hl, truth_eq, R4]
theorem c_6_ne (hl : op.toList = [35]) (F : Facts 6 n t) (G : Facts 6 m u) (h1 : o < 0 ↔ dif 6 n m t u < 0) (h2 : o = 0 ↔ dif 6 n m t u = 0) :
    spinetref12_Two.j5 (k + 50) op o 6 n t 6 m u = R4 (entR (total 6 6 op.toList) 6 n t m u) := by
  rw [hl, tt_6_ne]
  have hE : entR (some (78, some 73)) 6 n t m u = (2, tr ((fun q : Int => q != 0) (dif 6 n m t u)), 0) := by simp [entR, dif]
  rw [hE]
  clear hE
  generalize dif 6 n m t u = q at *
  have he : (fun q : Int => q != 0) o = (fun q : Int => q != 0) q := by rw [Bool.eq_iff_iff]; simp; omega
  rw [← he]
  simp [spinetref12_Two.j5, spinetref12_Two.j6, spinetref12_Relate.f, hl, truth_eq, R4]
theorem c_6_lt (hl : op.toList = [60]) (F : Facts 6 n t) (G : Facts 6 m u) (h1 : o < 0 ↔ dif 6 n m t u < 0) (h2 : o = 0 ↔ dif 6 n m t u = 0) :
    spinetref12_Two.j5 (k + 50) op o 6 n t 6 m u = R4 (entR (total 6 6 op.toList) 6 n t m u) := by
  rw [hl, tt_6_lt]
  have hE : entR (some (78, some 74)) 6 n t m u = (2, tr ((fun q : Int => decide (q < 0)) (dif 6 n m t u)), 0) := by simp [entR, dif]
  rw [hE]
  clear hE
  generalize dif 6 n m t u = q at *
  have he : (fun q : Int => decide (q < 0)) o = (fun q : Int => decide (q < 0)) q := by rw [Bool.eq_iff_iff]; simp; omega
  rw [← he]
  simp [spinetref12_Two.j5, spinetref12_Two.j6, spinetref12_Relate.f, hl, truth_eq, R4]
theorem c_6_le (hl : op.toList = [60, 61]) (F : Facts 6 n t) (G : Facts 6 m u) (h1 : o < 0 ↔ dif 6 n m t u < 0) (h2 : o = 0 ↔ dif 6 n m t u = 0) :
    spinetref12_Two.j5 (k + 50) op o 6 n t 6 m u = R4 (entR (total 6 6 op.toList) 6 n t m u) := by
  rw [hl, tt_6_le]
  have hE : entR (some (78, some 75)) 6 n t m u = (2, tr ((fun q : Int => decide (q ≤ 0)) (dif 6 n m t u)), 0) := by simp [entR, dif]
  rw [hE]
  clear hE
  generalize dif 6 n m t u = q at *
  have he : (fun q : Int => decide (q ≤ 0)) o = (fun q : Int => decide (q ≤ 0)) q := by rw [Bool.eq_iff_iff]; simp; omega
  rw [← he]
  simp [spinetref12_Two.j5, spinetref12_Two.j6, spinetref12_Relate.f, hl, truth_eq, R4]
theorem c_6_gt (hl : op.toList = [62]) (F : Facts 6 n t) (G : Facts 6 m u) (h1 : o < 0 ↔ dif 6 n m t u < 0) (h2 : o = 0 ↔ dif 6 n m t u = 0) :
    spinetref12_Two.j5 (k + 50) op o 6 n t 6 m u = R4 (entR (total 6 6 op.toList) 6 n t m u) := by
  rw [hl, tt_6_gt]
  have hE : entR (some (78, some 76)) 6 n t m u = (2, tr ((fun q : Int => decide (0 < q)) (dif 6 n m t u)), 0) := by simp [entR, dif]
  rw [hE]
  clear hE
  generalize dif 6 n m t u = q at *
  have he : (fun q : Int => decide (0 < q)) o = (fun q : Int => decide (0 < q)) q := by rw [Bool.eq_iff_iff]; simp; omega
  rw [← he]
  simp [spinetref12_Two.j5, spinetref12_Two.j6, spinetref12_Relate.f, hl, truth_eq, R4]
theorem c_6_ge (hl : op.toList = [62, 61]) (F : Facts 6 n t) (G : Facts 6 m u) (h1 : o < 0 ↔ dif 6 n m t u < 0) (h2 : o = 0 ↔ dif 6 n m t u = 0) :
    spinetref12_Two.j5 (k + 50) op o 6 n t 6 m u = R4 (entR (total 6 6 op.toList) 6 n t m u) := by
  rw [hl, tt_6_ge]
  have hE : entR (some (78, some 77)) 6 n t m u = (2, tr ((fun q : Int => decide (0 ≤ q)) (dif 6 n m t u)), 0) := by simp [entR, dif]
  rw [hE]
  clear hE
  generalize dif 6 n m t u = q at *
  have he : (fun q : Int => decide (0 ≤ q)) o = (fun q : Int => decide (0 ≤ q)) q := by rw [Bool.eq_iff_iff]; simp; omega
  rw [← he]
  simp [spinetref12_Two.j5, spinetref12_Two.j6, spinetref12_Relate.f, hl, truth_eq, R4]
theorem c_6_other (hl : Other op.toList) (F : Facts 6 n t) (G : Facts 6 m u) (h1 : o < 0 ↔ dif 6 n m t u < 0) (h2 : o = 0 ↔ dif 6 n m t u = 0) :
    spinetref12_Two.j5 (k + 50) op o 6 n t 6 m u = R4 (entR (total 6 6 op.toList) 6 n t m u) := by
  have ht := total_other 6 6 _ hl
  obtain ⟨kadd, ksub, kmul, kquo, kDIV, kMOD, kIN, kand, kOR, keq, kne, klt, kle, kgt, kge⟩ := hl
  rw [ht]
  simp [spinetref12_Two.j5, spinetref12_Two.j6, spinetref12_Relate.f, kadd, ksub, kmul, kquo, kDIV, kMOD, kIN, kand, kOR, keq, kne, klt, kle, kgt, kge, spinetref12_ints.f, spinetref12_ints.j0, spinetref12_SetOp.f, none_eq, entR, R4]
end
theorem signs (l : List UInt8) : l = [43] ∨ l = [45] ∨ l = [42] ∨ l = [47] ∨ l = [68, 73, 86] ∨ l = [77, 79, 68] ∨ l = [73, 78] ∨ l = [38] ∨ l = [79, 82] ∨ l = [61] ∨ l = [35] ∨ l = [60] ∨ l = [60, 61] ∨ l = [62] ∨ l = [62, 61] ∨ Other l := by
  by_cases hadd : l = [43]
  · simp [hadd]
  by_cases hsub : l = [45]
  · simp [hsub]
  by_cases hmul : l = [42]
  · simp [hmul]
  by_cases hquo : l = [47]
  · simp [hquo]
  by_cases hDIV : l = [68, 73, 86]
  · simp [hDIV]
  by_cases hMOD : l = [77, 79, 68]
  · simp [hMOD]
  by_cases hIN : l = [73, 78]
  · simp [hIN]
  by_cases hand : l = [38]
  · simp [hand]
  by_cases hOR : l = [79, 82]
  · simp [hOR]
  by_cases heq : l = [61]
  · simp [heq]
  by_cases hne : l = [35]
  · simp [hne]
  by_cases hlt : l = [60]
  · simp [hlt]
  by_cases hle : l = [60, 61]
  · simp [hle]
  by_cases hgt : l = [62]
  · simp [hgt]
  by_cases hge : l = [62, 61]
  · simp [hge]
  repeat right
  exact ⟨hadd, hsub, hmul, hquo, hDIV, hMOD, hIN, hand, hOR, heq, hne, hlt, hle, hgt, hge⟩
theorem one_form (k : Nat) (op : ByteArray) (f o n m : Int) (t u : ByteArray) (F : Facts f n t) (G : Facts f m u) (h1 : o < 0 ↔ dif f n m t u < 0) (h2 : o = 0 ↔ dif f n m t u = 0) :
    spinetref12_Two.j5 (k + 50) op o f n t f m u = R4 (entR (total f f op.toList) f n t m u) := by
  have hf := F.form
  have cs : f = 1 ∨ f = 2 ∨ f = 3 ∨ f = 4 ∨ f = 5 ∨ f = 6 := by omega
  have hs := signs op.toList
  rcases cs with rfl | rfl | rfl | rfl | rfl | rfl
  · rcases hs with h | h | h | h | h | h | h | h | h | h | h | h | h | h | h | h
    · exact c_1_add k op o n m t u h F G h1 h2
    · exact c_1_sub k op o n m t u h F G h1 h2
    · exact c_1_mul k op o n m t u h F G h1 h2
    · exact c_1_quo k op o n m t u h F G h1 h2
    · exact c_1_DIV k op o n m t u h F G h1 h2
    · exact c_1_MOD k op o n m t u h F G h1 h2
    · exact c_1_IN k op o n m t u h F G h1 h2
    · exact c_1_and k op o n m t u h F G h1 h2
    · exact c_1_OR k op o n m t u h F G h1 h2
    · exact c_1_eq k op o n m t u h F G h1 h2
    · exact c_1_ne k op o n m t u h F G h1 h2
    · exact c_1_lt k op o n m t u h F G h1 h2
    · exact c_1_le k op o n m t u h F G h1 h2
    · exact c_1_gt k op o n m t u h F G h1 h2
    · exact c_1_ge k op o n m t u h F G h1 h2
    · exact c_1_other k op o n m t u h F G h1 h2
  · rcases hs with h | h | h | h | h | h | h | h | h | h | h | h | h | h | h | h
    · exact c_2_add k op o n m t u h F G h1 h2
    · exact c_2_sub k op o n m t u h F G h1 h2
    · exact c_2_mul k op o n m t u h F G h1 h2
    · exact c_2_quo k op o n m t u h F G h1 h2
    · exact c_2_DIV k op o n m t u h F G h1 h2
    · exact c_2_MOD k op o n m t u h F G h1 h2
    · exact c_2_IN k op o n m t u h F G h1 h2
    · exact c_2_and k op o n m t u h F G h1 h2
    · exact c_2_OR k op o n m t u h F G h1 h2
    · exact c_2_eq k op o n m t u h F G h1 h2
    · exact c_2_ne k op o n m t u h F G h1 h2
    · exact c_2_lt k op o n m t u h F G h1 h2
    · exact c_2_le k op o n m t u h F G h1 h2
    · exact c_2_gt k op o n m t u h F G h1 h2
    · exact c_2_ge k op o n m t u h F G h1 h2
    · exact c_2_other k op o n m t u h F G h1 h2
  · rcases hs with h | h | h | h | h | h | h | h | h | h | h | h | h | h | h | h
    · exact c_3_add k op o n m t u h F G h1 h2
    · exact c_3_sub k op o n m t u h F G h1 h2
    · exact c_3_mul k op o n m t u h F G h1 h2
    · exact c_3_quo k op o n m t u h F G h1 h2
    · exact c_3_DIV k op o n m t u h F G h1 h2
    · exact c_3_MOD k op o n m t u h F G h1 h2
    · exact c_3_IN k op o n m t u h F G h1 h2
    · exact c_3_and k op o n m t u h F G h1 h2
    · exact c_3_OR k op o n m t u h F G h1 h2
    · exact c_3_eq k op o n m t u h F G h1 h2
    · exact c_3_ne k op o n m t u h F G h1 h2
    · exact c_3_lt k op o n m t u h F G h1 h2
    · exact c_3_le k op o n m t u h F G h1 h2
    · exact c_3_gt k op o n m t u h F G h1 h2
    · exact c_3_ge k op o n m t u h F G h1 h2
    · exact c_3_other k op o n m t u h F G h1 h2
  · rcases hs with h | h | h | h | h | h | h | h | h | h | h | h | h | h | h | h
    · exact c_4_add k op o n m t u h F G h1 h2
    · exact c_4_sub k op o n m t u h F G h1 h2
    · exact c_4_mul k op o n m t u h F G h1 h2
    · exact c_4_quo k op o n m t u h F G h1 h2
    · exact c_4_DIV k op o n m t u h F G h1 h2
    · exact c_4_MOD k op o n m t u h F G h1 h2
    · exact c_4_IN k op o n m t u h F G h1 h2
    · exact c_4_and k op o n m t u h F G h1 h2
    · exact c_4_OR k op o n m t u h F G h1 h2
    · exact c_4_eq k op o n m t u h F G h1 h2
    · exact c_4_ne k op o n m t u h F G h1 h2
    · exact c_4_lt k op o n m t u h F G h1 h2
    · exact c_4_le k op o n m t u h F G h1 h2
    · exact c_4_gt k op o n m t u h F G h1 h2
    · exact c_4_ge k op o n m t u h F G h1 h2
    · exact c_4_other k op o n m t u h F G h1 h2
  · rcases hs with h | h | h | h | h | h | h | h | h | h | h | h | h | h | h | h
    · exact c_5_add k op o n m t u h F G h1 h2
    · exact c_5_sub k op o n m t u h F G h1 h2
    · exact c_5_mul k op o n m t u h F G h1 h2
    · exact c_5_quo k op o n m t u h F G h1 h2
    · exact c_5_DIV k op o n m t u h F G h1 h2
    · exact c_5_MOD k op o n m t u h F G h1 h2
    · exact c_5_IN k op o n m t u h F G h1 h2
    · exact c_5_and k op o n m t u h F G h1 h2
    · exact c_5_OR k op o n m t u h F G h1 h2
    · exact c_5_eq k op o n m t u h F G h1 h2
    · exact c_5_ne k op o n m t u h F G h1 h2
    · exact c_5_lt k op o n m t u h F G h1 h2
    · exact c_5_le k op o n m t u h F G h1 h2
    · exact c_5_gt k op o n m t u h F G h1 h2
    · exact c_5_ge k op o n m t u h F G h1 h2
    · exact c_5_other k op o n m t u h F G h1 h2
  · rcases hs with h | h | h | h | h | h | h | h | h | h | h | h | h | h | h | h
    · exact c_6_add k op o n m t u h F G h1 h2
    · exact c_6_sub k op o n m t u h F G h1 h2
    · exact c_6_mul k op o n m t u h F G h1 h2
    · exact c_6_quo k op o n m t u h F G h1 h2
    · exact c_6_DIV k op o n m t u h F G h1 h2
    · exact c_6_MOD k op o n m t u h F G h1 h2
    · exact c_6_IN k op o n m t u h F G h1 h2
    · exact c_6_and k op o n m t u h F G h1 h2
    · exact c_6_OR k op o n m t u h F G h1 h2
    · exact c_6_eq k op o n m t u h F G h1 h2
    · exact c_6_ne k op o n m t u h F G h1 h2
    · exact c_6_lt k op o n m t u h F G h1 h2
    · exact c_6_le k op o n m t u h F G h1 h2
    · exact c_6_gt k op o n m t u h F G h1 h2
    · exact c_6_ge k op o n m t u h F G h1 h2
    · exact c_6_other k op o n m t u h F G h1 h2
/-- Two constants behind their turn to characters. -/
theorem core (k : Nat) (op : ByteArray) (f n g m : Int) (t u : ByteArray) (F : Facts f n t) (G : Facts g m u) :
    spinetref12_Two.j2 (k + 60) op f n t g m u = R4 (entR (total f g op.toList) f n t m u) := by
  by_cases hin : op.toList = [73, 78] ∧ f = 1 ∧ g = 4
  · obtain ⟨hl, rfl, rfl⟩ := hin
    have ht : total 1 4 [73, 78] = some (71, none) := by decide +kernel
    have hs := G.set rfl
    rw [hl, ht]
    simp only [spinetref12_Two.j2, hl, if_true, spinetref12_Two.j3, show ((4 : Int) == 4) = true from rfl]
    have hI : entR (some (71, none)) 1 n t m u = inR n m := by simp [entR]
    rw [hI]
    unfold inR
    by_cases h0 : n < 0
    · rw [if_pos h0, if_pos (Or.inl h0)]; simp [spinetref12_Two.j4, R4]
    · rw [if_neg h0]
      by_cases h31 : n > 31
      · rw [if_pos (Or.inr h31)]; simp [spinetref12_Two.j4, R4, h31]
      · rw [if_neg (by omega)]
        have d : decide (n > 31) = false := decide_eq_false h31
        simp only [spinetref12_Two.j4, d, Bool.false_eq_true, if_false]
        rw [get_1 (k + 57) (m % 4294967296) n (by omega) (by omega) (by omega) (by omega) (by omega)]
        simp only [Option.bind_some]
        rw [truth_eq, bind_R4]
        have hb := bits_mask .u32 32 (by decide) (fun n h0 h1 => by rw [IntKind.wrap_u32]; omega) 1 (by decide) (m % 4294967296 / 2 ^ n.toNat) (Int.ediv_nonneg (by omega) (Int.le_of_lt (pow_pos' _))) (by have := Int.ediv_le_self (b := 2 ^ n.toNat) (show 0 ≤ m % 4294967296 by omega); omega)
        rw [show ((2 : Int) ^ 1 - 1) = 1 by decide, show ((2 : Int) ^ 1) = 2 by decide] at hb
        rw [hb]
  · have e2 : spinetref12_Two.j2 (k + 60) op f n t g m u = spinetref12_Two.j3 (k + 59) op false f n t g m u := by
      simp only [spinetref12_Two.j2]
      by_cases hl : op.toList = [73, 78]
      · rw [if_pos hl]
        by_cases h1 : f = 1
        · rw [if_pos h1]
          have : (g == 4) = false := beq_eq_false_iff_ne.2 (fun h => hin ⟨hl, h1, h⟩)
          rw [this]
        · rw [if_neg h1]
      · rw [if_neg hl]
    rw [e2]
    by_cases hfg : f = g
    · subst hfg
      obtain ⟨o, ho, h1, h2⟩ := ord (k + 58) op f n m t u F G
      rw [ho]
      exact one_form (k + 8) op f o n m t u F G h1 h2
    · rw [total_ne f g _ hfg (fun h => hin ⟨h.2.2, h.1, h.2.1⟩)]
      simp only [spinetref12_Two.j3, Bool.false_eq_true, if_false, if_neg hfg]
      rw [none_eq, bind_R4]
      simp [entR]
end Go.Proofs.Ytjimcgmefpienaa.TwoPure
