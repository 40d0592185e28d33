/- The plain law of AluDivides: no Go in sight. Quotient and rest put together again are the word that was divided; the rest is from 0 on and below the divisor. -/
import Derived.Test.YtbcoanjgpebedaaAluA
import Derived.Test.YtbcoanjgpebedaaAluLawAluDivides
namespace Go.Proofs.Ytbcoanjgpebedaa.PureAluDivides
open Go.RowKit Go.Proofs.Ytbcoanjgpebedaa.Plain Go.Proofs.Ytbcoanjgpebedaa.PAluDoes Go.Proofs.Ytbcoanjgpebedaa.AluA Go.Proofs.YtbcoanjgpebedaaW.PrintWords Go.Proofs.YtbcoanjgpebedaaW.PrintLast Go.Proofs.YtbcoanjgpebedaaW.PrintMore

theorem div_bounds (x y : Int) (x0 : -2147483648 ≤ x) (x1 : x < 2147483648) (hy : 0 < y) : -2147483648 ≤ x / y ∧ x / y < 2147483648 := by
  have e := Int.mul_ediv_add_emod x y
  have m0 := Int.emod_nonneg x (show y ≠ 0 by omega)
  have m1 := Int.emod_lt_of_pos x hy
  by_cases hx : 0 ≤ x
  · have := Int.ediv_nonneg hx (by omega : 0 ≤ y)
    have := Int.ediv_le_self y hx
    omega
  · have h := Int.ediv_neg_of_neg_of_pos (by omega : x < 0) hy
    refine ⟨?_, by omega⟩
    have : y * (x / y) ≤ 1 * (x / y) := Int.mul_le_mul_of_nonpos_right (by omega) (by omega)
    by_cases hq : x / y < -2147483648
    · have h2 : x / y + 1 ≤ -2147483648 := by omega
      have h3 : y * (x / y + 1) ≤ 1 * (x / y + 1) := Int.mul_le_mul_of_nonpos_right (by omega) (by omega)
      rw [Int.mul_add] at h3
      by_cases h4 : x / y = -2147483649
      · rw [h4] at e h3
        omega
      · omega
    · omega

theorem law (b n : Int) (N Z C V : Bool) (b0 : 0 ≤ b) (b1 : b < 4294967296) (n0 : 0 ≤ n) (n1 : n < 4294967296) :
    spinetlaw03_AluDivides.f 40 b n N Z C V = some true := by
  by_cases hy : 0 < wrap32 n
  · have e := do11 b n 7 N Z C V hy
    have k1 := w32b b
    have k2 := w32b n
    have hq := div_bounds (wrap32 b) (wrap32 n) k1.1 k1.2 hy
    have m0 := Int.emod_nonneg (wrap32 b) (show wrap32 n ≠ 0 by omega)
    have m1 := Int.emod_lt_of_pos (wrap32 b) hy
    have hs := Int.mul_ediv_add_emod (wrap32 b) (wrap32 n)
    have hw : wrap32 (wrap32 b / wrap32 n % 4294967296) = wrap32 b / wrap32 n := by
      generalize wrap32 b / wrap32 n = q at *; unfold wrap32; omega
    have e2 := do10s (wrap32 b / wrap32 n % 4294967296) n 0 N Z C V
    rw [hw, Int.mul_comm] at e2
    have en : wrap32 n = n := by rw [w32_of n0 n1] at hy ⊢; split <;> simp_all <;> omega
    have er : wrap32 b % wrap32 n % 4294967296 = wrap32 b % wrap32 n := by omega
    have es : ((wrap32 n * (wrap32 b / wrap32 n)) % 4294967296 + wrap32 b % wrap32 n) % 4294967296 = b := by
      have := w32u b0 b1; omega
    have ew : wrap32 (wrap32 b % wrap32 n) = wrap32 b % wrap32 n := by
      generalize wrap32 b % wrap32 n = r at *; unfold wrap32; omega
    simp only [spinetlaw03_AluDivides.f, e, res, Option.bind_some, e2, er, es, ew, wakes_true, if_true]
    rw [if_neg (by omega), if_pos (by omega), if_pos (by omega)]
  · have e := do11no b n 7 N Z C V (by omega)
    simp only [spinetlaw03_AluDivides.f, e, res, Option.bind_some, wakes_true, if_true]
    rw [if_pos (by omega)]

end Go.Proofs.Ytbcoanjgpebedaa.PureAluDivides
