/- The plain law of AluCompares: no Go in sight. Behind a difference the conditions tell which of two words is below the other, with signs and without. -/
import Derived.Test.YtbcoanjgpebedaaAluA
import Derived.Test.YtbcoanjgpebedaaAluLawAluCompares
namespace Go.Proofs.Ytbcoanjgpebedaa.PureAluCompares
open Go.RowKit Go.Proofs.Ytbcoanjgpebedaa.Plain Go.Proofs.Ytbcoanjgpebedaa.PAluDoes Go.Proofs.Ytbcoanjgpebedaa.AluA Go.Proofs.YtbcoanjgpebedaaW.PrintWords Go.Proofs.YtbcoanjgpebedaaW.PrintLast Go.Proofs.YtbcoanjgpebedaaW.PrintMore

theorem hold1 (N Z C V : Bool) : alu_Holds.f 40 1 N Z C V = some Z := by revert N Z C V; decide +kernel
theorem hold2 (N Z C V : Bool) : alu_Holds.f 40 2 N Z C V = some C := by revert N Z C V; decide +kernel
theorem hold4 (N Z C V : Bool) : alu_Holds.f 40 4 N Z C V = some (C || Z) := by revert N Z C V; decide +kernel
theorem hold5 (N Z C V : Bool) : alu_Holds.f 40 5 N Z C V = some (N != V) := by revert N Z C V; decide +kernel
theorem hold6 (N Z C V : Bool) : alu_Holds.f 40 6 N Z C V = some ((N != V) || Z) := by revert N Z C V; decide +kernel
theorem hold14 (N Z C V : Bool) : alu_Holds.f 40 14 N Z C V = some (!((N != V) || Z)) := by revert N Z C V; decide +kernel

theorem less (b n : Int) (b0 : 0 ≤ b) (b1 : b < 4294967296) (n0 : 0 ≤ n) (n1 : n < 4294967296) :
    (decide ((b - n) % 4294967296 ≥ 2147483648) != !(decide (wrap32 b - wrap32 n ≥ -2147483648) && decide (wrap32 b - wrap32 n < 2147483648))) = decide (wrap32 b < wrap32 n) := by
  rw [w32_of b0 b1, w32_of n0 n1]
  by_cases h1 : wrap32 b < wrap32 n
  · rw [w32_of b0 b1, w32_of n0 n1] at h1
    by_cases h2 : (b - n) % 4294967296 ≥ 2147483648
    · have : (if b ≥ 2147483648 then b - 4294967296 else b) - (if n ≥ 2147483648 then n - 4294967296 else n) ≥ -2147483648 := by split at h1 <;> split at h1 <;> simp_all <;> omega
      have h4 : (if b ≥ 2147483648 then b - 4294967296 else b) - (if n ≥ 2147483648 then n - 4294967296 else n) < 2147483648 := by omega
      rw [decide_eq_true h1, decide_eq_true h2, decide_eq_true this, decide_eq_true h4]; rfl
    · have : ¬ (if b ≥ 2147483648 then b - 4294967296 else b) - (if n ≥ 2147483648 then n - 4294967296 else n) ≥ -2147483648 := by split at h1 <;> split at h1 <;> simp_all <;> omega
      rw [decide_eq_true h1, decide_eq_false h2, decide_eq_false this]; rfl
  · rw [w32_of b0 b1, w32_of n0 n1] at h1
    have h3 : (if b ≥ 2147483648 then b - 4294967296 else b) - (if n ≥ 2147483648 then n - 4294967296 else n) ≥ -2147483648 := by omega
    by_cases h2 : (b - n) % 4294967296 ≥ 2147483648
    · have : ¬ (if b ≥ 2147483648 then b - 4294967296 else b) - (if n ≥ 2147483648 then n - 4294967296 else n) < 2147483648 := by split at h1 <;> split at h1 <;> simp_all <;> omega
      rw [decide_eq_false h1, decide_eq_true h2, decide_eq_true h3, decide_eq_false this]; rfl
    · have : (if b ≥ 2147483648 then b - 4294967296 else b) - (if n ≥ 2147483648 then n - 4294967296 else n) < 2147483648 := by split at h1 <;> split at h1 <;> simp_all <;> omega
      rw [decide_eq_false h1, decide_eq_false h2, decide_eq_true h3, decide_eq_true this]; rfl

theorem law (op b n h : Int) (u N Z C V : Bool) (b0 : 0 ≤ b) (b1 : b < 4294967296) (n0 : 0 ≤ n) (n1 : n < 4294967296) :
    spinetlaw03_AluCompares.f 40 op u b n h N Z C V = some true := by
  have e := do9 b n h false N Z C V b0 b1 n0 n1
  have hc : carryOf false C = 0 := rfl
  rw [hc, Int.sub_zero, Int.sub_zero, Int.add_zero] at e
  have l := less b n b0 b1 n0 n1
  have z : ((b - n) % 4294967296 == 0) = decide (b = n) := by rw [Bool.eq_iff_iff]; simp; omega
  have z2 : decide (b = n) = decide (wrap32 b = wrap32 n) := by
    rw [Bool.eq_iff_iff]; simp only [decide_eq_true_eq]; rw [w32_of b0 b1, w32_of n0 n1]; split <;> split <;> omega
  have p1 : (decide (b < n) || decide (b = n)) = decide (b ≤ n) := by rw [Bool.eq_iff_iff]; simp; omega
  have p2 : (decide (wrap32 b < wrap32 n) || decide (b = n)) = decide (wrap32 b ≤ wrap32 n) := by rw [z2, Bool.eq_iff_iff]; simp; omega
  have p3 : (!decide (wrap32 b ≤ wrap32 n)) = decide (wrap32 b > wrap32 n) := by rw [Bool.eq_iff_iff]; simp
  have p4 : (b == n) = decide (b = n) := by rw [Bool.eq_iff_iff]; simp
  simp only [spinetlaw03_AluCompares.f, e, res, Option.bind_some, hold1, hold2, hold4, hold5, hold6, hold14, l, z, p1, p2, p3, p4, wakes_true, beq_self_eq_true, if_true]

end Go.Proofs.Ytbcoanjgpebedaa.PureAluCompares
