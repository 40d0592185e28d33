/- The plain law of AluHolds: no Go in sight. Which conditions hold of any flags is what the document's answer tells, and each one from 8 on is the opposite of one below. -/
import Derived.Test.YtbcoanjgpebedaaAluA
import Derived.Test.YtbcoanjgpebedaaAluLawAluHolds
namespace Go.Proofs.Ytbcoanjgpebedaa.PureAluHolds
open Go.RowKit Go.Proofs.Ytbcoanjgpebedaa.Plain Go.Proofs.Ytbcoanjgpebedaa.PAluDoes Go.Proofs.Ytbcoanjgpebedaa.AluA Go.Proofs.YtbcoanjgpebedaaW.PrintWords Go.Proofs.YtbcoanjgpebedaaW.PrintLast Go.Proofs.YtbcoanjgpebedaaW.PrintMore

theorem holds_in : ∀ c : Fin 16, ∀ N Z C V : Bool, ∃ b, alu_Holds.f 40 (c.val : Int) N Z C V = some b ∧ spinetref03_Holds.f (c.val : Int) N Z C V = some b ∧ (c.val < 8 → alu_Holds.f 40 (wrap64 ((c.val : Int) + 8)) N Z C V = some (!b)) := by
  intro c N Z C V
  refine ⟨(alu_Holds.f 40 (c.val : Int) N Z C V).getD false, ?_⟩
  revert c N Z C V
  decide +kernel

theorem law (c : Int) (N Z C V : Bool) : spinetlaw03_AluHolds.f 40 c N Z C V = some true := by
  by_cases h0 : c < 0
  · have a1 : ¬ c ≥ 0 := by omega
    have a2 : ¬ c ≥ 8 := by omega
    have e1 : alu_Holds.f 40 c N Z C V = some false := by simp [alu_Holds.f, h0, alu_Holds.j0]
    have e2 : spinetref03_Holds.f c N Z C V = some false := by simp [spinetref03_Holds.f, a1, a2]
    simp [spinetlaw03_AluHolds.f, e1, e2, h0, wakes_true]
  · by_cases h1 : c > 15
    · have a1 : c ≥ 0 := by omega
      have a2 : c ≥ 8 := by omega
      have a3 : ¬ c ≤ 15 := by omega
      have a4 : c > 7 := by omega
      have e1 : alu_Holds.f 40 c N Z C V = some false := by simp [alu_Holds.f, h0, h1, alu_Holds.j0]
      have e2 : spinetref03_Holds.f c N Z C V = some false := by simp [spinetref03_Holds.f, a1, a2, a3]
      simp [spinetlaw03_AluHolds.f, e1, e2, h0, a4, wakes_true]
    · obtain ⟨k, rfl⟩ : ∃ k : Fin 16, c = (k.val : Int) := ⟨⟨c.toNat, by omega⟩, by simp; omega⟩
      obtain ⟨b, e1, e2, e3⟩ := holds_in k N Z C V
      by_cases h7 : (k.val : Int) > 7
      · simp only [spinetlaw03_AluHolds.f, e1, e2, Option.bind_some]
        rw [if_pos (by simp), if_neg h0, if_pos h7, wakes_true]; rfl
      · simp only [spinetlaw03_AluHolds.f, e1, e2, e3 (by omega), Option.bind_some]
        rw [if_pos (by simp), if_neg h0, if_neg h7, if_pos (by cases b <;> rfl), wakes_true]; rfl

end Go.Proofs.Ytbcoanjgpebedaa.PureAluHolds
