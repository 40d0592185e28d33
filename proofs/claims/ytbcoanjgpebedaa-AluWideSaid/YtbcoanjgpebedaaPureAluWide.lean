/- The plain law of AluWide: no Go in sight. The two words of a product are the whole product, and sums of two words with their carry are sums of 64 bits. -/
import Derived.Test.YtbcoanjgpebedaaAluA
import Derived.Test.YtbcoanjgpebedaaAluLawAluWide
namespace Go.Proofs.Ytbcoanjgpebedaa.PureAluWide
open Go.RowKit Go.Proofs.Ytbcoanjgpebedaa.Plain Go.Proofs.Ytbcoanjgpebedaa.PAluDoes Go.Proofs.Ytbcoanjgpebedaa.AluA Go.Proofs.YtbcoanjgpebedaaW.PrintWords Go.Proofs.YtbcoanjgpebedaaW.PrintLast Go.Proofs.YtbcoanjgpebedaaW.PrintMore

theorem join (h l : Int) (h0 : 0 ≤ h) (h1 : h < 4294967296) (l0 : 0 ≤ l) (l1 : l < 4294967296) :
    Go.bits .or .u64 (IntKind.u64.wrap ((IntKind.u64.wrap h) * 4294967296)) (IntKind.u64.wrap l) = h * 4294967296 + l := by
  rw [u64w (n := h) h0 (by omega), u64w (n := h * 4294967296) (by omega) (by omega), u64w (n := l) l0 (by omega)]
  exact u64_or_join 32 (by decide) _ _ (by omega) (by omega) (by omega) l0 (by omega)

theorem up41 (op b n h : Int) (u N Z C V : Bool) : alu_Do.f 41 op u b n h N Z C V = alu_Do.f 40 op u b n h N Z C V := by
  simp only [alu_Do.f, alu_Do.j0, alu_Do.j1, alu_Do.j2]

theorem law (op b n h : Int) (u N Z C V : Bool) (b0 : 0 ≤ b) (b1 : b < 4294967296) (n0 : 0 ≤ n) (n1 : n < 4294967296) (h0 : 0 ≤ h) (h1 : h < 4294967296) :
    spinetlaw03_AluWide.f 41 op u b n h N Z C V = some true := by
  have e1 := do10u b n h N Z C V b0 b1 n0 n1
  have e2 := do10s b n h N Z C V
  have k1 := w32b b
  have k2 := w32b n
  have hm := mul_u b n b0 b1 n0 n1
  have hs := mul_s (wrap32 b) (wrap32 n) k1.1 k1.2 k2.1 k2.2
  have t1 : Go.bits .or .u64 (IntKind.u64.wrap ((IntKind.u64.wrap (b * n / 4294967296)) * 4294967296)) (IntKind.u64.wrap (b * n % 4294967296)) = IntKind.u64.wrap ((IntKind.u64.wrap b) * (IntKind.u64.wrap n)) := by
    rw [u64w (n := b) b0 (by omega), u64w (n := n) n0 (by omega), u64w (n := b * n) hm.1 (by omega), join _ _ (by omega) (by omega) (by omega) (by omega)]
    omega
  have t2 : wrap64 (Go.bits .or .u64 (IntKind.u64.wrap ((IntKind.u64.wrap (wrap32 b * wrap32 n / 4294967296 % 4294967296)) * 4294967296)) (IntKind.u64.wrap (wrap32 b * wrap32 n % 4294967296))) = wrap64 ((wrap64 (wrap32 b)) * (wrap64 (wrap32 n))) := by
    rw [w32w, w32w, join _ _ (by omega) (by omega) (by omega) (by omega)]
    generalize wrap32 b * wrap32 n = p at *
    unfold wrap64
    omega
  have e3 := do8 b n h false N Z C V b0 b1 n0 n1
  have hc : ∀ C, carryOf false C = 0 := fun _ => rfl
  have hc1 : ∀ C : Bool, carryOf true C = if C = true then 1 else 0 := fun _ => rfl
  rw [hc, Int.add_zero] at e3
  have a0 : 0 ≤ (b + n) % 4294967296 ∧ (b + n) % 4294967296 < 4294967296 := by omega
  simp only [spinetlaw03_AluWide.f, up41, e1, e2, res, Option.bind_some, t1, t2, bne_self_eq_false, if_true, spinetlaw03_AluWide.j0, e3]
  rw [if_neg (by decide)]
  have e4 := fun N Z V => do8 h b h true N Z (decide (b + n ≥ 4294967296)) V h0 h1 b0 b1
  simp only [e4, res, Option.bind_some]
  have e5 := fun N Z C V => do9 ((b + n) % 4294967296) n h false N Z C V a0.1 a0.2 n0 n1
  simp only [hc, Int.sub_zero, Int.add_zero] at e5
  simp only [e5, res, Option.bind_some, hc1]
  generalize hd : (h + b + if decide (b + n ≥ 4294967296) = true then 1 else 0) % 4294967296 = d
  have d0 : 0 ≤ d ∧ d < 4294967296 := by omega
  have e6 := fun N Z V => do9 d b h true N Z (decide ((b + n) % 4294967296 < n)) V d0.1 d0.2 b0 b1
  simp only [e6, res, Option.bind_some, hc1, wakes_true]
  simp only [decide_eq_true_eq] at hd ⊢
  rw [if_pos, if_pos, if_pos]
  · split at hd <;> split <;> omega
  · omega
  · rw [join d _ d0.1 d0.2 a0.1 a0.2, join h b h0 h1 b0 b1, join b n b0 b1 n0 n1, IntKind.wrap_u64]
    split at hd <;> omega

end Go.Proofs.Ytbcoanjgpebedaa.PureAluWide
