/- The plain law of AluLogic: no Go in sight. -/
import Derived.Test.YtbcoanjgpebedaaAluA
namespace Go.Proofs.Ytbcoanjgpebedaa.PureAluLogic
open Go.RowKit Go.Proofs.Ytbcoanjgpebedaa.Plain Go.Proofs.Ytbcoanjgpebedaa.PAluDoes Go.Proofs.Ytbcoanjgpebedaa.AluA Go.Proofs.YtbcoanjgpebedaaW.PrintWords Go.Proofs.YtbcoanjgpebedaaW.PrintLast Go.Proofs.YtbcoanjgpebedaaW.PrintMore

theorem nat_of (x : Int) (h0 : 0 ≤ x) (h1 : x < 4294967296) : ∃ a : Nat, x = a ∧ a < 4294967296 := ⟨x.toNat, by omega, by omega⟩
theorem ofInt32 (a : Nat) (ha : a < 4294967296) : (BitVec.ofInt 32 (a : Int)).toNat = a := by
  rw [BitVec.ofInt_natCast, BitVec.toNat_ofNat]; exact Nat.mod_eq_of_lt (by omega)
theorem and_nat (a b : Nat) (ha : a < 4294967296) (hb : b < 4294967296) : Go.bits .and .u32 (a : Int) (b : Int) = ((a &&& b : Nat) : Int) := by
  have hx : a &&& b < 2 ^ 32 := Nat.and_lt_two_pow _ (by omega)
  show IntKind.u32.wrap ((BitVec.ofInt 32 (a : Int) &&& BitVec.ofInt 32 (b : Int)).toNat : Int) = _
  rw [BitVec.toNat_and, ofInt32 a ha, ofInt32 b hb, IntKind.wrap_u32]; omega
theorem or_nat (a b : Nat) (ha : a < 4294967296) (hb : b < 4294967296) : Go.bits .or .u32 (a : Int) (b : Int) = ((a ||| b : Nat) : Int) := by
  have hx : a ||| b < 2 ^ 32 := Nat.or_lt_two_pow (by omega) (by omega)
  show IntKind.u32.wrap ((BitVec.ofInt 32 (a : Int) ||| BitVec.ofInt 32 (b : Int)).toNat : Int) = _
  rw [BitVec.toNat_or, ofInt32 a ha, ofInt32 b hb, IntKind.wrap_u32]; omega
theorem xor_nat (a b : Nat) (ha : a < 4294967296) (hb : b < 4294967296) : Go.bits .xor .u32 (a : Int) (b : Int) = ((a ^^^ b : Nat) : Int) := by
  have hx : a ^^^ b < 2 ^ 32 := Nat.xor_lt_two_pow (by omega) (by omega)
  show IntKind.u32.wrap ((BitVec.ofInt 32 (a : Int) ^^^ BitVec.ofInt 32 (b : Int)).toNat : Int) = _
  rw [BitVec.toNat_xor, ofInt32 a ha, ofInt32 b hb, IntKind.wrap_u32]; omega
theorem andNot_nat (a b : Nat) (ha : a < 4294967296) (hb : b < 4294967296) : Go.bits .andNot .u32 (a : Int) (b : Int) = ((a &&& (4294967295 - b) : Nat) : Int) := by
  have hx : a &&& (4294967295 - b) < 2 ^ 32 := Nat.and_lt_two_pow _ (by omega)
  show IntKind.u32.wrap ((BitVec.ofInt 32 (a : Int) &&& ~~~BitVec.ofInt 32 (b : Int)).toNat : Int) = _
  rw [BitVec.toNat_and, BitVec.toNat_not, ofInt32 a ha, ofInt32 b hb, IntKind.wrap_u32]
  have e : 2 ^ 32 - 1 - b = 4294967295 - b := by omega
  rw [e]; omega

theorem test_not (b i : Nat) (hb : b < 4294967296) : (4294967295 - b).testBit i = (decide (i < 32) && !b.testBit i) := by
  have := Nat.testBit_two_pow_sub_succ (x := b) (n := 32) (by omega) i
  rw [show 2 ^ 32 - (b + 1) = 4294967295 - b by omega] at this
  exact this
theorem test_hi (b i : Nat) (hb : b < 4294967296) (hi : ¬ i < 32) : b.testBit i = false := by
  apply Nat.testBit_lt_two_pow
  have := Nat.pow_le_pow_right (n := 2) (by decide) (show 32 ≤ i by omega)
  omega

/-- And, together with both unlike, is or; both unlike of and-not and and is the first; and-not and the second share nothing. -/
theorem logic (b n : Int) (b0 : 0 ≤ b) (b1 : b < 4294967296) (n0 : 0 ≤ n) (n1 : n < 4294967296) :
    Go.bits .or .u32 (Go.bits .and .u32 b n) (Go.bits .xor .u32 b n) = Go.bits .or .u32 b n ∧
    Go.bits .xor .u32 (Go.bits .and .u32 b n) (Go.bits .andNot .u32 b n) = b ∧ Go.bits .and .u32 (Go.bits .andNot .u32 b n) n = 0 := by
  obtain ⟨a, rfl, ha⟩ := nat_of b b0 b1
  obtain ⟨c, rfl, hc⟩ := nat_of n n0 n1
  have x1 : a &&& c < 4294967296 := Nat.and_lt_two_pow (n := 32) _ (by omega)
  have x2 : a ^^^ c < 4294967296 := Nat.xor_lt_two_pow (n := 32) (by omega) (by omega)
  have x3 : a &&& (4294967295 - c) < 4294967296 := Nat.and_lt_two_pow (n := 32) _ (by omega)
  rw [and_nat a c ha hc, xor_nat a c ha hc, or_nat a c ha hc, andNot_nat a c ha hc, or_nat _ _ x1 x2, xor_nat _ _ x1 x3, and_nat _ _ x3 hc]
  refine ⟨?_, ?_, ?_⟩
  · congr 1
    apply Nat.eq_of_testBit_eq
    intro i
    simp only [Nat.testBit_or, Nat.testBit_and, Nat.testBit_xor]
    cases a.testBit i <;> cases c.testBit i <;> rfl
  · congr 1
    apply Nat.eq_of_testBit_eq
    intro i
    simp only [Nat.testBit_and, Nat.testBit_xor, test_not c i hc]
    by_cases hi : i < 32
    · simp only [decide_eq_true hi]; cases a.testBit i <;> cases c.testBit i <;> rfl
    · rw [test_hi a i ha hi]; rfl
  · rw [show (0 : Int) = ((0 : Nat) : Int) from rfl]
    congr 1
    apply Nat.eq_of_testBit_eq
    intro i
    simp only [Nat.testBit_and, test_not c i hc, Nat.zero_testBit]
    by_cases hi : i < 32
    · simp only [decide_eq_true hi]; cases a.testBit i <;> cases c.testBit i <;> rfl
    · simp [hi]

end Go.Proofs.Ytbcoanjgpebedaa.PureAluLogic
