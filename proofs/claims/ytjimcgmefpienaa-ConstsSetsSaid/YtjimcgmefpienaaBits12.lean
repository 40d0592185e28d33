/- Words of 32 bits, bit by bit: no Go in sight. -/
import Derived.Test.YtjimcgmefpienaaConstsSet
namespace Go.Proofs.Ytjimcgmefpienaa.Bits12
open Go.RowKit Go.Proofs.Ytjimcgmefpienaa.Plain Go.Proofs.Ytjimcgmefpienaa.Small Go.Proofs.YtjimcgmefpienaaW.PrintWords Go.Proofs.YtjimcgmefpienaaW.PrintLast Go.Proofs.YtjimcgmefpienaaW.PrintMore
set_option linter.unusedVariables false
set_option linter.unusedSimpArgs false

theorem nat_of (x : Int) (h0 : 0 ≤ x) (h1 : x < 4294967296) : ∃ a : Nat, x = a ∧ a < 4294967296 := ⟨x.toNat, by omega, by omega⟩
theorem ofInt32 (a : Nat) (ha : a < 4294967296) : (BitVec.ofInt 32 (a : Int)).toNat = a := by
  rw [BitVec.ofInt_natCast, BitVec.toNat_ofNat]; exact Nat.mod_eq_of_lt (by omega)
theorem and_nat (a b : Nat) (ha : a < 4294967296) (hb : b < 4294967296) : Go.bits .and .u32 (a : Int) (b : Int) = ((a &&& b : Nat) : Int) := by
  have hx : a &&& b < 2 ^ 32 := Nat.and_lt_two_pow _ (by omega)
  show IntKind.u32.wrap ((BitVec.ofInt 32 (a : Int) &&& BitVec.ofInt 32 (b : Int)).toNat : Int) = _
  rw [BitVec.toNat_and, ofInt32 a ha, ofInt32 b hb, IntKind.wrap_u32]; omega
theorem or_nat (a b : Nat) (ha : a < 4294967296) (hb : b < 4294967296) : Go.bits .or .u32 (a : Int) (b : Int) = ((a ||| b : Nat) : Int) := by
  have hx : a ||| b < 2 ^ 32 := Nat.or_lt_two_pow (by omega) (by omega)
  show IntKind.u32.wrap ((BitVec.ofInt 32 (a : Int) ||| BitVec.ofInt 32 (b : Int)).toNat : Int) = _
  rw [BitVec.toNat_or, ofInt32 a ha, ofInt32 b hb, IntKind.wrap_u32]; omega
theorem xor_nat (a b : Nat) (ha : a < 4294967296) (hb : b < 4294967296) : Go.bits .xor .u32 (a : Int) (b : Int) = ((a ^^^ b : Nat) : Int) := by
  have hx : a ^^^ b < 2 ^ 32 := Nat.xor_lt_two_pow (by omega) (by omega)
  show IntKind.u32.wrap ((BitVec.ofInt 32 (a : Int) ^^^ BitVec.ofInt 32 (b : Int)).toNat : Int) = _
  rw [BitVec.toNat_xor, ofInt32 a ha, ofInt32 b hb, IntKind.wrap_u32]; omega
theorem andNot_nat (a b : Nat) (ha : a < 4294967296) (hb : b < 4294967296) : Go.bits .andNot .u32 (a : Int) (b : Int) = ((a &&& (4294967295 - b) : Nat) : Int) := by
  have hx : a &&& (4294967295 - b) < 2 ^ 32 := Nat.and_lt_two_pow _ (by omega)
  show IntKind.u32.wrap ((BitVec.ofInt 32 (a : Int) &&& ~~~BitVec.ofInt 32 (b : Int)).toNat : Int) = _
  rw [BitVec.toNat_and, BitVec.toNat_not, ofInt32 a ha, ofInt32 b hb, IntKind.wrap_u32]
  have e : 2 ^ 32 - 1 - b = 4294967295 - b := by omega
  rw [e]; omega

theorem test_not (b i : Nat) (hb : b < 4294967296) : (4294967295 - b).testBit i = (decide (i < 32) && !b.testBit i) := by
  have := Nat.testBit_two_pow_sub_succ (x := b) (n := 32) (by omega) i
  rw [show 2 ^ 32 - (b + 1) = 4294967295 - b by omega] at this
  exact this
theorem test_hi (b i : Nat) (hb : b < 4294967296) (hi : ¬ i < 32) : b.testBit i = false := by
  apply Nat.testBit_lt_two_pow
  have := Nat.pow_le_pow_right (n := 2) (by decide) (show 32 ≤ i by omega)
  omega
theorem bits_lt (o : BinOp) (x y : Int) : 0 ≤ Go.bits o .u32 x y ∧ Go.bits o .u32 x y < 4294967296 := by
  unfold Go.bits; rw [IntKind.wrap_u32]; omega
theorem xor_nat_all (a : Nat) (ha : a < 4294967296) : 4294967295 ^^^ a = 4294967295 - a := by
  apply Nat.eq_of_testBit_eq
  intro i
  rw [Nat.testBit_xor, test_not a i ha]
  have h := Nat.testBit_two_pow_sub_one 32 i
  rw [show 2 ^ 32 - 1 = 4294967295 by decide] at h
  rw [h]
  by_cases hi : i < 32
  · simp only [decide_eq_true hi]; cases a.testBit i <;> rfl
  · simp only [decide_eq_false hi, test_hi a i ha hi]; rfl
theorem xor_all (n : Int) (h0 : 0 ≤ n) (h1 : n < 4294967296) : Go.bits .xor .u32 IntKind.u32.max n = 4294967295 - n := by
  obtain ⟨a, rfl, ha⟩ := nat_of n h0 h1
  have := xor_nat 4294967295 a (by decide) ha
  rw [xor_nat_all a ha] at this
  rw [show IntKind.u32.max = ((4294967295 : Nat) : Int) by decide, this]
  omega
theorem alg1 (x y : Int) (x0 : 0 ≤ x) (x1 : x < 4294967296) (y0 : 0 ≤ y) (y1 : y < 4294967296) : Go.bits .and .u32 x (4294967295 - y) = Go.bits .andNot .u32 x y := by
  obtain ⟨a, rfl, ha⟩ := nat_of x x0 x1
  obtain ⟨c, rfl, hc⟩ := nat_of y y0 y1
  rw [andNot_nat a c ha hc, show (4294967295 : Int) - (c : Int) = ((4294967295 - c : Nat) : Int) by omega, and_nat a _ ha (by omega)]
theorem alg2 (x y : Int) (x0 : 0 ≤ x) (x1 : x < 4294967296) (y0 : 0 ≤ y) (y1 : y < 4294967296) : Go.bits .or .u32 (Go.bits .andNot .u32 x y) (Go.bits .andNot .u32 y x) = Go.bits .xor .u32 x y := by
  obtain ⟨a, rfl, ha⟩ := nat_of x x0 x1
  obtain ⟨c, rfl, hc⟩ := nat_of y y0 y1
  have x2 : a &&& (4294967295 - c) < 4294967296 := Nat.and_lt_two_pow (n := 32) _ (by omega)
  have x3 : c &&& (4294967295 - a) < 4294967296 := Nat.and_lt_two_pow (n := 32) _ (by omega)
  rw [andNot_nat a c ha hc, andNot_nat c a hc ha, or_nat _ _ x2 x3, xor_nat a c ha hc]
  congr 1
  apply Nat.eq_of_testBit_eq
  intro i
  simp only [Nat.testBit_or, Nat.testBit_and, Nat.testBit_xor, test_not c i hc, test_not a i ha]
  by_cases hi : i < 32
  · simp only [decide_eq_true hi]; cases a.testBit i <;> cases c.testBit i <;> rfl
  · rw [test_hi a i ha hi, test_hi c i hc hi]; rfl
theorem and_pow (a m : Nat) : a &&& 2 ^ m = if a.testBit m then 2 ^ m else 0 := by
  apply Nat.eq_of_testBit_eq
  intro i
  rw [Nat.testBit_and, Nat.testBit_two_pow]
  by_cases h : m = i
  · subst h
    cases hb : a.testBit m <;> simp [Nat.testBit_two_pow]
  · cases hb : a.testBit m <;> simp [h, Nat.testBit_two_pow]
/-- One element, as a set. -/
theorem one_bit (m : Nat) (hm : m < 32) : SetOf.setR [((m : Int), (m : Int))] 0 = (4, ((2 ^ m : Nat) : Int), 0) := by
  have hp : 2 ^ m < 4294967296 := Nat.pow_lt_pow_right (n := 32) (by decide) hm
  have e1 : shl .u32 1 (m : Int) = ((2 ^ m : Nat) : Int) := by
    unfold shl
    rw [IntKind.wrap_u32, Int.toNat_natCast, Nat.min_eq_left (by simp [IntKind.bits]; omega), Int.one_mul, show ((2 : Int) ^ m) = ((2 ^ m : Nat) : Int) from (Int.natCast_pow 2 m).symm]
    exact Int.emod_eq_of_lt (Int.natCast_nonneg _) (Int.ofNat_lt.2 hp)
  have e2 : ((m : Int) + 1 - (m : Int)).toNat = 1 := by omega
  unfold SetOf.setR
  rw [if_neg (by unfold mn mx; rw [if_neg (by omega)]; omega), e2]
  simp only [SetOf.orF, SetOf.setR, e1]
  have := or_nat 0 (2 ^ m) (by decide) hp
  rw [Nat.zero_or] at this
  rw [show (0 : Int) = ((0 : Nat) : Int) from rfl, this]
theorem mem_both (m a : Nat) (hm : m < 32) (ha : a < 4294967296) :
    (Go.bits .and .u32 ((a : Int) % 4294967296 / 2 ^ ((m : Int)).toNat) 1 == 1) = (Go.bits .and .u32 ((2 ^ m : Nat) : Int) (a : Int) != 0) := by
  have hp : 2 ^ m < 4294967296 := Nat.pow_lt_pow_right (n := 32) (by decide) hm
  have hd : a / 2 ^ m < 4294967296 := Nat.lt_of_le_of_lt (Nat.div_le_self _ _) ha
  have e1 : (a : Int) % 4294967296 / 2 ^ ((m : Int)).toNat = ((a / 2 ^ m : Nat) : Int) := by
    rw [Int.emod_eq_of_lt (by omega) (by omega), Int.toNat_natCast]; simp
  have e2 := and_nat (a / 2 ^ m) 1 hd (by decide)
  rw [e1, show (1 : Int) = ((1 : Nat) : Int) from rfl, e2, and_nat (2 ^ m) a hp ha, Nat.and_one_is_mod, Nat.and_comm, and_pow]
  have hp0 : 0 < 2 ^ m := Nat.pos_of_ne_zero (by simp)
  rw [Nat.testBit_eq_decide_div_mod_eq]
  by_cases h : a / 2 ^ m % 2 = 1
  · rw [h]
    simp
    exact Int.ne_of_gt (Int.pow_pos (by decide))
  · have h0 : a / 2 ^ m % 2 = 0 := by omega
    rw [h0]
    simp
end Go.Proofs.Ytjimcgmefpienaa.Bits12
