/- Plain facts on whole numbers: words of 32 bits, their shifts and turns, quotients that are rounded down. No program in sight. -/
import Derived.RowKit
import Derived.Laws.BitsLemmas
import Derived.Laws.Bits64
import Derived.Laws.Bits64b
import Derived.Laws.BitsAllLaws
namespace Go.Proofs.Ytkkgocbecnefnaa.Plain
open Go.RowKit

theorem w64 {n : Int} (h0 : -9223372036854775808 ≤ n) (h1 : n ≤ 9223372036854775807) : wrap64 n = n := by unfold wrap64; omega
theorem u64w {n : Int} (h0 : 0 ≤ n) (h1 : n < 18446744073709551616) : IntKind.u64.wrap n = n := by rw [IntKind.wrap_u64]; omega
theorem w32b (n : Int) : -2147483648 ≤ wrap32 n ∧ wrap32 n < 2147483648 := by unfold wrap32; omega
theorem w32w (n : Int) : wrap64 (wrap32 n) = wrap32 n := by have := w32b n; exact w64 (by omega) (by omega)
theorem w32_of {n : Int} (h0 : 0 ≤ n) (h1 : n < 4294967296) : wrap32 n = if n ≥ 2147483648 then n - 4294967296 else n := by
  unfold wrap32; split <;> omega
theorem w32u {n : Int} (h0 : 0 ≤ n) (h1 : n < 4294967296) : (wrap32 n) % 4294967296 = n := by unfold wrap32; omega

theorem pow_pos' (d : Nat) : (0 : Int) < 2 ^ d := Int.pow_pos (by decide)
theorem pow_le' (d e : Nat) (h : d ≤ e) : (2 : Int) ^ d ≤ 2 ^ e := by
  have := Nat.pow_le_pow_right (n := 2) (by decide) h
  exact_mod_cast this

theorem tmod32 {n : Int} (h0 : 0 ≤ n) : Int.tmod n 32 = n % 32 := Int.tmod_eq_emod_of_nonneg h0

/-! ### a move to the right with the sign -/
theorem asr_step (s : Int) (h0 : -2147483648 ≤ s) (h1 : s < 2147483648) :
    (((Int.tdiv (s % 4294967296) 2) % 4294967296) + ((((Int.tdiv (s % 4294967296) 2147483648) % 4294967296) * 2147483648) % 4294967296)) % 4294967296 = (s / 2) % 4294967296 := by
  rw [Int.tdiv_eq_ediv_of_nonneg (by omega), Int.tdiv_eq_ediv_of_nonneg (by omega)]
  omega

theorem div_pow (s : Int) (d : Nat) : s / 2 / 2 ^ d = s / 2 ^ (d + 1) := by
  rw [Int.ediv_ediv_of_nonneg (by decide), Int.pow_succ, Int.mul_comm 2]

/-! ### a turn to the right -/
theorem ror_step (x : Int) (d : Nat) (hd : d ≤ 31) :
    (x / 2 + x % 2 * 2147483648) / 2 ^ d + (x / 2 + x % 2 * 2147483648) % 2 ^ d * 2 ^ (32 - d) = x / 2 ^ (d + 1) + x % 2 ^ (d + 1) * 2 ^ (32 - (d + 1)) := by
  have hQ := pow_pos' d
  have e1 : (32 - d : Nat) = (32 - (d + 1)) + 1 := by omega
  have e3 : (2147483648 : Int) = 2 ^ (32 - (d + 1)) * 2 ^ d := by
    rw [← Int.pow_add, show 32 - (d + 1) + d = 31 by omega]; rfl
  have hdiv := div_pow x d
  have hmod : x % 2 ^ (d + 1) = 2 * (x / 2 % 2 ^ d) + x % 2 := by
    have a1 : x = 2 * (x / 2) + x % 2 := by omega
    have a2 : x / 2 = 2 ^ d * (x / 2 / 2 ^ d) + x / 2 % 2 ^ d := (Int.mul_ediv_add_emod _ _).symm
    have a3 : 0 ≤ x / 2 % 2 ^ d := Int.emod_nonneg _ (by omega)
    have a4 : x / 2 % 2 ^ d < 2 ^ d := Int.emod_lt_of_pos _ hQ
    have a5 : x = (2 * (x / 2 % 2 ^ d) + x % 2) + (x / 2 / 2 ^ d) * 2 ^ (d + 1) := by
      rw [Int.pow_succ]
      generalize x / 2 % 2 ^ d = r at *
      generalize (x / 2 / 2 ^ d) = t at *
      generalize (2 : Int) ^ d = Q at *
      grind
    conv => lhs; rw [a5]
    rw [Int.add_mul_emod_self_right]
    refine Int.emod_eq_of_lt (by omega) ?_
    rw [Int.pow_succ]; omega
  rw [← hdiv, hmod, e1, e3, Int.pow_succ]
  have b1 : x / 2 + x % 2 * (2 ^ (32 - (d + 1)) * 2 ^ d) = x / 2 + (x % 2 * 2 ^ (32 - (d + 1))) * 2 ^ d := by rw [Int.mul_assoc]
  rw [b1, Int.add_mul_ediv_right _ _ (by omega), Int.add_mul_emod_self_right]
  generalize x / 2 % 2 ^ d = r
  generalize x / 2 / 2 ^ d = t
  generalize (2 : Int) ^ (32 - (d + 1)) = P
  grind

theorem ror_bound (x : Int) (d : Nat) (hd : d ≤ 32) (h0 : 0 ≤ x) (h1 : x < 4294967296) :
    0 ≤ x / 2 ^ d + x % 2 ^ d * 2 ^ (32 - d) ∧ x / 2 ^ d + x % 2 ^ d * 2 ^ (32 - d) < 4294967296 := by
  have hQ := pow_pos' d
  have hP := pow_pos' (32 - d)
  have e : (4294967296 : Int) = 2 ^ (32 - d) * 2 ^ d := by
    rw [← Int.pow_add, show 32 - d + d = 32 by omega]; rfl
  have a1 : 0 ≤ x / 2 ^ d := Int.ediv_nonneg h0 (by omega)
  have a2 : x / 2 ^ d < 2 ^ (32 - d) := Int.ediv_lt_of_lt_mul hQ (by omega)
  have a3 : 0 ≤ x % 2 ^ d := Int.emod_nonneg _ (by omega)
  have a4 : x % 2 ^ d < 2 ^ d := Int.emod_lt_of_pos _ hQ
  have a5 : x % 2 ^ d * 2 ^ (32 - d) ≤ (2 ^ d - 1) * 2 ^ (32 - d) := Int.mul_le_mul_of_nonneg_right (by omega) (by omega)
  have a6 : 0 ≤ x % 2 ^ d * 2 ^ (32 - d) := Int.mul_nonneg a3 (by omega)
  refine ⟨by omega, ?_⟩
  rw [e]
  generalize (2 : Int) ^ (32 - d) = P at *
  generalize (2 : Int) ^ d = Q at *
  generalize x % Q * P = z at *
  grind

theorem u32_or_join (i : Nat) (hi : i ≤ 32) (x y : Int) (hx0 : 0 ≤ x) (hx : x % 2 ^ i = 0) (hx1 : x < 4294967296) (hy0 : 0 ≤ y) (hy : y < 2 ^ i) :
    Go.bits .or .u32 x y = x + y :=
  bits_join .u32 32 (by decide) (fun n h0 h1 => by rw [IntKind.wrap_u32]; omega) i x y hx0 hx (by omega) hy0 hy (by have := pow_le' i 32 hi; omega)

theorem u64_or_join (i : Nat) (hi : i ≤ 64) (x y : Int) (hx0 : 0 ≤ x) (hx : x % 2 ^ i = 0) (hx1 : x < 18446744073709551616) (hy0 : 0 ≤ y) (hy : y < 2 ^ i) :
    Go.bits .or .u64 x y = x + y :=
  bits_join .u64 64 (by decide) (fun n h0 h1 => by rw [IntKind.wrap_u64]; omega) i x y hx0 hx (by omega) hy0 hy (by have := pow_le' i 64 hi; omega)

/-- A turn to the left by 32 less m, as it is made of two moves. -/
theorem turn (b : Int) (m : Nat) (hm : m < 32) (h0 : 0 ≤ b) (h1 : b < 4294967296) :
    Go.bits .or .u32 ((b * 2 ^ (32 - m)) % 4294967296) (b / 2 ^ m) = b / 2 ^ m + b % 2 ^ m * 2 ^ (32 - m) := by
  have hQ := pow_pos' m
  have hP := pow_pos' (32 - m)
  have e : (4294967296 : Int) = 2 ^ m * 2 ^ (32 - m) := by
    rw [← Int.pow_add, show m + (32 - m) = 32 by omega]; rfl
  have e1 : (b * 2 ^ (32 - m)) % 4294967296 = b % 2 ^ m * 2 ^ (32 - m) := by
    rw [e, Int.mul_comm b, Int.mul_comm (2 ^ m), Int.mul_emod_mul_of_pos _ _ hP, Int.mul_comm]
  have a2 : b / 2 ^ m < 2 ^ (32 - m) := Int.ediv_lt_of_lt_mul hQ (by rw [Int.mul_comm, ← e]; exact h1)
  have hb := ror_bound b m (by omega) h0 h1
  rw [e1, u32_or_join (32 - m) (by omega) _ _ (Int.mul_nonneg (Int.emod_nonneg _ (by omega)) (by omega)) (Int.mul_emod_left _ _) ?_ (Int.ediv_nonneg h0 (by omega)) a2, Int.add_comm]
  · have : 0 ≤ b / 2 ^ m := Int.ediv_nonneg h0 (by omega)
    omega

theorem turn0 (b : Int) (h0 : 0 ≤ b) (h1 : b < 4294967296) : Go.bits .or .u32 (b % 4294967296) 0 = b := by
  rw [Int.emod_eq_of_lt h0 h1, u32_or_join 0 (by decide) b 0 h0 (by simp) h1 (by decide) (by decide)]
  omega

theorem and31 (x : Int) (h0 : 0 ≤ x) (h1 : x < 18446744073709551616) : Go.bits .and .u64 x 31 = x % 32 :=
  bits_mask .u64 64 (by decide) (fun n h0 h1 => by rw [IntKind.wrap_u64]; omega) 5 (by decide) x h0 (by omega)

/-! ### quotients that are rounded down -/
theorem floor_of (x y : Int) (hy : 0 < y) : (Int.tmod x y < 0 → x / y = Int.tdiv x y - 1 ∧ x % y = Int.tmod x y + y) ∧ (¬ Int.tmod x y < 0 → x / y = Int.tdiv x y ∧ x % y = Int.tmod x y) := by
  have h := Int.mul_tdiv_add_tmod x y
  have h2 : Int.tmod x y < y := Int.tmod_lt_of_pos x hy
  have h3 : -y < Int.tmod x y := by
    have := Int.lt_tmod_of_pos x hy
    exact this
  constructor
  · intro hn
    exact (Int.ediv_emod_unique hy).2 ⟨by rw [Int.mul_sub]; omega, by omega, by omega⟩
  · intro hn
    exact (Int.ediv_emod_unique hy).2 ⟨by omega, by omega, by omega⟩

theorem tdiv_bound (x y B : Int) (h0 : -B ≤ x) (h1 : x ≤ B) (hB : 0 ≤ B) : -B ≤ Int.tdiv x y ∧ Int.tdiv x y ≤ B := by
  have h := Int.natAbs_tdiv_le_natAbs x y
  omega

/-- The quotient times the divisor is near. -/
theorem tdiv_mul (x y : Int) : y * Int.tdiv x y = x - Int.tmod x y := by
  have := Int.mul_tdiv_add_tmod x y; omega

theorem tmod_bound (x y : Int) (hy : 0 < y) : -y < Int.tmod x y ∧ Int.tmod x y < y :=
  ⟨Int.lt_tmod_of_pos x hy, Int.tmod_lt_of_pos x hy⟩

end Go.Proofs.Ytkkgocbecnefnaa.Plain
