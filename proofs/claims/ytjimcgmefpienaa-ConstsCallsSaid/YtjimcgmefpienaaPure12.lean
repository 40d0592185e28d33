/- The document's words of 32 bits, in plain numbers: no Go in sight. -/
import Derived.Test.YtjimcgmefpienaaRef12a
namespace Go.Proofs.Ytjimcgmefpienaa.Pure12
open Go.RowKit Go.Proofs.Ytjimcgmefpienaa.Plain Go.Proofs.Ytjimcgmefpienaa.PConstsCalls Go.Proofs.YtjimcgmefpienaaW.PrintWords Go.Proofs.YtjimcgmefpienaaW.PrintLast Go.Proofs.YtjimcgmefpienaaW.PrintMore
set_option linter.unusedVariables false
set_option linter.unusedSimpArgs false
/-! ### the document's answer -/
theorem signed_of (x : Int) (h0 : 0 ≤ x) (h1 : x < 4294967296) : spinetref01_Signed.f x = some (wrap32 x) := by
  unfold spinetref01_Signed.f
  rw [w64 (n := x) (by omega) (by omega), w64 (n := x - 4294967296) (by omega) (by omega), w32_of h0 h1]
  split <;> rfl
theorem word_of (v : Int) (h0 : -9223372036854775808 ≤ v) (h1 : v ≤ 9223372036854775807) : spinetref01_Word.f v = some (v % 4294967296) := by
  unfold spinetref01_Word.f
  have hf := floor_of v 4294967296 (by decide)
  have hr := tmod_bound v 4294967296 (by decide)
  rw [w64 (by omega) (by omega)]
  by_cases h : Int.tmod v 4294967296 < 0
  · rw [if_pos h, (hf.1 h).2]; congr 1; omega
  · rw [if_neg h, (hf.2 h).2]; congr 1; omega
theorem pow_l0 (m : Nat) (hm : m < 64) : ∀ (d k i : Nat), i + d = m → d < k → spinetref01_pow.l0 k m (2 ^ i) i = some (2 ^ m) := by
  intro d
  induction d with
  | zero =>
    intro k i hi hk
    obtain ⟨k, rfl⟩ : ∃ j, k = j + 1 := ⟨k - 1, by omega⟩
    simp only [spinetref01_pow.l0]
    rw [if_neg (by omega), show i = m by omega]
  | succ d ih =>
    intro k i hi hk
    obtain ⟨k, rfl⟩ : ∃ j, k = j + 1 := ⟨k - 1, by omega⟩
    simp only [spinetref01_pow.l0]
    have hp := pow_le' (i + 1) 63 (by omega)
    have hq := pow_pos' (i + 1)
    have e : ((2 : Int) ^ i * 2) = 2 ^ (i + 1) := (Int.pow_succ _ _).symm
    rw [if_pos (by omega), e, u64w (by omega) (by omega)]
    have := ih k (i + 1) (by omega) (by omega)
    rw [show (((i : Int) + 1) % 4294967296) = ((i + 1 : Nat) : Int) by omega]
    exact this
theorem pow_of (m : Nat) (hm : m < 39) : spinetref01_pow.f 39 m = some (2 ^ m) := pow_l0 m (by omega) m 39 0 (by omega) (by omega)
theorem pow_of' (n : Int) (h0 : 0 ≤ n) (h1 : n < 39) : spinetref01_pow.f 39 n = some (2 ^ n.toNat) := by
  have := pow_of n.toNat (by omega)
  rwa [show ((n.toNat : Nat) : Int) = n by omega] at this
theorem rlsl_of (b n : Int) (b0 : 0 ≤ b) (b1 : b < 4294967296) (n0 : 0 ≤ n) : spinetref01_Lsl.f 39 b n = some ((b * 2 ^ (n % 32).toNat) % 4294967296) := by
  unfold spinetref01_Lsl.f
  rw [tmod32 n0, pow_of' _ (by omega) (by omega)]
  have hp := pow_le' (n % 32).toNat 31 (by omega)
  have hq := pow_pos' (n % 32).toNat
  have e1 : IntKind.u64.wrap b = b := u64w (by omega) (by omega)
  have h1 : b * 2 ^ (n % 32).toNat ≤ 4294967295 * 2 ^ (n % 32).toNat := Int.mul_le_mul_of_nonneg_right (by omega) (by omega)
  have h2 : 0 ≤ b * 2 ^ (n % 32).toNat := Int.mul_nonneg b0 (by omega)
  simp only [Option.bind_some, e1]
  rw [u64w h2 (by omega), Int.tmod_eq_emod_of_nonneg h2]
  congr 1
  omega
theorem rasr_l0 (n : Int) (n0 : 0 ≤ n) : ∀ (d k : Nat) (s i : Int), -2147483648 ≤ s → s < 2147483648 → 0 ≤ i → i + d = n % 32 → d < k →
    spinetref01_Asr.l0 k (s % 4294967296) n i = some ((s / 2 ^ d) % 4294967296) := by
  intro d
  induction d with
  | zero =>
    intro k s i s0 s1 i0 hi hk
    obtain ⟨k, rfl⟩ : ∃ j, k = j + 1 := ⟨k - 1, by omega⟩
    simp only [spinetref01_Asr.l0]
    rw [tmod32 n0, if_neg (by omega)]
    simp
  | succ d ih =>
    intro k s i s0 s1 i0 hi hk
    obtain ⟨k, rfl⟩ : ∃ j, k = j + 1 := ⟨k - 1, by omega⟩
    simp only [spinetref01_Asr.l0]
    rw [tmod32 n0, if_pos (by omega), asr_step s s0 s1, show (i + 1) % 4294967296 = i + 1 by omega, ih k (s / 2) (i + 1) (by omega) (by omega) (by omega) (by omega) (by omega), div_pow]
theorem rasr_of (b n : Int) (b0 : 0 ≤ b) (b1 : b < 4294967296) (n0 : 0 ≤ n) : spinetref01_Asr.f 39 b n = some ((wrap32 b / 2 ^ (n % 32).toNat) % 4294967296) := by
  have h := w32b b
  have := rasr_l0 n n0 (n % 32).toNat 39 (wrap32 b) 0 h.1 h.2 (by omega) (by omega) (by omega)
  rwa [w32u b0 b1] at this
theorem rror_l0 (n : Int) (n0 : 0 ≤ n) : ∀ (d k : Nat) (x i : Int), 0 ≤ x → x < 4294967296 → 0 ≤ i → i + d = n % 32 → d < k →
    spinetref01_Ror.l0 k x n i = some (x / 2 ^ d + x % 2 ^ d * 2 ^ (32 - d)) := by
  intro d
  induction d with
  | zero =>
    intro k x i x0 x1 i0 hi hk
    obtain ⟨k, rfl⟩ : ∃ j, k = j + 1 := ⟨k - 1, by omega⟩
    simp only [spinetref01_Ror.l0]
    rw [tmod32 n0, if_neg (by omega)]
    have : x % 1 = 0 := by omega
    simp [this]
  | succ d ih =>
    intro k x i x0 x1 i0 hi hk
    obtain ⟨k, rfl⟩ : ∃ j, k = j + 1 := ⟨k - 1, by omega⟩
    simp only [spinetref01_Ror.l0]
    have e : ((Int.tdiv x 2) % 4294967296 + ((Int.tmod x 2) * 2147483648) % 4294967296) % 4294967296 = x / 2 + x % 2 * 2147483648 := by
      rw [Int.tdiv_eq_ediv_of_nonneg x0, Int.tmod_eq_emod_of_nonneg x0]; omega
    rw [tmod32 n0, if_pos (by omega), e, show (i + 1) % 4294967296 = i + 1 by omega, ih k _ (i + 1) (by omega) (by omega) (by omega) (by omega) (by omega), ror_step x d (by omega)]
theorem rror_of (b n : Int) (b0 : 0 ≤ b) (b1 : b < 4294967296) (n0 : 0 ≤ n) :
    spinetref01_Ror.f 39 b n = some (b / 2 ^ (n % 32).toNat + b % 2 ^ (n % 32).toNat * 2 ^ (32 - (n % 32).toNat)) :=
  rror_l0 n n0 (n % 32).toNat 39 b 0 b0 b1 (by omega) (by omega) (by omega)
theorem fits_of (v : Int) : spinetref01_Fits.f 39 v 32 = some (decide (v ≥ -2147483648) && decide (v < 2147483648)) := by
  have e : spinetref01_pow.f 39 (32 % 4294967296) = some 4294967296 := by
    have := pow_of 32 (by omega)
    simpa using this
  unfold spinetref01_Fits.f
  rw [if_neg (by decide), if_neg (by decide), e]
  simp only [Option.bind_some]
  rw [show wrap64 (-(wrap64 (Int.tdiv (wrap64 4294967296) 2))) = -2147483648 by decide +kernel, show wrap64 (Int.tdiv (wrap64 4294967296) 2) = 2147483648 by decide +kernel]
  by_cases h : v ≥ -2147483648
  · simp [h]
  · simp [h]
theorem rfloor_of (x y : Int) (hy : 0 < y) (h0 : -4611686018427387904 ≤ x) (h1 : x ≤ 4611686018427387904) (hy1 : y ≤ 4294967296) : spinetref03_floor.f x y = some (x / y) := by
  have hf := floor_of x y hy
  have ht := tdiv_bound x y 4611686018427387904 (by omega) (by omega) (by omega)
  have hr := tmod_bound x y hy
  have hm := tdiv_mul x y
  unfold spinetref03_floor.f
  rw [if_neg (by omega), w64 (n := Int.tdiv x y) (by omega) (by omega), Int.mul_comm, hm, w64 (n := x - Int.tmod x y) (by omega) (by omega), w64 (by omega) (by omega)]
  by_cases h : Int.tmod x y < 0
  · rw [if_pos (by omega), (hf.1 h).1]
  · rw [if_neg (by omega), (hf.2 h).1]

theorem pow_any (m k : Nat) (hm : m < 64) (h : m < k) : spinetref01_pow.f k m = some (2 ^ m) := pow_l0 m hm m k 0 (by omega) h
theorem pow_any' (n : Int) (k : Nat) (h0 : 0 ≤ n) (h1 : n < 33) (hk : 33 < k) : spinetref01_pow.f k (n % 4294967296) = some (2 ^ n.toNat) := by
  have := pow_any n.toNat k (by omega) (by omega)
  rwa [show ((n.toNat : Nat) : Int) = n % 4294967296 by omega] at this
theorem may_1 (i : Int) (h0 : 0 ≤ i) (h1 : i < 32) : spinetref01_may.f i 1 = some true := by
  unfold spinetref01_may.f
  rw [if_pos (by omega), if_pos (by decide), if_pos (by omega), w64 (by omega) (by omega)]
  congr 1; exact decide_eq_true (by omega)
theorem get_1 (k : Nat) (w i : Int) (hk : 33 < k) (w0 : 0 ≤ w) (w1 : w < 4294967296) (h0 : 0 ≤ i) (h1 : i < 32) :
    spinetref01_Get.f k w i 1 = some (w / 2 ^ i.toNat % 2) := by
  have hp := pow_pos' i.toNat
  have e1 : (2 : Int) ^ (1 : Int).toNat = 2 := by decide
  have d0 : 0 ≤ w / 2 ^ i.toNat := Int.ediv_nonneg w0 (by omega)
  have d1 : w / 2 ^ i.toNat ≤ w := Int.ediv_le_self _ w0
  unfold spinetref01_Get.f
  rw [may_1 i h0 h1]
  simp only [Option.bind_some, if_true]
  rw [pow_any' i k h0 (by omega) hk, pow_any' 1 k (by decide) (by decide) hk, e1]
  simp only [Option.bind_some]
  rw [if_neg (by omega), if_neg (by decide), u64w w0 (by omega), Int.tdiv_eq_ediv_of_nonneg w0, u64w d0 (by omega), Int.tmod_eq_emod_of_nonneg d0]
  congr 1; omega
end Go.Proofs.Ytjimcgmefpienaa.Pure12
