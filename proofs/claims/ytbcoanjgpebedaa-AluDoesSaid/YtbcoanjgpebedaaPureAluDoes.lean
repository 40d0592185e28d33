/- The plain law of AluDoes: no Go in sight. What every operation of package alu tells of any words and flags is what the document's answer tells. -/
import Derived.Test.YtbcoanjgpebedaaAluA
import Derived.Test.YtbcoanjgpebedaaAluLawAluDoes
namespace Go.Proofs.Ytbcoanjgpebedaa.PureAluDoes
open Go.RowKit Go.Proofs.Ytbcoanjgpebedaa.Plain Go.Proofs.Ytbcoanjgpebedaa.PAluDoes Go.Proofs.Ytbcoanjgpebedaa.AluA Go.Proofs.YtbcoanjgpebedaaW.PrintWords Go.Proofs.YtbcoanjgpebedaaW.PrintLast Go.Proofs.YtbcoanjgpebedaaW.PrintMore
set_option linter.unusedVariables false
set_option linter.unusedSimpArgs false

/-! ### the document's answer -/
theorem signed_of (x : Int) (h0 : 0 ≤ x) (h1 : x < 4294967296) : spinetref01_Signed.f x = some (wrap32 x) := by
  unfold spinetref01_Signed.f
  rw [w64 (n := x) (by omega) (by omega), w64 (n := x - 4294967296) (by omega) (by omega), w32_of h0 h1]
  split <;> rfl
theorem word_of (v : Int) (h0 : -9223372036854775808 ≤ v) (h1 : v ≤ 9223372036854775807) : spinetref01_Word.f v = some (v % 4294967296) := by
  unfold spinetref01_Word.f
  have hf := floor_of v 4294967296 (by decide)
  have hr := tmod_bound v 4294967296 (by decide)
  rw [w64 (by omega) (by omega)]
  by_cases h : Int.tmod v 4294967296 < 0
  · rw [if_pos h, (hf.1 h).2]; congr 1; omega
  · rw [if_neg h, (hf.2 h).2]; congr 1; omega
theorem pow_l0 (m : Nat) (hm : m < 64) : ∀ (d k i : Nat), i + d = m → d < k → spinetref01_pow.l0 k m (2 ^ i) i = some (2 ^ m) := by
  intro d
  induction d with
  | zero =>
    intro k i hi hk
    obtain ⟨k, rfl⟩ : ∃ j, k = j + 1 := ⟨k - 1, by omega⟩
    simp only [spinetref01_pow.l0]
    rw [if_neg (by omega), show i = m by omega]
  | succ d ih =>
    intro k i hi hk
    obtain ⟨k, rfl⟩ : ∃ j, k = j + 1 := ⟨k - 1, by omega⟩
    simp only [spinetref01_pow.l0]
    have hp := pow_le' (i + 1) 63 (by omega)
    have hq := pow_pos' (i + 1)
    have e : ((2 : Int) ^ i * 2) = 2 ^ (i + 1) := (Int.pow_succ _ _).symm
    rw [if_pos (by omega), e, u64w (by omega) (by omega)]
    have := ih k (i + 1) (by omega) (by omega)
    rw [show (((i : Int) + 1) % 4294967296) = ((i + 1 : Nat) : Int) by omega]
    exact this
theorem pow_of (m : Nat) (hm : m < 39) : spinetref01_pow.f 39 m = some (2 ^ m) := pow_l0 m (by omega) m 39 0 (by omega) (by omega)
theorem pow_of' (n : Int) (h0 : 0 ≤ n) (h1 : n < 39) : spinetref01_pow.f 39 n = some (2 ^ n.toNat) := by
  have := pow_of n.toNat (by omega)
  rwa [show ((n.toNat : Nat) : Int) = n by omega] at this
theorem rlsl_of (b n : Int) (b0 : 0 ≤ b) (b1 : b < 4294967296) (n0 : 0 ≤ n) : spinetref01_Lsl.f 39 b n = some ((b * 2 ^ (n % 32).toNat) % 4294967296) := by
  unfold spinetref01_Lsl.f
  rw [tmod32 n0, pow_of' _ (by omega) (by omega)]
  have hp := pow_le' (n % 32).toNat 31 (by omega)
  have hq := pow_pos' (n % 32).toNat
  have e1 : IntKind.u64.wrap b = b := u64w (by omega) (by omega)
  have h1 : b * 2 ^ (n % 32).toNat ≤ 4294967295 * 2 ^ (n % 32).toNat := Int.mul_le_mul_of_nonneg_right (by omega) (by omega)
  have h2 : 0 ≤ b * 2 ^ (n % 32).toNat := Int.mul_nonneg b0 (by omega)
  simp only [Option.bind_some, e1]
  rw [u64w h2 (by omega), Int.tmod_eq_emod_of_nonneg h2]
  congr 1
  omega
theorem rasr_l0 (n : Int) (n0 : 0 ≤ n) : ∀ (d k : Nat) (s i : Int), -2147483648 ≤ s → s < 2147483648 → 0 ≤ i → i + d = n % 32 → d < k →
    spinetref01_Asr.l0 k (s % 4294967296) n i = some ((s / 2 ^ d) % 4294967296) := by
  intro d
  induction d with
  | zero =>
    intro k s i s0 s1 i0 hi hk
    obtain ⟨k, rfl⟩ : ∃ j, k = j + 1 := ⟨k - 1, by omega⟩
    simp only [spinetref01_Asr.l0]
    rw [tmod32 n0, if_neg (by omega)]
    simp
  | succ d ih =>
    intro k s i s0 s1 i0 hi hk
    obtain ⟨k, rfl⟩ : ∃ j, k = j + 1 := ⟨k - 1, by omega⟩
    simp only [spinetref01_Asr.l0]
    rw [tmod32 n0, if_pos (by omega), asr_step s s0 s1, show (i + 1) % 4294967296 = i + 1 by omega, ih k (s / 2) (i + 1) (by omega) (by omega) (by omega) (by omega) (by omega), div_pow]
theorem rasr_of (b n : Int) (b0 : 0 ≤ b) (b1 : b < 4294967296) (n0 : 0 ≤ n) : spinetref01_Asr.f 39 b n = some ((wrap32 b / 2 ^ (n % 32).toNat) % 4294967296) := by
  have h := w32b b
  have := rasr_l0 n n0 (n % 32).toNat 39 (wrap32 b) 0 h.1 h.2 (by omega) (by omega) (by omega)
  rwa [w32u b0 b1] at this
theorem rror_l0 (n : Int) (n0 : 0 ≤ n) : ∀ (d k : Nat) (x i : Int), 0 ≤ x → x < 4294967296 → 0 ≤ i → i + d = n % 32 → d < k →
    spinetref01_Ror.l0 k x n i = some (x / 2 ^ d + x % 2 ^ d * 2 ^ (32 - d)) := by
  intro d
  induction d with
  | zero =>
    intro k x i x0 x1 i0 hi hk
    obtain ⟨k, rfl⟩ : ∃ j, k = j + 1 := ⟨k - 1, by omega⟩
    simp only [spinetref01_Ror.l0]
    rw [tmod32 n0, if_neg (by omega)]
    have : x % 1 = 0 := by omega
    simp [this]
  | succ d ih =>
    intro k x i x0 x1 i0 hi hk
    obtain ⟨k, rfl⟩ : ∃ j, k = j + 1 := ⟨k - 1, by omega⟩
    simp only [spinetref01_Ror.l0]
    have e : ((Int.tdiv x 2) % 4294967296 + ((Int.tmod x 2) * 2147483648) % 4294967296) % 4294967296 = x / 2 + x % 2 * 2147483648 := by
      rw [Int.tdiv_eq_ediv_of_nonneg x0, Int.tmod_eq_emod_of_nonneg x0]; omega
    rw [tmod32 n0, if_pos (by omega), e, show (i + 1) % 4294967296 = i + 1 by omega, ih k _ (i + 1) (by omega) (by omega) (by omega) (by omega) (by omega), ror_step x d (by omega)]
theorem rror_of (b n : Int) (b0 : 0 ≤ b) (b1 : b < 4294967296) (n0 : 0 ≤ n) :
    spinetref01_Ror.f 39 b n = some (b / 2 ^ (n % 32).toNat + b % 2 ^ (n % 32).toNat * 2 ^ (32 - (n % 32).toNat)) :=
  rror_l0 n n0 (n % 32).toNat 39 b 0 b0 b1 (by omega) (by omega) (by omega)
theorem fits_of (v : Int) : spinetref01_Fits.f 39 v 32 = some (decide (v ≥ -2147483648) && decide (v < 2147483648)) := by
  have e : spinetref01_pow.f 39 (32 % 4294967296) = some 4294967296 := by
    have := pow_of 32 (by omega)
    simpa using this
  unfold spinetref01_Fits.f
  rw [if_neg (by decide), if_neg (by decide), e]
  simp only [Option.bind_some]
  rw [show wrap64 (-(wrap64 (Int.tdiv (wrap64 4294967296) 2))) = -2147483648 by decide +kernel, show wrap64 (Int.tdiv (wrap64 4294967296) 2) = 2147483648 by decide +kernel]
  by_cases h : v ≥ -2147483648
  · simp [h]
  · simp [h]
theorem rfloor_of (x y : Int) (hy : 0 < y) (h0 : -4611686018427387904 ≤ x) (h1 : x ≤ 4611686018427387904) (hy1 : y ≤ 4294967296) : spinetref03_floor.f x y = some (x / y) := by
  have hf := floor_of x y hy
  have ht := tdiv_bound x y 4611686018427387904 (by omega) (by omega) (by omega)
  have hr := tmod_bound x y hy
  have hm := tdiv_mul x y
  unfold spinetref03_floor.f
  rw [if_neg (by omega), w64 (n := Int.tdiv x y) (by omega) (by omega), Int.mul_comm, hm, w64 (n := x - Int.tmod x y) (by omega) (by omega), w64 (by omega) (by omega)]
  by_cases h : Int.tmod x y < 0
  · rw [if_pos (by omega), (hf.1 h).1]
  · rw [if_neg (by omega), (hf.2 h).1]
theorem rcarry_of (u N Z C V : Bool) : spinetref03_carry.f u N Z C V = some (carryOf u C) := by
  unfold spinetref03_carry.f carryOf
  split
  · split <;> rfl
  · rfl

theorem rdo_in (op b n h : Int) (u N Z C V : Bool) (h0 : 0 ≤ op) (h1 : op ≤ 11) (hu : u = true → op = 0 ∨ op = 8 ∨ op = 9 ∨ op = 10) :
    spinetref03_Do.f 40 op u b n h N Z C V = spinetref03_Do.j0 40 op u b n h false N Z C V := by
  have e1 : ¬ op < 0 := by omega
  have e2 : ¬ op > 11 := by omega
  cases u
  · simp [spinetref03_Do.f, e1, e2]
  · rcases hu rfl with rfl | rfl | rfl | rfl <;> simp [spinetref03_Do.f]

theorem rdo_out (op b n h : Int) (u N Z C V : Bool) (hn : op < 0 ∨ op > 11 ∨ u = true ∧ op ≠ 0 ∧ op ≠ 8 ∧ op ≠ 9 ∧ op ≠ 10) :
    spinetref03_Do.f 40 op u b n h N Z C V = some (0, 0, false, false, false, false, false) := by
  by_cases h0 : op < 0
  · simp [spinetref03_Do.f, h0, spinetref03_Do.j0]
  · by_cases h1 : op > 11
    · simp [spinetref03_Do.f, h0, h1, spinetref03_Do.j0]
    · obtain ⟨rfl, a, b, c, d⟩ : u = true ∧ op ≠ 0 ∧ op ≠ 8 ∧ op ≠ 9 ∧ op ≠ 10 := (hn.resolve_left h0).resolve_left h1
      simp [spinetref03_Do.f, h0, h1, a, b, c, d, spinetref03_Do.j0]

theorem do_out (op b n h : Int) (u N Z C V : Bool) (hn : op < 0 ∨ op > 11 ∨ u = true ∧ op ≠ 0 ∧ op ≠ 8 ∧ op ≠ 9 ∧ op ≠ 10) :
    alu_Do.f 40 op u b n h N Z C V = some (0, 0, false, false, false, false, false) := by
  by_cases h0 : op < 0
  · simp [alu_Do.f, h0, alu_Do.j0]
  · by_cases h1 : op > 11
    · simp [alu_Do.f, h0, h1, alu_Do.j0]
    · obtain ⟨rfl, a, b, c, d⟩ : u = true ∧ op ≠ 0 ∧ op ≠ 8 ∧ op ≠ 9 ∧ op ≠ 10 := (hn.resolve_left h0).resolve_left h1
      by_cases h8 : op < 8
      · simp [alu_Do.f, h0, h1, a, h8, alu_Do.j0]
      · have : op > 10 := by omega
        simp [alu_Do.f, h0, h1, a, h8, this, alu_Do.j0]

theorem both (op b n h : Int) (u N Z C V : Bool) (b0 : 0 ≤ b) (b1 : b < 4294967296) (n0 : 0 ≤ n) (n1 : n < 4294967296) (h0 : 0 ≤ h) (h1 : h < 4294967296) :
    ∃ t, alu_Do.f 40 op u b n h N Z C V = some t ∧ spinetref03_Do.f 40 op u b n h N Z C V = some t := by
  by_cases hn : op < 0 ∨ op > 11 ∨ u = true ∧ op ≠ 0 ∧ op ≠ 8 ∧ op ≠ 9 ∧ op ≠ 10
  · exact ⟨_, do_out op b n h u N Z C V hn, rdo_out op b n h u N Z C V hn⟩
  · have hlo : 0 ≤ op := by omega
    have hhi : op ≤ 11 := by omega
    have hu : u = true → op = 0 ∨ op = 8 ∨ op = 9 ∨ op = 10 := fun e => by subst e; simp only [true_and] at hn; omega
    have sb := signed_of b b0 b1
    have sn := signed_of n n0 n1
    have k1 := w32b b
    have k2 := w32b n
    have hc := carry01 u C
    have cs : op = 0 ∨ op = 1 ∨ op = 2 ∨ op = 3 ∨ op = 4 ∨ op = 5 ∨ op = 6 ∨ op = 7 ∨ op = 8 ∨ op = 9 ∨ op = 10 ∨ op = 11 := by omega
    rcases cs with rfl | rfl | rfl | rfl | rfl | rfl | rfl | rfl | rfl | rfl | rfl | rfl
    · refine ⟨_, do0 b n h u N Z C V n0 n1 h0 h1, ?_⟩
      rw [rdo_in 0 b n h u N Z C V hlo hhi hu]
      cases u <;> simp [spinetref03_Do.j0, sb, sn, res]
    · cases u
      · refine ⟨_, do1 b n h N Z C V n0, ?_⟩
        rw [rdo_in 1 b n h false N Z C V hlo hhi hu]
        simp [spinetref03_Do.j0, sb, sn, rlsl_of b n b0 b1 n0, res]
      · have := hu rfl; omega
    · cases u
      · refine ⟨_, do2 b n h N Z C V n0, ?_⟩
        rw [rdo_in 2 b n h false N Z C V hlo hhi hu]
        simp [spinetref03_Do.j0, sb, sn, rasr_of b n b0 b1 n0, res]
      · have := hu rfl; omega
    · cases u
      · refine ⟨_, do3 b n h N Z C V b0 b1 n0, ?_⟩
        rw [rdo_in 3 b n h false N Z C V hlo hhi hu]
        simp [spinetref03_Do.j0, sb, sn, rror_of b n b0 b1 n0, res]
      · have := hu rfl; omega
    · cases u
      · refine ⟨_, do4 b n h N Z C V, ?_⟩
        rw [rdo_in 4 b n h false N Z C V hlo hhi hu]
        simp [spinetref03_Do.j0, sb, sn, res]
      · have := hu rfl; omega
    · cases u
      · refine ⟨_, do5 b n h N Z C V, ?_⟩
        rw [rdo_in 5 b n h false N Z C V hlo hhi hu]
        simp [spinetref03_Do.j0, sb, sn, res]
      · have := hu rfl; omega
    · cases u
      · refine ⟨_, do6 b n h N Z C V, ?_⟩
        rw [rdo_in 6 b n h false N Z C V hlo hhi hu]
        simp [spinetref03_Do.j0, sb, sn, res]
      · have := hu rfl; omega
    · cases u
      · refine ⟨_, do7 b n h N Z C V, ?_⟩
        rw [rdo_in 7 b n h false N Z C V hlo hhi hu]
        simp [spinetref03_Do.j0, sb, sn, res]
      · have := hu rfl; omega
    · refine ⟨_, do8 b n h u N Z C V b0 b1 n0 n1, ?_⟩
      rw [rdo_in 8 b n h u N Z C V hlo hhi hu]
      have e1 : wrap64 (wrap64 (wrap64 b + wrap64 n) + carryOf u C) = b + n + carryOf u C := by
        rw [w64 (n := b) (by omega) (by omega), w64 (n := n) (by omega) (by omega), w64 (n := b + n) (by omega) (by omega), w64 (by omega) (by omega)]
      have e2 : wrap64 (wrap64 (wrap32 b + wrap32 n) + carryOf u C) = wrap32 b + wrap32 n + carryOf u C := by
        rw [w64 (n := wrap32 b + wrap32 n) (by omega) (by omega), w64 (by omega) (by omega)]
      simp [spinetref03_Do.j0, sb, sn, rcarry_of, e1, e2, word_of (b + n + carryOf u C) (by omega) (by omega), fits_of, res]
    · refine ⟨_, do9 b n h u N Z C V b0 b1 n0 n1, ?_⟩
      rw [rdo_in 9 b n h u N Z C V hlo hhi hu]
      have e1 : wrap64 (wrap64 (wrap64 b - wrap64 n) - carryOf u C) = b - n - carryOf u C := by
        rw [w64 (n := b) (by omega) (by omega), w64 (n := n) (by omega) (by omega), w64 (n := b - n) (by omega) (by omega), w64 (by omega) (by omega)]
      have e2 : wrap64 (wrap64 (wrap32 b - wrap32 n) - carryOf u C) = wrap32 b - wrap32 n - carryOf u C := by
        rw [w64 (n := wrap32 b - wrap32 n) (by omega) (by omega), w64 (by omega) (by omega)]
      have e3 : decide (b - n - carryOf u C < 0) = decide (b < n + carryOf u C) := by
        rw [Bool.eq_iff_iff]; simp; omega
      simp [spinetref03_Do.j0, sb, sn, rcarry_of, e1, e2, e3, word_of (b - n - carryOf u C) (by omega) (by omega), fits_of, res]
    · cases u
      · refine ⟨_, do10s b n h N Z C V, ?_⟩
        rw [rdo_in 10 b n h false N Z C V hlo hhi hu]
        have hm := mul_s (wrap32 b) (wrap32 n) k1.1 k1.2 k2.1 k2.2
        have e1 : wrap64 (wrap32 b * wrap32 n) = wrap32 b * wrap32 n := w64 (by omega) (by omega)
        have e2 := rfloor_of (wrap32 b * wrap32 n) 4294967296 (by decide) hm.1 hm.2 (by decide)
        simp [spinetref03_Do.j0, sb, sn, e1, e2, word_of (wrap32 b * wrap32 n) (by omega) (by omega), word_of (wrap32 b * wrap32 n / 4294967296) (by omega) (by omega), res]
      · refine ⟨_, do10u b n h N Z C V b0 b1 n0 n1, ?_⟩
        rw [rdo_in 10 b n h true N Z C V hlo hhi hu]
        have hm := mul_u b n b0 b1 n0 n1
        have e1 : IntKind.u64.wrap b = b := u64w (by omega) (by omega)
        have e2 : IntKind.u64.wrap n = n := u64w (by omega) (by omega)
        have e3 : IntKind.u64.wrap (b * n) = b * n := u64w (by omega) (by omega)
        have e4 : Int.tmod (b * n) 4294967296 % 4294967296 = b * n % 4294967296 := by rw [Int.tmod_eq_emod_of_nonneg hm.1]; omega
        have e5 : IntKind.u64.wrap (Int.tdiv (b * n) 4294967296) % 4294967296 = b * n / 4294967296 := by
          rw [Int.tdiv_eq_ediv_of_nonneg hm.1, u64w (by omega) (by omega)]; omega
        simp [spinetref03_Do.j0, sb, sn, e1, e2, e3, e4, e5, res]
    · cases u
      · by_cases hy : 0 < wrap32 n
        · refine ⟨_, do11 b n h N Z C V hy, ?_⟩
          rw [rdo_in 11 b n h false N Z C V hlo hhi hu]
          have hf := floor_of (wrap32 b) (wrap32 n) hy
          have ht := tdiv_bound (wrap32 b) (wrap32 n) 2147483648 (by omega) (by omega) (by omega)
          have e2 := rfloor_of (wrap32 b) (wrap32 n) hy (by omega) (by omega) (by omega)
          have e3 : wrap32 n * (wrap32 b / wrap32 n) + wrap32 b % wrap32 n = wrap32 b := Int.mul_ediv_add_emod _ _
          have m0 := Int.emod_nonneg (wrap32 b) (show wrap32 n ≠ 0 by omega)
          have m1 := Int.emod_lt_of_pos (wrap32 b) hy
          have q0 : -2147483649 ≤ wrap32 b / wrap32 n ∧ wrap32 b / wrap32 n ≤ 2147483648 := by
            by_cases h : Int.tmod (wrap32 b) (wrap32 n) < 0
            · have := (hf.1 h).1; omega
            · have := (hf.2 h).1; omega
          have e4 : wrap64 (wrap32 b - wrap64 (wrap32 b / wrap32 n * wrap32 n)) = wrap32 b % wrap32 n := by
            rw [Int.mul_comm (wrap32 b / wrap32 n), w64 (n := wrap32 n * (wrap32 b / wrap32 n)) (by omega) (by omega), w64 (by omega) (by omega)]; omega
          simp [spinetref03_Do.j0, sb, sn, hy, e2, e4, word_of (wrap32 b / wrap32 n) (by omega) (by omega), word_of (wrap32 b % wrap32 n) (by omega) (by omega), res]
        · refine ⟨_, do11no b n h N Z C V (by omega), ?_⟩
          rw [rdo_in 11 b n h false N Z C V hlo hhi hu]
          simp [spinetref03_Do.j0, sb, sn, hy, res]
      · have := hu rfl; omega

theorem same_self (a b c d : Bool) : spinetlaw03_same.f a b c d a b c d = some true := by
  cases a <;> cases b <;> cases c <;> cases d <;> rfl

theorem law (op b n h : Int) (u N Z C V : Bool) (b0 : 0 ≤ b) (b1 : b < 4294967296) (n0 : 0 ≤ n) (n1 : n < 4294967296) (h0 : 0 ≤ h) (h1 : h < 4294967296) :
    spinetlaw03_AluDoes.f 40 op u b n h N Z C V = some true := by
  obtain ⟨⟨r, h2, t1, t2, t3, t4, t5⟩, e1, e2⟩ := both op b n h u N Z C V b0 b1 n0 n1 h0 h1
  simp [spinetlaw03_AluDoes.f, e1, e2, same_self, wakes_true]

end Go.Proofs.Ytbcoanjgpebedaa.PureAluDoes
