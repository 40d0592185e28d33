/- Sets of layer 20 in plain numbers: no Go in sight. -/
import Derived.Test.YtkkgocbecnefnaaRef01Pure
namespace Go.Proofs.Ytkkgocbecnefnaa.Ref01Pure
open Go.RowKit Go.Proofs.Ytkkgocbecnefnaa.Plain Go.Proofs.Ytkkgocbecnefnaa.PArithConsts Go.Proofs.YtkkgocbecnefnaaW.PrintWords Go.Proofs.YtkkgocbecnefnaaW.PrintLast Go.Proofs.YtkkgocbecnefnaaW.PrintMore
set_option linter.unusedVariables false
set_option linter.unusedSimpArgs false

theorem pow_any (m k : Nat) (hm : m < 64) (h : m < k) : spinetref01_pow.f k m = some (2 ^ m) := pow_l0 m hm m k 0 (by omega) h
theorem pow_any' (n : Int) (k : Nat) (h0 : 0 ≤ n) (h1 : n < 33) (hk : 33 < k) : spinetref01_pow.f k (n % 4294967296) = some (2 ^ n.toNat) := by
  have := pow_any n.toNat k (by omega) (by omega)
  rwa [show ((n.toNat : Nat) : Int) = n % 4294967296 by omega] at this
theorem may_1 (i : Int) (h0 : 0 ≤ i) (h1 : i < 32) : spinetref01_may.f i 1 = some true := by
  unfold spinetref01_may.f
  rw [if_pos (by omega), if_pos (by decide), if_pos (by omega), w64 (by omega) (by omega)]
  congr 1; exact decide_eq_true (by omega)
theorem get_1 (k : Nat) (w i : Int) (hk : 33 < k) (w0 : 0 ≤ w) (w1 : w < 4294967296) (h0 : 0 ≤ i) (h1 : i < 32) :
    spinetref01_Get.f k w i 1 = some (w / 2 ^ i.toNat % 2) := by
  have hp := pow_pos' i.toNat
  have e1 : (2 : Int) ^ (1 : Int).toNat = 2 := by decide
  have d0 : 0 ≤ w / 2 ^ i.toNat := Int.ediv_nonneg w0 (by omega)
  have d1 : w / 2 ^ i.toNat ≤ w := Int.ediv_le_self _ w0
  unfold spinetref01_Get.f
  rw [may_1 i h0 h1]
  simp only [Option.bind_some, if_true]
  rw [pow_any' i k h0 (by omega) hk, pow_any' 1 k (by decide) (by decide) hk, e1]
  simp only [Option.bind_some]
  rw [if_neg (by omega), if_neg (by decide), u64w w0 (by omega), Int.tdiv_eq_ediv_of_nonneg w0, u64w d0 (by omega), Int.tmod_eq_emod_of_nonneg d0]
  congr 1; omega
theorem put_1 (k : Nat) (w i : Int) (hk : 33 < k) (w0 : 0 ≤ w) (w1 : w < 2 ^ i.toNat) (h0 : 0 ≤ i) (h1 : i < 32) :
    spinetref01_Put.f k w i 1 1 = some (w + 2 ^ i.toNat) := by
  have hp := pow_pos' i.toNat
  have hq := pow_le' i.toNat 31 (by omega)
  have e1 : (2 : Int) ^ (1 : Int).toNat = 2 := by decide
  have e2 : IntKind.u64.wrap (IntKind.u64.wrap 0 * 2 ^ i.toNat) = 0 := by
    rw [show IntKind.u64.wrap 0 = 0 by decide, Int.zero_mul]; decide
  have e3 : Int.tmod (IntKind.u64.wrap 1) 2 = 1 := by decide
  unfold spinetref01_Put.f
  rw [may_1 i h0 h1]
  simp only [Option.bind_some, if_true]
  rw [get_1 k w i hk w0 (by omega) h0 h1, Int.ediv_eq_zero_of_lt w0 w1, pow_any' i k h0 (by omega) hk, pow_any' 1 k (by decide) (by decide) hk, e1]
  simp only [Option.bind_some]
  rw [if_neg (by decide), show (0 : Int) % 2 = 0 by decide, e2, e3, Int.one_mul, u64w w0 (by omega), u64w (n := 2 ^ i.toNat) (by omega) (by omega), Int.sub_zero, u64w w0 (by omega), u64w (by omega) (by omega)]
  congr 1; omega
theorem elem_both (n s : Int) (n0 : -9223372036854775808 ≤ n) (n1 : n ≤ 9223372036854775807) (s0 : 0 ≤ s) (s1 : s < 4294967296) :
    arith_Elem.f n s = some (s / 2 ^ (n % 32).toNat % 2 == 1) ∧ spinetref20_Elem.f 39 n s = some (s / 2 ^ (n % 32).toNat % 2 == 1) := by
  have h0 : 0 ≤ n % 32 := by omega
  have hw : IntKind.u64.wrap n = n % 18446744073709551616 := by rw [IntKind.wrap_u64]
  have ht : Int.tmod (n % 18446744073709551616) 32 = n % 32 := by rw [tmod32 (by omega)]; omega
  have ht2 : Int.tmod (n % 4294967296) 32 = n % 32 := by rw [tmod32 (by omega)]; omega
  have d0 : 0 ≤ s / 2 ^ (n % 32).toNat := Int.ediv_nonneg s0 (Int.le_of_lt (pow_pos' _))
  have d1 : s / 2 ^ (n % 32).toNat ≤ s := Int.ediv_le_self _ s0
  constructor
  · unfold arith_Elem.f
    rw [hw, ht, if_pos h0]
    have e : shr .u32 s (n % 32) = s / 2 ^ (n % 32).toNat := by
      simp only [shr, IntKind.bits]
      rw [show min (n % 32).toNat 32 = (n % 32).toNat by omega]
    rw [e]
    have := bits_mask .u32 32 (by decide) (fun n h0 h1 => by rw [IntKind.wrap_u32]; omega) 1 (by decide) (s / 2 ^ (n % 32).toNat) d0 (by omega)
    rw [show ((2 : Int) ^ 1 - 1) = 1 by decide, show ((2 : Int) ^ 1) = 2 by decide] at this
    rw [this]
  · unfold spinetref20_Elem.f
    rw [word_of n n0 n1]
    simp only [Option.bind_some]
    rw [ht2, w64 (by omega) (by omega), get_1 39 s (n % 32) (by decide) s0 s1 h0 (by omega)]
    rfl
theorem or_comm (x y : Int) : Go.bits .or .u32 x y = Go.bits .or .u32 y x := by
  show IntKind.u32.wrap _ = IntKind.u32.wrap _
  congr 3; exact BitVec.or_comm _ _
/-- All from one number on below another one, as a number. -/
def rng (A C : Nat) : Int := if C ≤ A then 0 else 2 ^ C - 2 ^ A
theorem rng_bound (A i : Nat) : 0 ≤ rng A i ∧ rng A i < 2 ^ i := by
  have h1 := pow_pos' i
  have h2 := pow_pos' A
  unfold rng
  by_cases h : i ≤ A
  · rw [if_pos h]
    exact ⟨Int.le_refl _, h1⟩
  · rw [if_neg h]
    have h3 := pow_le' A i (by omega)
    generalize (2 : Int) ^ i = x at *
    generalize (2 : Int) ^ A = y at *
    exact ⟨by omega, by omega⟩
theorem rng_step (A i : Nat) (h : A ≤ i) : rng A i + 2 ^ i = rng A (i + 1) := by
  have e : (2 : Int) ^ (i + 1) = 2 ^ i * 2 := Int.pow_succ _ _
  unfold rng
  rw [if_neg (show ¬ i + 1 ≤ A by omega), e]
  by_cases h2 : i ≤ A
  · obtain rfl : A = i := by omega
    rw [if_pos h2]
    omega
  · rw [if_neg h2]
    omega
theorem range_l0 (A : Nat) : ∀ (d k x : Nat), A ≤ x → x + d ≤ 32 → d < k → arith_Range.l0 k x ((x + d : Nat) - 1 : Int) (rng A x) = some (rng A (x + d)) := by
  intro d
  induction d with
  | zero =>
    intro k x h1 h2 h3
    obtain ⟨k, rfl⟩ : ∃ j, k = j + 1 := ⟨k - 1, by omega⟩
    simp only [arith_Range.l0]
    rw [if_neg (by omega)]; rfl
  | succ d ih =>
    intro k x h1 h2 h3
    obtain ⟨k, rfl⟩ : ∃ j, k = j + 1 := ⟨k - 1, by omega⟩
    have hb := rng_bound A x
    have hp := pow_le' x 31 (by omega)
    have hq := pow_pos' x
    simp only [arith_Range.l0]
    have e : shl .u32 1 x = 2 ^ x := by
      simp only [shl, IntKind.bits, Int.toNat_natCast, Int.one_mul]
      rw [show min x 32 = x by omega, IntKind.wrap_u32]; omega
    rw [if_pos (by omega), if_pos (by omega), w64 (by omega) (by omega), e, or_comm, u32_or_join x (by omega) (2 ^ x) (rng A x) (by omega) (by simp) (by omega) hb.1 hb.2, Int.add_comm (2 ^ x) (rng A x), rng_step A x h1]
    have := ih k (x + 1) (by omega) (by omega) (by omega)
    rwa [show ((x + 1 + d : Nat) - 1 : Int) = ((x + (d + 1) : Nat) - 1 : Int) by omega, show ((x + 1 : Nat) : Int) = (x : Int) + 1 by omega, show x + 1 + d = x + (d + 1) by omega] at this
theorem rrange_l0 (a b : Int) (a0 : -9223372036854775808 ≤ a) (a1 : a ≤ 9223372036854775807) (b0 : -9223372036854775808 ≤ b) (b1 : b ≤ 9223372036854775807)
    (A C : Nat) (hA : A = (max (wrap32 a) 0).toNat) (hC : C = (min (wrap32 b) 31 + 1).toNat) :
    ∀ (d k i : Nat), i + d = 32 → d + 34 < k → spinetref20_Range.l0 k a b (rng A (min i C)) i = some (rng A (min 32 C)) := by
  intro d
  induction d with
  | zero =>
    intro k i hi hk
    obtain ⟨k, rfl⟩ : ∃ j, k = j + 1 := ⟨k - 1, by omega⟩
    simp only [spinetref20_Range.l0]
    rw [if_neg (by omega), show i = 32 by omega]
  | succ d ih =>
    intro k i hi hk
    obtain ⟨k, rfl⟩ : ∃ j, k = j + 1 := ⟨k - 1, by omega⟩
    have ih' := ih k (i + 1) (by omega) (by omega)
    simp only [spinetref20_Range.l0]
    rw [if_pos (by omega), wrapf_of a a0 a1, wrapf_of b b0 b1]
    simp only [Option.bind_some]
    have ew : wrap64 ((i : Int) + 1) = ((i + 1 : Nat) : Int) := by rw [w64 (by omega) (by omega)]; omega
    by_cases h1 : (i : Int) ≥ wrap32 a
    · rw [if_pos h1]
      by_cases h2 : (i : Int) ≤ wrap32 b
      · rw [if_pos h2, show min i C = i by omega]
        have hb := rng_bound A i
        have hp := put_1 k (rng A i) i (by omega) hb.1 (by rw [Int.toNat_natCast]; exact hb.2) (by omega) (by omega)
        rw [Int.toNat_natCast, rng_step A i (by omega)] at hp
        rw [hp]
        simp only [Option.bind_some]
        rw [ew]
        rwa [show min (i + 1) C = i + 1 by omega] at ih'
      · rw [if_neg h2, ew]
        rwa [show min (i + 1) C = min i C by omega] at ih'
    · rw [if_neg h1, ew]
      have : rng A (min (i + 1) C) = rng A (min i C) := by unfold rng; rw [if_pos (by omega), if_pos (by omega)]
      rwa [this] at ih'
theorem range_both (a b : Int) (a0 : -9223372036854775808 ≤ a) (a1 : a ≤ 9223372036854775807) (b0 : -9223372036854775808 ≤ b) (b1 : b ≤ 9223372036854775807) :
    ∃ r, arith_Range.f 80 a b = some r ∧ spinetref20_Range.f 80 a b = some r := by
  have h1 := rrange_l0 a b a0 a1 b0 b1 _ _ rfl rfl 32 80 0 (by decide) (by decide)
  rw [show rng (max (wrap32 a) 0).toNat (min 0 (min (wrap32 b) 31 + 1).toNat) = 0 by unfold rng; rw [if_pos (by omega)]] at h1
  refine ⟨_, ?_, h1⟩
  have ka := w32b a
  have kb := w32b b
  unfold arith_Range.f
  rw [round_of, round_of]
  simp only [Option.bind_some]
  have em : mx (wrap32 a) 0 = max (wrap32 a) 0 := by unfold mx; split <;> omega
  have en : mn (wrap32 b) 31 = min (wrap32 b) 31 := by unfold mn; split <;> omega
  rw [em, en, show min 32 (min (wrap32 b) 31 + 1).toNat = (min (wrap32 b) 31 + 1).toNat by omega]
  by_cases h : max (wrap32 a) 0 ≤ min (wrap32 b) 31
  · have := range_l0 (max (wrap32 a) 0).toNat ((min (wrap32 b) 31 + 1).toNat - (max (wrap32 a) 0).toNat) 80 (max (wrap32 a) 0).toNat (by omega) (by omega) (by omega)
    rw [show rng (max (wrap32 a) 0).toNat (max (wrap32 a) 0).toNat = 0 by unfold rng; rw [if_pos (by omega)]] at this
    rw [show (max (wrap32 a) 0).toNat + ((min (wrap32 b) 31 + 1).toNat - (max (wrap32 a) 0).toNat) = (min (wrap32 b) 31 + 1).toNat by omega] at this
    rwa [show (((max (wrap32 a) 0).toNat : Nat) : Int) = max (wrap32 a) 0 by omega, show (((min (wrap32 b) 31 + 1).toNat : Nat) : Int) - 1 = min (wrap32 b) 31 by omega] at this
  · obtain ⟨k, hk⟩ : ∃ k, 80 = k + 1 := ⟨79, rfl⟩
    rw [hk]
    simp only [arith_Range.l0]
    rw [if_neg h]
    unfold rng
    rw [if_pos (by omega)]
theorem set_some (op : ByteArray) (a b : Int) : ∃ r ok, arith_Set.f op a b = some (r, ok) ∧ spinetref20_Set.f op a b = some (r, ok) := by
  have e : spinetref12_SetOp.f op a b = arith_Set.f op a b := rfl
  have : ∃ r ok, arith_Set.f op a b = some (r, ok) := by
    unfold arith_Set.f
    repeat (split; · exact ⟨_, _, rfl⟩)
    exact ⟨_, _, rfl⟩
  obtain ⟨r, ok, h⟩ := this
  exact ⟨r, ok, h, by unfold spinetref20_Set.f; rw [e, h]; rfl⟩

end Go.Proofs.Ytkkgocbecnefnaa.Ref01Pure
