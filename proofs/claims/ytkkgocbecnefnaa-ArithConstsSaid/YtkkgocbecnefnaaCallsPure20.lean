/- Standard functions of constant numbers against those of programs: no Go in sight. -/
import Derived.Test.YtkkgocbecnefnaaConstsPure20
namespace Go.Proofs.Ytkkgocbecnefnaa.CallsPure20
open Go.RowKit Go.Proofs.Ytkkgocbecnefnaa Go.Proofs.Ytkkgocbecnefnaa.Plain Go.Proofs.Ytkkgocbecnefnaa.Small Go.Proofs.Ytkkgocbecnefnaa.Nums Go.Proofs.Ytkkgocbecnefnaa.ConstsPure20 Go.Proofs.Ytkkgocbecnefnaa.PArithConsts Go.Proofs.YtkkgocbecnefnaaW.PrintWords Go.Proofs.YtkkgocbecnefnaaW.PrintLast Go.Proofs.YtkkgocbecnefnaaW.PrintMore
set_option linter.unusedVariables false
set_option linter.unusedSimpArgs false

theorem lsl_of (b n : Int) (n0 : 0 ≤ n) : bits_Lsl.f b n = some ((b * 2 ^ (n % 32).toNat) % 4294967296) := by
  have h0 : 0 ≤ n % 32 := by omega
  have e : min (n % 32).toNat 32 = (n % 32).toNat := by omega
  simp [bits_Lsl.f, tmod32 n0, h0, shl, IntKind.bits, e, IntKind.wrap_u32]
theorem asr_of (b n : Int) (n0 : 0 ≤ n) : bits_Asr.f b n = some ((wrap32 b / 2 ^ (n % 32).toNat) % 4294967296) := by
  have h0 : 0 ≤ n % 32 := by omega
  have e : min (n % 32).toNat 32 = (n % 32).toNat := by omega
  simp [bits_Asr.f, tmod32 n0, h0, shr, IntKind.bits, e]
theorem ror_of (b n : Int) (b0 : 0 ≤ b) (b1 : b < 4294967296) (n0 : 0 ≤ n) :
    bits_Ror.f b n = some (b / 2 ^ (n % 32).toNat + b % 2 ^ (n % 32).toNat * 2 ^ (32 - (n % 32).toNat)) := by
  have h0 : 0 ≤ n % 32 := by omega
  have h1 : n % 32 < 32 := by omega
  unfold bits_Ror.f bits_RotateLeft32.f
  rw [tmod32 n0, w64 (n := n % 32) (by omega) (by omega), w64 (n := -(n % 32)) (by omega) (by omega)]
  have e1 : Go.bits .and .u64 (IntKind.u64.wrap (-(n % 32))) 31 = (-(n % 32)) % 32 := by
    rw [IntKind.wrap_u64, and31 _ (by omega) (by omega)]; omega
  rw [e1]
  obtain ⟨m, hm⟩ : ∃ m : Nat, n % 32 = m := ⟨(n % 32).toNat, by omega⟩
  rw [hm, Int.toNat_natCast]
  by_cases hz : m = 0
  · subst hz
    have e2 : IntKind.u64.wrap 32 = 32 := by decide
    have e3 : b / 4294967296 = 0 := by omega
    have e4 := turn0 b b0 b1
    have e5 : b % 1 = 0 := by omega
    simp [e2, shl, shr, IntKind.bits, IntKind.wrap_u32, e3, e4, e5]
  · have e2 : (-(m : Int)) % 32 = ((32 - m : Nat) : Int) := by omega
    have e3 : IntKind.u64.wrap (32 - ((32 - m : Nat) : Int)) = (m : Int) := by rw [u64w (by omega) (by omega)]; omega
    have e4 : min m 32 = m := by omega
    have e5 : min (32 - m) 32 = 32 - m := by omega
    rw [e2, e3, if_pos (by omega), if_pos (by omega)]
    simp only [shl, shr, IntKind.bits, Int.toNat_natCast, e4, e5, IntKind.wrap_u32, turn b m (by omega) b0 b1, Option.bind_some]

theorem bits_u32 (o : BinOp) (x y : Int) : 0 ≤ Go.bits o .u32 x y ∧ Go.bits o .u32 x y < 4294967296 := by
  unfold Go.bits; rw [IntKind.wrap_u32]; omega

theorem odd_of (x : Int) (x0 : -9223372036854775808 ≤ x) (x1 : x ≤ 9223372036854775807) : Go.bits .and .i64 x 1 = x % 2 := by
  show IntKind.i64.wrap ((BitVec.ofInt 64 x &&& BitVec.ofInt 64 1).toNat : Int) = _
  have e1 : (BitVec.ofInt 64 1).toNat = 1 := by decide
  have e2 : ((BitVec.ofInt 64 x).toNat : Int) = x % 18446744073709551616 := by
    rw [BitVec.toNat_ofInt]
    omega
  rw [BitVec.toNat_and, e1, Nat.and_one_is_mod, IntKind.wrap_i64]
  omega
theorem signed_eq (x : Int) : bits_Signed.f x = some (wrap32 x) := by
  simp only [bits_Signed.f]; congr 1; exact w32w x
abbrev num (n : Int) : S42 := ⟨1, n, E0⟩
theorem good_num (k : Nat) (n : Int) : consts_Good.f k 1 n E0 = some (decide (-2147483648 ≤ n) && decide (n < 2147483648)) := by
  unfold consts_Good.f
  rw [if_neg (by decide), if_pos e0l, if_pos rfl, bits_Fits.at32]; rfl
/-- What the law asks of the second half. -/
def Second (s2 s4 k : Int) (known : Bool) : Prop := s4 ≠ 0 ∨ (known = true ∧ k = s2)
theorem call_num (k : Nat) (name : ByteArray) (a b : Int) (a0 : -2147483648 ≤ a) (a1 : a < 2147483648)
    (hs : name.toList ≠ [76, 83, 76] ∧ name.toList ≠ [65, 83, 82] ∧ name.toList ≠ [82, 79, 82]) :
    ∃ s1 s2 s4 m known, consts_call.f (k + 2) name 1 a E0 = some (s1, s2, E0, s4) ∧ arith_Call.f name a b = some (m, known) ∧ Second s2 s4 m known := by
  have e1 : wrap32 a = a := by unfold wrap32; omega
  have hw : ∀ v, bits_Word.f v = some (v % 4294967296) := fun v => rfl
  unfold consts_call.f arith_Call.f
  simp only [ConstsPure20.round_of, hw, Option.bind_some, e1, if_neg hs.1, if_neg hs.2.1, if_neg hs.2.2]
  by_cases hA : name.toList = [65, 66, 83]
  · simp only [if_pos hA, if_true]
    unfold consts_fits.f
    rw [bits_Fits.at32]
    have hx : mx a (wrap64 (-a)) = if a < -a then -a else a := by unfold mx; rw [w64 (by omega) (by omega)]
    rw [hx]
    by_cases hin : (decide (-2147483648 ≤ (if a < -a then -a else a)) && decide ((if a < -a then -a else a) < 2147483648)) = true
    · refine ⟨1, (if a < -a then -a else a), 0, _, true, ?_, rfl, Or.inr ⟨rfl, ?_⟩⟩
      · rw [hin]; simp [consts_number.f]
      · simp at hin
        generalize (if a < -a then -a else a) = z at *
        unfold wrap32; omega
    · have hin : (decide (-2147483648 ≤ (if a < -a then -a else a)) && decide ((if a < -a then -a else a) < 2147483648)) = false := by simpa using hin
      refine ⟨0, 0, 91, _, true, ?_, rfl, Or.inl (by decide)⟩
      rw [hin]; simp
  · simp only [if_neg hA]
    by_cases hO : name.toList = [79, 68, 68]
    · simp only [if_pos hO, if_true]
      refine ⟨2, tr (Go.bits .and .i64 a 1 == 1), 0, _, true, ?_, rfl, Or.inr ⟨rfl, ?_⟩⟩
      · cases (Go.bits .and .i64 a 1 == 1) <;> rfl
      · rw [odd_of a (by omega) (by omega)]
        have := Int.emod_two_eq a
        rcases this with h | h <;> rw [h] <;> rfl
    · simp only [if_neg hO]
      by_cases hC : name.toList = [67, 72, 82]
      · simp only [if_pos hC, if_true]
        by_cases h0 : a < 0
        · exact ⟨0, 0, 91, _, true, by rw [if_pos h0], rfl, Or.inl (by decide)⟩
        · by_cases h1 : a > 255
          · exact ⟨0, 0, 91, _, true, by rw [if_neg h0, if_pos h1], rfl, Or.inl (by decide)⟩
          · refine ⟨3, a, 0, _, true, by rw [if_neg h0, if_neg h1], rfl, Or.inr ⟨rfl, ?_⟩⟩
            show a % 256 = a
            omega
      · simp only [if_neg hC]
        by_cases hR : name.toList = [79, 82, 68]
        · simp only [if_pos hR]
          refine ⟨0, 0, 120, a, true, ?_, rfl, Or.inl (by decide)⟩
          simp [consts_char.f, consts_call.j0]
        · simp only [if_neg hR]
          exact ⟨0, 0, 120, 0, false, rfl, rfl, Or.inl (by decide)⟩
theorem l0_more (k : Nat) (name : ByteArray) (l : List S42) (n i a : Int) (hi : i < n) (h0 : 0 ≤ i) (hl : i < (l.length : Int)) (he : rd_T42 l i = num a) :
    consts_Call.l0 (k + 1) name l l n i = if (decide (-2147483648 ≤ a) && decide (a < 2147483648)) = true then consts_Call.l0 k name l l n (wrap64 (i + 1)) else some (0, 0, E0, 120) := by
  simp only [consts_Call.l0]
  rw [if_pos hi, if_pos h0, if_pos hl, he, good_num]
  rfl
theorem l0_end1 (k : Nat) (name : ByteArray) (a : Int) : consts_Call.l0 (k + 1) name [num a] [num a] 1 1 = (consts_call.f k name 1 a E0).bind fun bt => some (bt.1, bt.2.1, bt.2.2.1, bt.2.2.2) := by
  have e0 : rd_T42 [num a] 0 = num a := rfl
  have hl : (([num a] : List S42).length : Int) = 1 := rfl
  simp only [consts_Call.l0, hl, e0]
  rw [if_neg (by decide), if_pos trivial, if_pos (by decide)]
theorem l0_end2 (k : Nat) (name : ByteArray) (a b : Int) : consts_Call.l0 (k + 2) name [num a, num b] [num a, num b] 2 2 = (consts_shift.f name (a % 4294967296) (b % 4294967296)).bind fun bt => some (bt.1, bt.2.1, bt.2.2.1, bt.2.2.2) := by
  have e0 : rd_T42 [num a, num b] 0 = num a := rfl
  have e1 : rd_T42 [num a, num b] 1 = num b := rfl
  have hl : (([num a, num b] : List S42).length : Int) = 2 := rfl
  have hw : ∀ v, bits_Word.f v = some (v % 4294967296) := fun v => rfl
  simp only [consts_Call.l0, hl, e0, e1]
  rw [if_neg (by decide), if_neg (by decide), if_pos trivial, if_pos (by decide), if_pos trivial, if_pos (by decide)]
  simp only [consts_Call.j1, hl, e0, e1, hw, show ((1 : Int) == 1) = true from rfl, if_true, Option.bind_some, show (0 : Int) < 2 from by decide, show (1 : Int) < 2 from by decide]
/-- The values that the law hands on. -/
def args (name : ByteArray) (a b : Int) : List S42 := if name.toList = [76, 83, 76] ∨ name.toList = [65, 83, 82] ∨ name.toList = [82, 79, 82] then [num a, num b] else [num a]
theorem second_any (name : ByteArray) (a b : Int) (a0 : -9223372036854775808 ≤ a) (a9 : a ≤ 9223372036854775807) (b0 : -9223372036854775808 ≤ b) (b9 : b ≤ 9223372036854775807) :
    ∃ s1 s2 s4 m known, consts_Call.f 50 name (args name a b) = some (s1, s2, E0, s4) ∧ arith_Call.f name a b = some (m, known) ∧ Second s2 s4 m known := by
  have hw : ∀ v, bits_Word.f v = some (v % 4294967296) := fun v => rfl
  have hex : ∃ m known, arith_Call.f name a b = some (m, known) := by
    have kl := lsl_of (wrap32 a % 4294967296) (b % 4294967296) (by omega)
    have ka := asr_of (wrap32 a % 4294967296) (b % 4294967296) (by omega)
    have kr := ror_of (wrap32 a % 4294967296) (b % 4294967296) (by omega) (by omega) (by omega)
    unfold arith_Call.f
    simp only [ConstsPure20.round_of, hw, Option.bind_some, kl, ka, kr, signed_eq]
    repeat (split; · exact ⟨_, _, rfl⟩)
    exact ⟨_, _, rfl⟩
  unfold args
  by_cases hs : name.toList = [76, 83, 76] ∨ name.toList = [65, 83, 82] ∨ name.toList = [82, 79, 82]
  · rw [if_pos hs]
    have e0 : rd_T42 [num a, num b] 0 = num a := rfl
    have e1 : rd_T42 [num a, num b] 1 = num b := rfl
    have hl : (([num a, num b] : List S42).length : Int) = 2 := rfl
    have w1 : wrap64 (0 + 1) = 1 := by decide +kernel
    have w2 : wrap64 (1 + 1) = 2 := by decide +kernel
    have hlt : ¬ ((2 : Int) < 2) := by decide
    have h02 : (0 : Int) < 2 := by decide
    have h12 : (1 : Int) < 2 := by decide
    have h00 : (0 : Int) ≤ 0 := by decide
    have h01 : (0 : Int) ≤ 1 := by decide
    have n21 : ¬ ((2 : Int) = 1) := by decide
    by_cases hia : -2147483648 ≤ a ∧ a < 2147483648
    · have ga : (decide (-2147483648 ≤ a) && decide (a < 2147483648)) = true := by simp [hia.1, hia.2]
      by_cases hib : -2147483648 ≤ b ∧ b < 2147483648
      · have gb : (decide (-2147483648 ≤ b) && decide (b < 2147483648)) = true := by simp [hib.1, hib.2]
        have ew : wrap32 a = a := by unfold wrap32; omega
        have kl := lsl_of (a % 4294967296) (b % 4294967296) (by omega)
        have ka := asr_of (a % 4294967296) (b % 4294967296) (by omega)
        have kr := ror_of (a % 4294967296) (b % 4294967296) (by omega) (by omega) (by omega)
        have hC : consts_Call.f 50 name [num a, num b] = (consts_shift.f name (a % 4294967296) (b % 4294967296)).bind fun bt => some (bt.1, bt.2.1, bt.2.2.1, bt.2.2.2) := by
          unfold consts_Call.f
          rw [hl, l0_more 49 name [num a, num b] 2 0 a h02 h00 (by rw [hl]; exact h02) e0, if_pos ga, w1, l0_more 48 name [num a, num b] 2 1 b h12 h01 (by rw [hl]; exact h12) e1, if_pos gb, w2, l0_end2 46]
        rw [hC]
        unfold consts_shift.f arith_Call.f
        simp only [ConstsPure20.round_of, hw, Option.bind_some, ew, kl, ka, kr, signed_eq]
        rcases hs with h | h | h
        · have x1 : name.toList ≠ [65, 66, 83] := by rw [h]; decide
          have x2 : name.toList ≠ [79, 68, 68] := by rw [h]; decide
          simp only [if_pos h, if_neg x1, if_neg x2]
          exact ⟨1, _, 0, _, true, rfl, rfl, Or.inr ⟨rfl, rfl⟩⟩
        · have x1 : name.toList ≠ [65, 66, 83] := by rw [h]; decide
          have x2 : name.toList ≠ [79, 68, 68] := by rw [h]; decide
          have x3 : name.toList ≠ [76, 83, 76] := by rw [h]; decide
          simp only [if_pos h, if_neg x1, if_neg x2, if_neg x3]
          exact ⟨1, _, 0, _, true, rfl, rfl, Or.inr ⟨rfl, rfl⟩⟩
        · have x1 : name.toList ≠ [65, 66, 83] := by rw [h]; decide
          have x2 : name.toList ≠ [79, 68, 68] := by rw [h]; decide
          have x3 : name.toList ≠ [76, 83, 76] := by rw [h]; decide
          have x4 : name.toList ≠ [65, 83, 82] := by rw [h]; decide
          simp only [if_pos h, if_neg x1, if_neg x2, if_neg x3, if_neg x4]
          exact ⟨1, _, 0, _, true, rfl, rfl, Or.inr ⟨rfl, rfl⟩⟩
      · have gb : (decide (-2147483648 ≤ b) && decide (b < 2147483648)) = false := by simpa using hib
        obtain ⟨m, known, h2⟩ := hex
        refine ⟨0, 0, 120, m, known, ?_, h2, Or.inl (by decide)⟩
        unfold consts_Call.f
        rw [hl, l0_more 49 name [num a, num b] 2 0 a h02 h00 (by rw [hl]; exact h02) e0, if_pos ga, w1, l0_more 48 name [num a, num b] 2 1 b h12 h01 (by rw [hl]; exact h12) e1, if_neg (by rw [gb]; decide)]
    · have ga : (decide (-2147483648 ≤ a) && decide (a < 2147483648)) = false := by simpa using hia
      obtain ⟨m, known, h2⟩ := hex
      refine ⟨0, 0, 120, m, known, ?_, h2, Or.inl (by decide)⟩
      unfold consts_Call.f
      rw [hl, l0_more 49 name [num a, num b] 2 0 a h02 h00 (by rw [hl]; exact h02) e0, if_neg (by rw [ga]; decide)]
  · rw [if_neg hs]
    have hn : name.toList ≠ [76, 83, 76] ∧ name.toList ≠ [65, 83, 82] ∧ name.toList ≠ [82, 79, 82] := ⟨fun h => hs (Or.inl h), fun h => hs (Or.inr (Or.inl h)), fun h => hs (Or.inr (Or.inr h))⟩
    have e0 : rd_T42 [num a] 0 = num a := rfl
    have hl : (([num a] : List S42).length : Int) = 1 := rfl
    have w1 : wrap64 (0 + 1) = 1 := by decide +kernel
    have hlt : ¬ ((1 : Int) < 1) := by decide
    have h01 : (0 : Int) < 1 := by decide
    have h00 : (0 : Int) ≤ 0 := by decide
    by_cases hin : -2147483648 ≤ a ∧ a < 2147483648
    · obtain ⟨s1, s2, s4, m, known, h1, h2, h3⟩ := call_num 46 name a b hin.1 hin.2 hn
      refine ⟨s1, s2, s4, m, known, ?_, h2, h3⟩
      have hg : (decide (-2147483648 ≤ a) && decide (a < 2147483648)) = true := by simp [hin.1, hin.2]
      unfold consts_Call.f
      rw [hl, l0_more 49 name [num a] 1 0 a h01 h00 (by rw [hl]; exact h01) e0, if_pos hg, w1, l0_end1 48, h1]
      rfl
    · obtain ⟨m, known, h2⟩ := hex
      refine ⟨0, 0, 120, m, known, ?_, h2, Or.inl (by decide)⟩
      have hg : (decide (-2147483648 ≤ a) && decide (a < 2147483648)) = false := by simpa using hin
      unfold consts_Call.f
      rw [hl, l0_more 49 name [num a] 1 0 a h01 h00 (by rw [hl]; exact h01) e0, if_neg (by rw [hg]; decide)]
end Go.Proofs.Ytkkgocbecnefnaa.CallsPure20
