/- The law ArithCalls: both functions tell the same; walked. -/
import Derived.Test.YtkkgocbecnefnaaRef01Pure
import Derived.Test.YtkkgocbecnefnaaWakes
namespace Go.Proofs.Ytkkgocbecnefnaa.LawArithCalls
open Go.RowKit Go.Proofs.Ytkkgocbecnefnaa Go.Proofs.Ytkkgocbecnefnaa.Plain Go.Proofs.Ytkkgocbecnefnaa.PArithConsts Go.Proofs.Ytkkgocbecnefnaa.Ref01Pure Go.Proofs.Ytkkgocbecnefnaa.Wakes Go.Proofs.YtkkgocbecnefnaaW.PrintWords Go.Proofs.YtkkgocbecnefnaaW.PrintLast Go.Proofs.YtkkgocbecnefnaaW.PrintMore
set_option linter.unusedVariables false
set_option linter.unusedSimpArgs false

theorem odd_of (x : Int) (x0 : -9223372036854775808 ≤ x) (x1 : x ≤ 9223372036854775807) : Go.bits .and .i64 x 1 = x % 2 := by
  show IntKind.i64.wrap ((BitVec.ofInt 64 x &&& BitVec.ofInt 64 1).toNat : Int) = _
  have e1 : (BitVec.ofInt 64 1).toNat = 1 := by decide
  have e2 : ((BitVec.ofInt 64 x).toNat : Int) = x % 18446744073709551616 := by
    rw [BitVec.toNat_ofInt]
    omega
  rw [BitVec.toNat_and, e1, Nat.and_one_is_mod, IntKind.wrap_i64]
  omega

theorem signedf_of (x : Int) : bits_Signed.f x = some (wrap32 x) := by
  simp only [bits_Signed.f]; congr 1; exact w32w x

/-- Both tell the same of any numbers. -/
theorem call_both (s : ByteArray) (a b : Int) (a0 : -9223372036854775808 ≤ a) (a1 : a ≤ 9223372036854775807) (b0 : -9223372036854775808 ≤ b) (b1 : b ≤ 9223372036854775807) :
    ∃ n ok, arith_Call.f s a b = some (n, ok) ∧ spinetref20_Call.f 39 s a b = some (n, ok) := by
  have wa := word_of a a0 a1
  have wb := word_of b b0 b1
  have ka := w32b a
  have ea : wrap32 a % 4294967296 = a % 4294967296 := by unfold wrap32; omega
  have sa := signed_of (a % 4294967296) (by omega) (by omega)
  have es : wrap32 (a % 4294967296) = wrap32 a := by unfold wrap32; omega
  rw [es] at sa
  simp only [arith_Call.f, spinetref20_Call.f, round_of, bits_Word.f, wa, wb, sa, Option.bind_some, ea, signedf_of]
  by_cases h1 : s.toList = [65, 66, 83]
  · simp only [if_pos h1]
    have sm := signed_of ((-(a % 4294967296)) % 4294967296) (by omega) (by omega)
    by_cases hn : wrap32 a < 0
    · rw [if_pos hn, sm]
      refine ⟨_, _, rfl, ?_⟩
      simp only [Option.bind_some]
      congr 2
      unfold mx
      rw [w64 (by omega) (by omega), if_pos (by omega)]
      unfold wrap32 at *; omega
    · rw [if_neg hn]
      refine ⟨_, _, rfl, ?_⟩
      congr 2
      unfold mx
      rw [w64 (by omega) (by omega)]
      split
      · have : wrap32 a = 0 := by omega
        rw [this]; decide +kernel
      · have := w32b (wrap32 a)
        unfold wrap32 at *; omega
  · simp only [if_neg h1]
    by_cases h2 : s.toList = [79, 68, 68]
    · simp only [if_pos h2]
      refine ⟨_, _, rfl, ?_⟩
      congr 2
      rw [odd_of _ (by omega) (by omega), Int.tmod_eq_emod_of_nonneg (by omega), w64 (by omega) (by omega)]
      unfold wrap32 at *; omega
    · simp only [if_neg h2]
      have l0 : 0 ≤ a % 4294967296 ∧ a % 4294967296 < 4294967296 := by omega
      by_cases h3 : s.toList = [76, 83, 76]
      · simp only [if_pos h3]
        rw [lsl_of _ _ (by omega), rlsl_of _ _ l0.1 l0.2 (by omega)]
        simp only [Option.bind_some, signedf_of]
        rw [signed_of _ (by omega) (by omega)]
        exact ⟨_, _, rfl, rfl⟩
      · simp only [if_neg h3]
        by_cases h4 : s.toList = [65, 83, 82]
        · simp only [if_pos h4]
          rw [asr_of _ _ (by omega), rasr_of _ _ l0.1 l0.2 (by omega)]
          simp only [Option.bind_some, signedf_of]
          rw [signed_of _ (by omega) (by omega)]
          exact ⟨_, _, rfl, rfl⟩
        · simp only [if_neg h4]
          by_cases h5 : s.toList = [82, 79, 82]
          · simp only [if_pos h5]
            have hb := ror_bound (a % 4294967296) (b % 4294967296 % 32).toNat (by omega) l0.1 l0.2
            rw [ror_of _ _ l0.1 l0.2 (by omega), rror_of _ _ l0.1 l0.2 (by omega)]
            simp only [Option.bind_some, signedf_of]
            rw [signed_of _ hb.1 hb.2]
            exact ⟨_, _, rfl, rfl⟩
          · simp only [if_neg h5]
            by_cases h6 : s.toList = [67, 72, 82]
            · simp only [if_pos h6]
              refine ⟨_, _, rfl, ?_⟩
              congr 2
              rw [Int.tmod_eq_emod_of_nonneg (by omega), w64 (by omega) (by omega)]
              unfold wrap32 at *; omega
            · simp only [if_neg h6]
              by_cases h7 : s.toList = [79, 82, 68]
              · simp only [if_pos h7]
                exact ⟨_, _, rfl, rfl⟩
              · simp only [if_neg h7]
                exact ⟨_, _, rfl, rfl⟩

set_option maxRecDepth 100000 in
set_option maxHeartbeats 2000000 in
theorem walk (s : ByteArray) (a b : Int) (w : World) (a0 : -9223372036854775808 ≤ a) (a1 : a ≤ 9223372036854775807) (b0 : -9223372036854775808 ≤ b) (b1 : b ≤ 9223372036854775807) :
    Calls Try.prog 7 #[.string s, .int .i64 a, .int .i64 b] w fun e w' => e = .returned (.bool true) ∧ Below w.heap.size w w' := by
  obtain ⟨n, ok, R1, R2⟩ := call_both s a b a0 a1 b0 b1
  have P1 := Aside0.mk R1
  have P2 := Aside0.mk R2
  clear R1 R2 a0 a1 b0 b1
  go_enter Try.func7, Try.ntmps7
  go_wp2_with fail
  refine (arith_Call.calls s a b n ok _ P1.out).mono ?_
  rintro e w1 ⟨rfl, hb1⟩
  have G1 := Aside0.mk hb1
  clear hb1
  go_wp2_with fail
  refine (spinetref20_Call.calls 39 s a b n ok _ P2.out).mono ?_
  rintro e w2 ⟨rfl, n2, rfl⟩
  have G2 := Aside0.mk (pw_below_drewN G1.out n2)
  go_wp2_with fail
  refine (wakes_any _).mono ?_
  rintro e w5 ⟨rfl, hb5⟩
  have G5 := Aside0.mk (below_step G2.out hb5)
  clear hb5
  go_wp2_with fail
  go_ret
  exact ⟨rfl, G5.out⟩
end Go.Proofs.Ytkkgocbecnefnaa.LawArithCalls
