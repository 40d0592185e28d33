/- The program's words of 32 bits, in plain numbers: no Go in sight. -/
import Derived.Test.YtjimcgmefpienaaPure12
import Derived.Test.YtjimcgmefpienaaFn12b
namespace Go.Proofs.Ytjimcgmefpienaa.Pure12
open Go.RowKit Go.Proofs.Ytjimcgmefpienaa.Plain Go.Proofs.Ytjimcgmefpienaa.PConstsCalls Go.Proofs.YtjimcgmefpienaaW.PrintWords Go.Proofs.YtjimcgmefpienaaW.PrintLast Go.Proofs.YtjimcgmefpienaaW.PrintMore
set_option linter.unusedVariables false
set_option linter.unusedSimpArgs false
theorem lsl_of (b n : Int) (n0 : 0 ≤ n) : bits_Lsl.f b n = some ((b * 2 ^ (n % 32).toNat) % 4294967296) := by
  have h0 : 0 ≤ n % 32 := by omega
  have e : min (n % 32).toNat 32 = (n % 32).toNat := by omega
  simp [bits_Lsl.f, tmod32 n0, h0, shl, IntKind.bits, e, IntKind.wrap_u32]
theorem asr_of (b n : Int) (n0 : 0 ≤ n) : bits_Asr.f b n = some ((wrap32 b / 2 ^ (n % 32).toNat) % 4294967296) := by
  have h0 : 0 ≤ n % 32 := by omega
  have e : min (n % 32).toNat 32 = (n % 32).toNat := by omega
  simp [bits_Asr.f, tmod32 n0, h0, shr, IntKind.bits, e]
theorem ror_of (b n : Int) (b0 : 0 ≤ b) (b1 : b < 4294967296) (n0 : 0 ≤ n) :
    bits_Ror.f b n = some (b / 2 ^ (n % 32).toNat + b % 2 ^ (n % 32).toNat * 2 ^ (32 - (n % 32).toNat)) := by
  have h0 : 0 ≤ n % 32 := by omega
  have h1 : n % 32 < 32 := by omega
  unfold bits_Ror.f bits_RotateLeft32.f
  rw [tmod32 n0, w64 (n := n % 32) (by omega) (by omega), w64 (n := -(n % 32)) (by omega) (by omega)]
  have e1 : Go.bits .and .u64 (IntKind.u64.wrap (-(n % 32))) 31 = (-(n % 32)) % 32 := by
    rw [IntKind.wrap_u64, and31 _ (by omega) (by omega)]; omega
  rw [e1]
  obtain ⟨m, hm⟩ : ∃ m : Nat, n % 32 = m := ⟨(n % 32).toNat, by omega⟩
  rw [hm, Int.toNat_natCast]
  by_cases hz : m = 0
  · subst hz
    have e2 : IntKind.u64.wrap 32 = 32 := by decide
    have e3 : b / 4294967296 = 0 := by omega
    have e4 := turn0 b b0 b1
    have e5 : b % 1 = 0 := by omega
    simp [e2, shl, shr, IntKind.bits, IntKind.wrap_u32, e3, e4, e5]
  · have e2 : (-(m : Int)) % 32 = ((32 - m : Nat) : Int) := by omega
    have e3 : IntKind.u64.wrap (32 - ((32 - m : Nat) : Int)) = (m : Int) := by rw [u64w (by omega) (by omega)]; omega
    have e4 : min m 32 = m := by omega
    have e5 : min (32 - m) 32 = 32 - m := by omega
    rw [e2, e3, if_pos (by omega), if_pos (by omega)]
    simp only [shl, shr, IntKind.bits, Int.toNat_natCast, e4, e5, IntKind.wrap_u32, turn b m (by omega) b0 b1, Option.bind_some]

theorem bits_u32 (o : BinOp) (x y : Int) : 0 ≤ Go.bits o .u32 x y ∧ Go.bits o .u32 x y < 4294967296 := by
  unfold Go.bits; rw [IntKind.wrap_u32]; omega

end Go.Proofs.Ytjimcgmefpienaa.Pure12
