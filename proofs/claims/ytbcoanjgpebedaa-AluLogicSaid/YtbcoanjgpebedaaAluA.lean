/- What package alu's Do tells, operation by operation, in plain numbers: no Go in sight. -/
import Derived.Test.YtbcoanjgpebedaaPlain
import Derived.Test.YtbcoanjgpebedaaAluHold
namespace Go.Proofs.Ytbcoanjgpebedaa.AluA
open Go.RowKit Go.Proofs.Ytbcoanjgpebedaa.Plain Go.Proofs.Ytbcoanjgpebedaa.PAluDoes Go.Proofs.YtbcoanjgpebedaaW.PrintWords Go.Proofs.YtbcoanjgpebedaaW.PrintLast Go.Proofs.YtbcoanjgpebedaaW.PrintMore

/-! ### alu_Do, operation by operation -/
def carryOf (u C : Bool) : Int := if u = true then (if C = true then 1 else 0) else 0
theorem carry01 (u C : Bool) : 0 ≤ carryOf u C ∧ carryOf u C ≤ 1 := by unfold carryOf; split <;> (try split) <;> omega

theorem do_in (op b n h : Int) (u N Z C V : Bool) (h0 : 0 ≤ op) (h1 : op ≤ 11) (hu : u = true → op = 0 ∨ op = 8 ∨ op = 9 ∨ op = 10) :
    alu_Do.f 40 op u b n h N Z C V = alu_Do.j2 38 op u b n h 0 (carryOf u C) N Z C V := by
  have e1 : ¬ op < 0 := by omega
  have e2 : ¬ op > 11 := by omega
  cases u
  · simp [alu_Do.f, e1, e2, alu_Do.j0, alu_Do.j1, carryOf]
  · rcases hu rfl with rfl | rfl | rfl | rfl <;> cases C <;> simp [alu_Do.f, alu_Do.j0, alu_Do.j1, carryOf]

theorem top_of {r : Int} (h0 : 0 ≤ r) (h1 : r < 4294967296) : (r / 2147483648 == 1) = decide (r ≥ 2147483648) := by
  rw [Bool.eq_iff_iff]; simp; omega

theorem over_of {a : Int} (h0 : -9223372036854775808 ≤ a) (h1 : a ≤ 9223372036854775807) : alu_over.f a = some (!(decide (a ≥ -2147483648) && decide (a < 2147483648))) := by
  unfold alu_over.f
  congr 1
  rw [w32w, Bool.eq_iff_iff]
  simp
  unfold wrap32
  omega

def res (r h : Int) (C V : Bool) : Int × Int × Bool × Bool × Bool × Bool × Bool := (r, h, decide (r ≥ 2147483648), r == 0, C, V, true)

theorem do8 (b n h : Int) (u N Z C V : Bool) (b0 : 0 ≤ b) (b1 : b < 4294967296) (n0 : 0 ≤ n) (n1 : n < 4294967296) :
    alu_Do.f 40 8 u b n h N Z C V = some (res ((b + n + carryOf u C) % 4294967296) h (decide (b + n + carryOf u C ≥ 4294967296)) (!(decide (wrap32 b + wrap32 n + carryOf u C ≥ -2147483648) && decide (wrap32 b + wrap32 n + carryOf u C < 2147483648)))) := by
  rw [do_in 8 b n h u N Z C V (by decide) (by decide) (fun _ => by simp)]
  have hc := carry01 u C
  generalize carryOf u C = c at *
  have k1 := w32b b
  have k2 := w32b n
  have e1 : wrap64 (wrap64 (wrap64 (wrap32 b) + wrap64 (wrap32 n)) + wrap64 c) = wrap32 b + wrap32 n + c := by
    rw [w32w, w32w, w64 (n := c) (by omega) (by omega), w64 (n := wrap32 b + wrap32 n) (by omega) (by omega), w64 (by omega) (by omega)]
  have e2 : IntKind.u64.wrap (IntKind.u64.wrap (IntKind.u64.wrap b + IntKind.u64.wrap n) + IntKind.u64.wrap c) = b + n + c := by
    rw [u64w (n := b) (by omega) (by omega), u64w (n := n) (by omega) (by omega), u64w (n := c) (by omega) (by omega), u64w (n := b + n) (by omega) (by omega), u64w (by omega) (by omega)]
  have e3 : ((b + n) % 4294967296 + c) % 4294967296 = (b + n + c) % 4294967296 := by omega
  have e4 : 0 ≤ (b + n + c) % 4294967296 ∧ (b + n + c) % 4294967296 < 4294967296 := by omega
  simp [alu_Do.j2, e1, e2, e3, over_of (a := wrap32 b + wrap32 n + c) (by omega) (by omega), top_of e4.1 e4.2, res]

theorem do9 (b n h : Int) (u N Z C V : Bool) (b0 : 0 ≤ b) (b1 : b < 4294967296) (n0 : 0 ≤ n) (n1 : n < 4294967296) :
    alu_Do.f 40 9 u b n h N Z C V = some (res ((b - n - carryOf u C) % 4294967296) h (decide (b < n + carryOf u C)) (!(decide (wrap32 b - wrap32 n - carryOf u C ≥ -2147483648) && decide (wrap32 b - wrap32 n - carryOf u C < 2147483648)))) := by
  rw [do_in 9 b n h u N Z C V (by decide) (by decide) (fun _ => by simp)]
  have hc := carry01 u C
  generalize carryOf u C = c at *
  have k1 := w32b b
  have k2 := w32b n
  have e1 : wrap64 (wrap64 (wrap64 (wrap32 b) - wrap64 (wrap32 n)) - wrap64 c) = wrap32 b - wrap32 n - c := by
    rw [w32w, w32w, w64 (n := c) (by omega) (by omega), w64 (n := wrap32 b - wrap32 n) (by omega) (by omega), w64 (by omega) (by omega)]
  have e2 : IntKind.u64.wrap (IntKind.u64.wrap n + IntKind.u64.wrap c) = n + c := by
    rw [u64w (n := n) (by omega) (by omega), u64w (n := c) (by omega) (by omega), u64w (by omega) (by omega)]
  have e5 : IntKind.u64.wrap b = b := u64w (by omega) (by omega)
  have e3 : ((b - n) % 4294967296 - c) % 4294967296 = (b - n - c) % 4294967296 := by omega
  have e4 : 0 ≤ (b - n - c) % 4294967296 ∧ (b - n - c) % 4294967296 < 4294967296 := by omega
  simp [alu_Do.j2, e1, e2, e3, e5, over_of (a := wrap32 b - wrap32 n - c) (by omega) (by omega), top_of e4.1 e4.2, res]

theorem mul_u (b n : Int) (b0 : 0 ≤ b) (b1 : b < 4294967296) (n0 : 0 ≤ n) (n1 : n < 4294967296) : 0 ≤ b * n ∧ b * n ≤ 18446744065119617025 := by
  refine ⟨Int.mul_nonneg b0 n0, ?_⟩
  have h1 : b * n ≤ 4294967295 * n := Int.mul_le_mul_of_nonneg_right (by omega) n0
  omega

theorem mul_s (b n : Int) (b0 : -2147483648 ≤ b) (b1 : b < 2147483648) (n0 : -2147483648 ≤ n) (n1 : n < 2147483648) : -4611686018427387904 ≤ b * n ∧ b * n ≤ 4611686018427387904 := by
  have h : (b * n).natAbs ≤ 2147483648 * 2147483648 := by
    rw [Int.natAbs_mul]; exact Nat.mul_le_mul (by omega) (by omega)
  omega

theorem do10u (b n h : Int) (N Z C V : Bool) (b0 : 0 ≤ b) (b1 : b < 4294967296) (n0 : 0 ≤ n) (n1 : n < 4294967296) :
    alu_Do.f 40 10 true b n h N Z C V = some (res ((b * n) % 4294967296) (b * n / 4294967296) C V) := by
  rw [do_in 10 b n h true N Z C V (by decide) (by decide) (fun _ => by simp)]
  have hm := mul_u b n b0 b1 n0 n1
  have e1 : IntKind.u64.wrap b = b := u64w (by omega) (by omega)
  have e2 : IntKind.u64.wrap n = n := u64w (by omega) (by omega)
  generalize hp : b * n = p at *
  have e3 : IntKind.u64.wrap p = p := u64w (by omega) (by omega)
  have e4 : 0 ≤ p % 4294967296 ∧ p % 4294967296 < 4294967296 := by omega
  have e5 : p / 4294967296 % 4294967296 = p / 4294967296 := by omega
  simp [alu_Do.j2, alu_product.f, e1, e2, hp, e3, e5, top_of e4.1 e4.2, res]

theorem do10s (b n h : Int) (N Z C V : Bool) :
    alu_Do.f 40 10 false b n h N Z C V = some (res ((wrap32 b * wrap32 n) % 4294967296) (wrap32 b * wrap32 n / 4294967296 % 4294967296) C V) := by
  rw [do_in 10 b n h false N Z C V (by decide) (by decide) (fun _ => by simp)]
  have k1 := w32b b
  have k2 := w32b n
  have hm := mul_s (wrap32 b) (wrap32 n) k1.1 k1.2 k2.1 k2.2
  have e1 := w32w b
  have e2 := w32w n
  generalize hp : wrap32 b * wrap32 n = p at *
  have e3 : wrap64 p = p := w64 (by omega) (by omega)
  have e4 : 0 ≤ p % 4294967296 ∧ p % 4294967296 < 4294967296 := by omega
  have e5 : IntKind.u64.wrap p % 4294967296 = p % 4294967296 := by rw [IntKind.wrap_u64]; omega
  have e6 : IntKind.u64.wrap p / 4294967296 % 4294967296 = p / 4294967296 % 4294967296 := by rw [IntKind.wrap_u64]; omega
  simp [alu_Do.j2, alu_product.f, e1, e2, hp, e3, e5, e6, top_of e4.1 e4.2, res]

theorem do11no (b n h : Int) (N Z C V : Bool) (hy : wrap32 n ≤ 0) : alu_Do.f 40 11 false b n h N Z C V = some (res 0 b C V) := by
  rw [do_in 11 b n h false N Z C V (by decide) (by decide) (fun h => by simp at h)]
  have e2 := w32w n
  simp [alu_Do.j2, alu_quotient.f, e2, hy, res]

theorem do11 (b n h : Int) (N Z C V : Bool) (hy : 0 < wrap32 n) : alu_Do.f 40 11 false b n h N Z C V = some (res ((wrap32 b / wrap32 n) % 4294967296) (wrap32 b % wrap32 n % 4294967296) C V) := by
  rw [do_in 11 b n h false N Z C V (by decide) (by decide) (fun h => by simp at h)]
  have e1 := w32w b
  have e2 := w32w n
  have k1 := w32b b
  have k2 := w32b n
  generalize hx_ : wrap32 b = x at *
  generalize hy_ : wrap32 n = y at *
  have hf := floor_of x y hy
  have ht := tdiv_bound x y 2147483648 (by omega) (by omega) (by omega)
  have hr := tmod_bound x y hy
  have e3 : wrap64 (x.tdiv y) = x.tdiv y := w64 (by omega) (by omega)
  have e4 : wrap64 (x.tdiv y - 1) = x.tdiv y - 1 := w64 (by omega) (by omega)
  have e5 : wrap64 (x.tmod y + y) = x.tmod y + y := w64 (by omega) (by omega)
  have n1 : ¬ y ≤ 0 := by omega
  have n2 : ¬ y = 0 := by omega
  have e6 : 0 ≤ (x / y) % 4294967296 ∧ (x / y) % 4294967296 < 4294967296 := by omega
  by_cases hm : x.tmod y < 0
  · obtain ⟨g1, g2⟩ := hf.1 hm
    rw [g1] at e6
    simp [alu_Do.j2, alu_quotient.f, hx_, hy_, e1, e2, n1, n2, hm, e3, e4, e5, g1, g2, top_of e6.1 e6.2, res]
  · obtain ⟨g1, g2⟩ := hf.2 hm
    rw [g1] at e6
    simp [alu_Do.j2, alu_quotient.f, hx_, hy_, e1, e2, n1, n2, hm, e3, g1, g2, top_of e6.1 e6.2, res]

theorem lsl_of (b n : Int) (n0 : 0 ≤ n) : bits_Lsl.f b n = some ((b * 2 ^ (n % 32).toNat) % 4294967296) := by
  have h0 : 0 ≤ n % 32 := by omega
  have e : min (n % 32).toNat 32 = (n % 32).toNat := by omega
  simp [bits_Lsl.f, tmod32 n0, h0, shl, IntKind.bits, e, IntKind.wrap_u32]
theorem asr_of (b n : Int) (n0 : 0 ≤ n) : bits_Asr.f b n = some ((wrap32 b / 2 ^ (n % 32).toNat) % 4294967296) := by
  have h0 : 0 ≤ n % 32 := by omega
  have e : min (n % 32).toNat 32 = (n % 32).toNat := by omega
  simp [bits_Asr.f, tmod32 n0, h0, shr, IntKind.bits, e]
theorem ror_of (b n : Int) (b0 : 0 ≤ b) (b1 : b < 4294967296) (n0 : 0 ≤ n) :
    bits_Ror.f b n = some (b / 2 ^ (n % 32).toNat + b % 2 ^ (n % 32).toNat * 2 ^ (32 - (n % 32).toNat)) := by
  have h0 : 0 ≤ n % 32 := by omega
  have h1 : n % 32 < 32 := by omega
  unfold bits_Ror.f bits_RotateLeft32.f
  rw [tmod32 n0, w64 (n := n % 32) (by omega) (by omega), w64 (n := -(n % 32)) (by omega) (by omega)]
  have e1 : Go.bits .and .u64 (IntKind.u64.wrap (-(n % 32))) 31 = (-(n % 32)) % 32 := by
    rw [IntKind.wrap_u64, and31 _ (by omega) (by omega)]; omega
  rw [e1]
  obtain ⟨m, hm⟩ : ∃ m : Nat, n % 32 = m := ⟨(n % 32).toNat, by omega⟩
  rw [hm, Int.toNat_natCast]
  by_cases hz : m = 0
  · subst hz
    have e2 : IntKind.u64.wrap 32 = 32 := by decide
    have e3 : b / 4294967296 = 0 := by omega
    have e4 := turn0 b b0 b1
    have e5 : b % 1 = 0 := by omega
    simp [e2, shl, shr, IntKind.bits, IntKind.wrap_u32, e3, e4, e5]
  · have e2 : (-(m : Int)) % 32 = ((32 - m : Nat) : Int) := by omega
    have e3 : IntKind.u64.wrap (32 - ((32 - m : Nat) : Int)) = (m : Int) := by rw [u64w (by omega) (by omega)]; omega
    have e4 : min m 32 = m := by omega
    have e5 : min (32 - m) 32 = 32 - m := by omega
    rw [e2, e3, if_pos (by omega), if_pos (by omega)]
    simp only [shl, shr, IntKind.bits, Int.toNat_natCast, e4, e5, IntKind.wrap_u32, turn b m (by omega) b0 b1, Option.bind_some]

theorem bits_u32 (o : BinOp) (x y : Int) : 0 ≤ Go.bits o .u32 x y ∧ Go.bits o .u32 x y < 4294967296 := by
  unfold Go.bits; rw [IntKind.wrap_u32]; omega

theorem do0 (b n h : Int) (u N Z C V : Bool) (n0 : 0 ≤ n) (n1 : n < 4294967296) (h0 : 0 ≤ h) (h1 : h < 4294967296) :
    alu_Do.f 40 0 u b n h N Z C V = some (res (if u = true then h else n) h C V) := by
  rw [do_in 0 b n h u N Z C V (by decide) (by decide) (fun _ => by simp)]
  cases u <;> simp [alu_Do.j2, top_of n0 n1, top_of h0 h1, res]
theorem do1 (b n h : Int) (N Z C V : Bool) (n0 : 0 ≤ n) : alu_Do.f 40 1 false b n h N Z C V = some (res ((b * 2 ^ (n % 32).toNat) % 4294967296) h C V) := by
  rw [do_in 1 b n h false N Z C V (by decide) (by decide) (fun h => by simp at h)]
  have e4 : 0 ≤ (b * 2 ^ (n % 32).toNat) % 4294967296 ∧ (b * 2 ^ (n % 32).toNat) % 4294967296 < 4294967296 := by omega
  simp [alu_Do.j2, lsl_of b n n0, top_of e4.1 e4.2, res]
theorem do2 (b n h : Int) (N Z C V : Bool) (n0 : 0 ≤ n) : alu_Do.f 40 2 false b n h N Z C V = some (res ((wrap32 b / 2 ^ (n % 32).toNat) % 4294967296) h C V) := by
  rw [do_in 2 b n h false N Z C V (by decide) (by decide) (fun h => by simp at h)]
  have e4 : 0 ≤ (wrap32 b / 2 ^ (n % 32).toNat) % 4294967296 ∧ (wrap32 b / 2 ^ (n % 32).toNat) % 4294967296 < 4294967296 := by omega
  simp [alu_Do.j2, asr_of b n n0, top_of e4.1 e4.2, res]
theorem do3 (b n h : Int) (N Z C V : Bool) (b0 : 0 ≤ b) (b1 : b < 4294967296) (n0 : 0 ≤ n) :
    alu_Do.f 40 3 false b n h N Z C V = some (res (b / 2 ^ (n % 32).toNat + b % 2 ^ (n % 32).toNat * 2 ^ (32 - (n % 32).toNat)) h C V) := by
  rw [do_in 3 b n h false N Z C V (by decide) (by decide) (fun h => by simp at h)]
  have e4 := ror_bound b (n % 32).toNat (by omega) b0 b1
  simp [alu_Do.j2, ror_of b n b0 b1 n0, top_of e4.1 e4.2, res]
theorem do4 (b n h : Int) (N Z C V : Bool) : alu_Do.f 40 4 false b n h N Z C V = some (res (Go.bits .and .u32 b n) h C V) := by
  rw [do_in 4 b n h false N Z C V (by decide) (by decide) (fun h => by simp at h)]
  have e4 := bits_u32 .and b n
  simp [alu_Do.j2, top_of e4.1 e4.2, res]
theorem do5 (b n h : Int) (N Z C V : Bool) : alu_Do.f 40 5 false b n h N Z C V = some (res (Go.bits .andNot .u32 b n) h C V) := by
  rw [do_in 5 b n h false N Z C V (by decide) (by decide) (fun h => by simp at h)]
  have e4 := bits_u32 .andNot b n
  simp [alu_Do.j2, top_of e4.1 e4.2, res]
theorem do6 (b n h : Int) (N Z C V : Bool) : alu_Do.f 40 6 false b n h N Z C V = some (res (Go.bits .or .u32 b n) h C V) := by
  rw [do_in 6 b n h false N Z C V (by decide) (by decide) (fun h => by simp at h)]
  have e4 := bits_u32 .or b n
  simp [alu_Do.j2, top_of e4.1 e4.2, res]
theorem do7 (b n h : Int) (N Z C V : Bool) : alu_Do.f 40 7 false b n h N Z C V = some (res (Go.bits .xor .u32 b n) h C V) := by
  rw [do_in 7 b n h false N Z C V (by decide) (by decide) (fun h => by simp at h)]
  have e4 := bits_u32 .xor b n
  simp [alu_Do.j2, top_of e4.1 e4.2, res]

theorem wakes_true : spinetlaw03_wakes.f 40 = some true := by decide +kernel

end Go.Proofs.Ytbcoanjgpebedaa.AluA
