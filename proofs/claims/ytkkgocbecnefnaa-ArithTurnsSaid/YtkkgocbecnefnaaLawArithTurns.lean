/- The law ArithTurns, walked. -/
import Derived.Test.YtkkgocbecnefnaaSets20Pure
import Derived.Test.YtkkgocbecnefnaaWakes
import Derived.Deep.RegionHeld3
namespace Go.Proofs.Ytkkgocbecnefnaa.LawArithTurns
open Go.RowKit Go.Proofs.Ytkkgocbecnefnaa Go.Proofs.Ytkkgocbecnefnaa.Plain Go.Proofs.Ytkkgocbecnefnaa.PArithConsts Go.Proofs.Ytkkgocbecnefnaa.Ref01Pure Go.Proofs.Ytkkgocbecnefnaa.Wakes Go.Proofs.YtkkgocbecnefnaaW.PrintWords Go.Proofs.YtkkgocbecnefnaaW.PrintLast Go.Proofs.YtkkgocbecnefnaaW.PrintMore
set_option linter.unusedVariables false
set_option linter.unusedSimpArgs false

theorem bit_of (v : BitVec 32) (i : Nat) : ((v.toNat : Int) / 2 ^ i % 2 == 1) = v.getLsbD i := by
  have e : ((v.toNat : Int) / 2 ^ i % 2) = ((v.toNat / 2 ^ i % 2 : Nat) : Int) := by
    rw [Int.natCast_emod, Int.natCast_ediv, Int.natCast_pow]; rfl
  rw [e, BitVec.getLsbD, Nat.testBit_eq_decide_div_mod_eq, Bool.eq_iff_iff, beq_iff_eq, decide_eq_true_eq]
  omega
theorem of_u32 (s : Int) (s0 : 0 ≤ s) (s1 : s < 4294967296) : s = ((BitVec.ofInt 32 s).toNat : Int) := by
  rw [BitVec.toNat_ofInt]; omega
theorem w_u32 (v : BitVec 32) : IntKind.u32.wrap (v.toNat : Int) = (v.toNat : Int) := by
  have := v.isLt; rw [IntKind.wrap_u32]; omega
theorem elem_or (s t : Int) (i : Nat) (s0 : 0 ≤ s) (s1 : s < 4294967296) (t0 : 0 ≤ t) (t1 : t < 4294967296) :
    (Go.bits .or .u32 s t / 2 ^ i % 2 == 1) = ((s / 2 ^ i % 2 == 1) || (t / 2 ^ i % 2 == 1)) := by
  have e : Go.bits .or .u32 s t = ((BitVec.ofInt 32 s ||| BitVec.ofInt 32 t).toNat : Int) := w_u32 _
  rw [e, bit_of, BitVec.getLsbD_or, ← bit_of, ← bit_of, ← of_u32 s s0 s1, ← of_u32 t t0 t1]
theorem elem_less (s t : Int) (i : Nat) (hi : i < 32) (s0 : 0 ≤ s) (s1 : s < 4294967296) (t0 : 0 ≤ t) (t1 : t < 4294967296) :
    (Go.bits .andNot .u32 s t / 2 ^ i % 2 == 1) = ((s / 2 ^ i % 2 == 1) && !(t / 2 ^ i % 2 == 1)) := by
  have e : Go.bits .andNot .u32 s t = ((BitVec.ofInt 32 s &&& ~~~ BitVec.ofInt 32 t).toNat : Int) := w_u32 _
  rw [e, bit_of, BitVec.getLsbD_and, BitVec.getLsbD_not, ← bit_of, ← bit_of, ← of_u32 s s0 s1, ← of_u32 t t0 t1]
  simp [hi]

theorem wp_of_world {p : Program} {c : Code} {Q : Exit → Act → World → Prop} {a : Act} {w0 : World} (S : World → Prop) (h : S w0) (hw : ∀ w, S w → Code.wp p c Q a w) : Code.wp p c Q a w0 := hw w0 h
theorem int_of (s : ByteArray) (a b : Int) {r1 r2 : Int} {r3 : Bool} (hsz : s.size ≤ maxLen) (h : intF s.toList a b = (r1, r2, r3)) (w : World) :
    Calls Try.prog 12 #[.string s, .int .i64 a, .int .i64 b] w fun e w' => e = .returned (.tuple #[.int .i64 r1, .int .i64 r2, .bool r3]) ∧ Below w.heap.size w w' := by
  have := int_any s a b w hsz
  rwa [h] at this

theorem tl1 : (ByteArray.mk #[43]).toList = [43] := by decide +kernel
theorem tl2 : (ByteArray.mk #[45]).toList = [45] := by decide +kernel
theorem tl3 : (ByteArray.mk #[42]).toList = [42] := by decide +kernel
theorem tl4 : (ByteArray.mk #[68, 73, 86]).toList = [68, 73, 86] := by decide +kernel
theorem tl5 : (ByteArray.mk #[77, 79, 68]).toList = [77, 79, 68] := by decide +kernel
theorem xx_of (a : Int) : wrap64 (wrap32 (a % 4294967296)) = wrap32 a := by unfold wrap64 wrap32; omega
theorem plus_of (a b : Int) : intF (ByteArray.mk #[43]).toList a b = (wrap32 (wrap32 a + wrap32 b), 0, true) := by unfold intF; rw [tl1]; simp
theorem less_of (a b : Int) : intF (ByteArray.mk #[45]).toList a b = (wrap32 (wrap32 a - wrap32 b), 0, true) := by unfold intF; rw [tl2]; simp
theorem times_of (a b : Int) : intF (ByteArray.mk #[42]).toList a b = (wrap32 (wrap32 a * wrap32 b), 0, true) := by unfold intF; rw [tl3]; simp
theorem div_of (a b : Int) : intF (ByteArray.mk #[68, 73, 86]).toList a b = if wrap32 b ≤ 0 then (0, 6, true) else (wrap32 (wrap32 a / wrap32 b), 0, true) := by unfold intF; rw [tl4]; simp
theorem mod_of (a b : Int) : intF (ByteArray.mk #[77, 79, 68]).toList a b = if wrap32 b ≤ 0 then (0, 6, true) else (wrap32 (wrap32 a % wrap32 b), 0, true) := by unfold intF; rw [tl5]; simp
theorem m1 : (ByteArray.mk #[43]).size ≤ maxLen := by unfold maxLen; decide
theorem m4 : (ByteArray.mk #[68, 73, 86]).size ≤ maxLen := by unfold maxLen; decide
theorem m5 : (ByteArray.mk #[77, 79, 68]).size ≤ maxLen := by unfold maxLen; decide
theorem w32_id {n : Int} (h0 : -2147483648 ≤ n) (h1 : n < 2147483648) : wrap32 n = n := by unfold wrap32; omega
theorem w32_0 : wrap32 0 = 0 := by unfold wrap32; omega
theorem set_or (s t : Int) : arith_Set.f (ByteArray.mk #[43]) s t = some (Go.bits .or .u32 s t, true) := by unfold arith_Set.f; rw [if_pos tl1]
theorem set_less (s t : Int) : arith_Set.f (ByteArray.mk #[45]) s t = some (Go.bits .andNot .u32 s t, true) := by unfold arith_Set.f; rw [if_neg (by rw [tl2]; decide), if_pos tl2]
theorem back_of (x y : Int) (x0 : -2147483648 ≤ x) (x1 : x < 2147483648) (y0 : 0 < y) (y1 : y < 2147483648) :
    wrap32 (wrap32 (wrap32 (wrap32 (wrap32 (x / y)) * y)) + wrap32 (wrap32 (x % y))) = x := by
  have e := Int.mul_ediv_add_emod x y
  have r0 := Int.emod_nonneg x (show y ≠ 0 by omega)
  have r1 := Int.emod_lt_of_pos x y0
  have q : -2147483648 ≤ x / y ∧ x / y < 2147483648 := by
    constructor
    · rw [Int.le_ediv_iff_mul_le y0]; omega
    · rw [Int.ediv_lt_iff_lt_mul y0]; omega
  rw [w32_id q.1 q.2, w32_id q.1 q.2, w32_id (n := x % y) (by omega) (by omega), w32_id (n := x % y) (by omega) (by omega), Int.mul_comm]
  have h1 : wrap32 (wrap32 (wrap32 (y * (x / y))) + x % y) = wrap32 (y * (x / y) + x % y) := by unfold wrap32; omega
  rw [Int.mul_comm, Int.mul_comm (x / y)] at *
  first | rw [h1, e, w32_id x0 x1] | (have h2 : wrap32 (wrap32 (y * (x / y)) + x % y) = wrap32 (y * (x / y) + x % y) := by { unfold wrap32; omega }; rw [h2, e, w32_id x0 x1])

set_option maxRecDepth 100000 in
set_option maxHeartbeats 2000000 in
theorem walk (a b s t : Int) (w : World) (a0 : -9223372036854775808 ≤ a) (a1 : a ≤ 9223372036854775807) (b0 : -9223372036854775808 ≤ b) (b1 : b ≤ 9223372036854775807) (s0 : 0 ≤ s) (s1 : s < 4294967296) (t0 : 0 ≤ t) (t1 : t < 4294967296) :
    Calls Try.prog 6 #[.int .i64 a, .int .i64 b, .agg #[.int .u32 s, .int .u32 t]] w fun e w' => e = .returned (.bool true) ∧ Below w.heap.size w w' := by
  have ka := w32b a
  have kb := w32b b
  have S1 := Aside0.mk (set_or s t)
  have S2 := Aside0.mk (set_less s t)
  have L : ∀ x : Int, 0 ≤ x → x < 32 → ∃ es et, arith_Elem.f x s = some es ∧ arith_Elem.f x t = some et ∧ arith_Elem.f x (Go.bits .or .u32 s t) = some (es || et) ∧ arith_Elem.f x (Go.bits .andNot .u32 s t) = some (es && !et) := by
    intro x x0 x1
    have bu := bits_u32 .or s t
    have bd := bits_u32 .andNot s t
    refine ⟨_, _, (elem_both x s (by omega) (by omega) s0 s1).1, (elem_both x t (by omega) (by omega) t0 t1).1, ?_, ?_⟩
    · rw [(elem_both x _ (by omega) (by omega) bu.1 bu.2).1, elem_or s t _ s0 s1 t0 t1]
    · rw [(elem_both x _ (by omega) (by omega) bd.1 bd.2).1, elem_less s t _ (by omega) s0 s1 t0 t1]
  generalize Go.bits .or .u32 s t = U at *
  generalize Go.bits .andNot .u32 s t = D at *
  clear s0 s1 t0 t1
  by_cases hy : wrap64 (wrap32 (b % 4294967296)) ≤ 0
  · have hb : wrap32 b ≤ 0 := by rwa [xx_of] at hy
    have I1 := Aside0.mk (int_of (ByteArray.mk #[43]) a b m1 (plus_of a b))
    have I2 := Aside0.mk (int_of (ByteArray.mk #[45]) (wrap32 (wrap32 a + wrap32 b)) b (r1 := wrap64 (wrap32 (a % 4294967296))) (r2 := 0) (r3 := true) m1 (by rw [less_of, xx_of]; congr 1; unfold wrap32; omega))
    have I3 := Aside0.mk (int_of (ByteArray.mk #[68, 73, 86]) a b (r1 := 0) (r2 := 6) (r3 := true) m4 (by rw [div_of, if_pos hb]))
    have I4 := Aside0.mk (int_of (ByteArray.mk #[77, 79, 68]) a b (r1 := 0) (r2 := 6) (r3 := true) m5 (by rw [mod_of, if_pos hb]))
    have I5 := Aside0.mk (int_of (ByteArray.mk #[42]) 0 b (r1 := 0) (r2 := 0) (r3 := true) m1 (by rw [times_of, w32_0, Int.zero_mul, w32_0]))
    have I6 := Aside0.mk (int_of (ByteArray.mk #[43]) 0 0 (r1 := 0) (r2 := 0) (r3 := true) m1 (by rw [plus_of, w32_0, Int.zero_add, w32_0]))
    have hy0 := eq_true hy
    have hy1 : decide (wrap64 (wrap32 (b % 4294967296)) ≤ 0) = true := decide_eq_true hy
    clear hy hb ka kb a0 a1 b0 b1
    go_enter Try.func6, Try.ntmps6
    go_wp2_with fail
    go_quiet (fail)
    go_wp2_with fail
    refine (I1.out _).mono ?_
    rintro e w1 ⟨rfl, hb1⟩
    generalize wrap32 (wrap32 a + wrap32 b) = Z at *
    have G1 : Aside0 (Below w.heap.size w w1) := ⟨below_step (pw_below_drewN (below_alloc (Below.refl _ _) _) _) hb1⟩
    clear hb1
    go_wp2_with fail
    refine (I2.out _).mono ?_
    rintro e w2 ⟨rfl, hb2⟩
    have G2 := Aside0.mk (below_step G1.out hb2)
    clear hb2
    go_wp2_with fail
    refine (I3.out _).mono ?_
    rintro e w3 ⟨rfl, hb3⟩
    have G3 := Aside0.mk (below_step G2.out hb3)
    clear hb3
    go_wp2_with fail
    refine (I4.out _).mono ?_
    rintro e w4 ⟨rfl, hb4⟩
    have G4 := Aside0.mk (below_step G3.out hb4)
    clear hb4
    go_wp2_with fail
    refine (I5.out _).mono ?_
    rintro e w5 ⟨rfl, hb5⟩
    have G5 := Aside0.mk (below_step G4.out hb5)
    clear hb5
    go_wp2_with fail
    refine (I6.out _).mono ?_
    rintro e w6 ⟨rfl, hb6⟩
    have G6 := Aside0.mk (below_step G5.out hb6)
    clear hb6
    go_wp2_with fail
    refine (arith_Set.calls _ s t _ _ _ S1.out).mono ?_
    rintro e w7 ⟨rfl, n1, rfl⟩
    go_wp2_with fail
    refine (arith_Set.calls _ s t _ _ _ S2.out).mono ?_
    rintro e w7 ⟨rfl, n2, rfl⟩
    go_wp2_with fail
    go_loopg [33] 33 (fun kq v w' => ∃ x : Int, v = .int .i64 x ∧ 0 ≤ x ∧ x + kq = 33 ∧ 0 < kq ∧ Aside0 (Below w.heap.size w w'))
    case atStart => exact ⟨0, rfl, by decide, rfl, by decide, ⟨pw_below_drewN G6.out _⟩⟩
    case round =>
      obtain ⟨x, rfl, x0, xk, k0, GX⟩ := hrel
      by_cases hx : x < 32
      · obtain ⟨es, et, ES, ET, EU, ED⟩ := L x x0 hx
        have PS := Aside0.mk ES
        have PT := Aside0.mk ET
        have PU := Aside0.mk EU
        have PD := Aside0.mk ED
        clear ES ET EU ED
        have c0 : decide (x < 32) = true := decide_eq_true hx
        have hw : wrap64 (x + 1) = x + 1 := w64 (by omega) (by omega)
        obtain ⟨y, hy2⟩ : ∃ y, x + 1 = y := ⟨_, rfl⟩
        rw [hy2] at hw
        cases es <;> cases et
        all_goals
          go_wp2_with (first
            | (go_at_call 18; (with_reducible refine (arith_Elem.calls x s _ _ PS.out).mono ?_); rintro e w' ⟨rfl, n3, rfl⟩)
            | (go_at_call 18; (with_reducible refine (arith_Elem.calls x t _ _ PT.out).mono ?_); rintro e w' ⟨rfl, n3, rfl⟩)
            | (go_at_call 18; (with_reducible refine (arith_Elem.calls x U _ _ PU.out).mono ?_); rintro e w' ⟨rfl, n3, rfl⟩)
            | (go_at_call 18; (with_reducible refine (arith_Elem.calls x D _ _ PD.out).mono ?_); rintro e w' ⟨rfl, n3, rfl⟩))
        all_goals
          go_roundg (gk - 1)
          case measure => omega
          case rel => exact ⟨y, by first | rfl | (simp [*]; done), by omega, by omega, by omega, ⟨by repeat (first | exact GX.out | apply pw_below_drewN | apply Below.drew)⟩⟩
      · have c0 : decide (x < 32) = false := decide_eq_false hx
        go_wp2_with fail
        refine (wakes_any _).mono ?_
        rintro e w9 ⟨rfl, hb9⟩
        have G9 : Aside0 (Below w.heap.size w w9) := ⟨below_step (by repeat (first | exact GX.out | apply pw_below_drewN | apply Below.drew)) hb9⟩
        clear hb9
        go_wp2_with fail
        go_ret
        exact ⟨rfl, G9.out⟩
  · have hb : ¬ wrap32 b ≤ 0 := by rwa [xx_of] at hy
    have q0 := Int.emod_nonneg (wrap32 a) (show wrap32 b ≠ 0 by omega)
    have q1 := Int.emod_lt_of_pos (wrap32 a) (show 0 < wrap32 b by omega)
    have ew : wrap32 (wrap32 a % wrap32 b) = wrap32 a % wrap32 b := w32_id (by omega) (by omega)
    have ey := xx_of b
    have I1 := Aside0.mk (int_of (ByteArray.mk #[43]) a b m1 (plus_of a b))
    have I2 := Aside0.mk (int_of (ByteArray.mk #[45]) (wrap32 (wrap32 a + wrap32 b)) b (r1 := wrap64 (wrap32 (a % 4294967296))) (r2 := 0) (r3 := true) m1 (by rw [less_of, xx_of]; congr 1; unfold wrap32; omega))
    have I3 := Aside0.mk (int_of (ByteArray.mk #[68, 73, 86]) a b (r1 := wrap32 (wrap32 a / wrap32 b)) (r2 := 0) (r3 := true) m4 (by rw [div_of, if_neg hb]))
    have I4 := Aside0.mk (int_of (ByteArray.mk #[77, 79, 68]) a b (r1 := wrap32 (wrap32 a % wrap32 b)) (r2 := 0) (r3 := true) m5 (by rw [mod_of, if_neg hb]))
    have I5 := Aside0.mk (int_of (ByteArray.mk #[42]) (wrap32 (wrap32 a / wrap32 b)) b m1 (times_of _ _))
    have I6 := Aside0.mk (int_of (ByteArray.mk #[43]) (wrap32 (wrap32 (wrap32 (wrap32 a / wrap32 b)) * wrap32 b)) (wrap32 (wrap32 a % wrap32 b)) (r1 := wrap64 (wrap32 (a % 4294967296))) (r2 := 0) (r3 := true) m1 (by rw [plus_of, xx_of, back_of _ _ ka.1 ka.2 (by omega) kb.2]))
    have hy0 := eq_false hy
    have hy1 : decide (wrap64 (wrap32 (b % 4294967296)) ≤ 0) = false := decide_eq_false hy
    have hz0 : decide (wrap32 (wrap32 a % wrap32 b) < 0) = false := decide_eq_false (by omega)
    have hz1 : decide (wrap64 (wrap32 (b % 4294967296)) ≤ wrap32 (wrap32 a % wrap32 b)) = false := decide_eq_false (by omega)
    clear hy hb ka kb q0 q1 ew ey a0 a1 b0 b1
    generalize wrap32 (wrap32 (wrap32 (wrap32 a / wrap32 b)) * wrap32 b) = P at *
    generalize wrap32 (wrap32 a / wrap32 b) = Q at *
    generalize wrap32 (wrap32 a % wrap32 b) = R at *
    go_enter Try.func6, Try.ntmps6
    go_wp2_with fail
    go_quiet (fail)
    go_wp2_with fail
    refine (I1.out _).mono ?_
    rintro e w1 ⟨rfl, hb1⟩
    generalize wrap32 (wrap32 a + wrap32 b) = Z at *
    have G1 : Aside0 (Below w.heap.size w w1) := ⟨below_step (pw_below_drewN (below_alloc (Below.refl _ _) _) _) hb1⟩
    clear hb1
    go_wp2_with fail
    refine (I2.out _).mono ?_
    rintro e w2 ⟨rfl, hb2⟩
    have G2 := Aside0.mk (below_step G1.out hb2)
    clear hb2
    go_wp2_with fail
    refine (I3.out _).mono ?_
    rintro e w3 ⟨rfl, hb3⟩
    have G3 := Aside0.mk (below_step G2.out hb3)
    clear hb3
    go_wp2_with fail
    refine (I4.out _).mono ?_
    rintro e w4 ⟨rfl, hb4⟩
    have G4 := Aside0.mk (below_step G3.out hb4)
    clear hb4
    go_wp2_with fail
    refine (I5.out _).mono ?_
    rintro e w5 ⟨rfl, hb5⟩
    have G5 := Aside0.mk (below_step G4.out hb5)
    clear hb5
    go_wp2_with fail
    refine (I6.out _).mono ?_
    rintro e w6 ⟨rfl, hb6⟩
    have G6 := Aside0.mk (below_step G5.out hb6)
    clear hb6
    go_wp2_with fail
    refine (arith_Set.calls _ s t _ _ _ S1.out).mono ?_
    rintro e w7 ⟨rfl, n1, rfl⟩
    go_wp2_with fail
    refine (arith_Set.calls _ s t _ _ _ S2.out).mono ?_
    rintro e w7 ⟨rfl, n2, rfl⟩
    go_wp2_with fail
    go_loopg [33] 33 (fun kq v w' => ∃ x : Int, v = .int .i64 x ∧ 0 ≤ x ∧ x + kq = 33 ∧ 0 < kq ∧ Aside0 (Below w.heap.size w w'))
    case atStart => exact ⟨0, rfl, by decide, rfl, by decide, ⟨pw_below_drewN G6.out _⟩⟩
    case round =>
      obtain ⟨x, rfl, x0, xk, k0, GX⟩ := hrel
      by_cases hx : x < 32
      · obtain ⟨es, et, ES, ET, EU, ED⟩ := L x x0 hx
        have PS := Aside0.mk ES
        have PT := Aside0.mk ET
        have PU := Aside0.mk EU
        have PD := Aside0.mk ED
        clear ES ET EU ED
        have c0 : decide (x < 32) = true := decide_eq_true hx
        have hw : wrap64 (x + 1) = x + 1 := w64 (by omega) (by omega)
        obtain ⟨y, hy2⟩ : ∃ y, x + 1 = y := ⟨_, rfl⟩
        rw [hy2] at hw
        cases es <;> cases et
        all_goals
          go_wp2_with (first
            | (go_at_call 18; (with_reducible refine (arith_Elem.calls x s _ _ PS.out).mono ?_); rintro e w' ⟨rfl, n3, rfl⟩)
            | (go_at_call 18; (with_reducible refine (arith_Elem.calls x t _ _ PT.out).mono ?_); rintro e w' ⟨rfl, n3, rfl⟩)
            | (go_at_call 18; (with_reducible refine (arith_Elem.calls x U _ _ PU.out).mono ?_); rintro e w' ⟨rfl, n3, rfl⟩)
            | (go_at_call 18; (with_reducible refine (arith_Elem.calls x D _ _ PD.out).mono ?_); rintro e w' ⟨rfl, n3, rfl⟩))
        all_goals
          go_roundg (gk - 1)
          case measure => omega
          case rel => exact ⟨y, by first | rfl | (simp [*]; done), by omega, by omega, by omega, ⟨by repeat (first | exact GX.out | apply pw_below_drewN | apply Below.drew)⟩⟩
      · have c0 : decide (x < 32) = false := decide_eq_false hx
        go_wp2_with fail
        refine (wakes_any _).mono ?_
        rintro e w9 ⟨rfl, hb9⟩
        have G9 : Aside0 (Below w.heap.size w w9) := ⟨below_step (by repeat (first | exact GX.out | apply pw_below_drewN | apply Below.drew)) hb9⟩
        clear hb9
        go_wp2_with fail
        go_ret
        exact ⟨rfl, G9.out⟩
end Go.Proofs.Ytkkgocbecnefnaa.LawArithTurns
