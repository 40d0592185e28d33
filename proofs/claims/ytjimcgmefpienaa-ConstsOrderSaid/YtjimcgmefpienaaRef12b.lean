/- The document's operations of two constants, as they were printed. -/
import Derived.WalkLawsBesides
import Derived.Test.YtjimcgmefpienaaRef12a
namespace Go.Proofs.Ytjimcgmefpienaa.PConstsCalls
open Go.RowKit Go.Proofs.YtjimcgmefpienaaW.PrintWords Go.Proofs.YtjimcgmefpienaaW.PrintLast Go.Proofs.YtjimcgmefpienaaW.PrintMore
attribute [local go_sem] max2_int min2_int max_two min_two max_three min_three max_four min_four
set_option linter.unusedVariables false
set_option linter.unusedSimpArgs false

/-! ### spinetref12_order: function 37 -/
def spinetref12_order.f (a0 : ByteArray) (a1 : ByteArray) : Option (Int) := if (Op.bytesLess a0.toList a1.toList) = true then (some (-1)) else (if (Op.bytesLess a1.toList a0.toList) = true then (some 1) else (some 0))
theorem less_self : ∀ x : List UInt8, Op.bytesLess x x = false
  | [] => rfl
  | a :: x => by unfold Op.bytesLess; simp [less_self x]
theorem less_total : ∀ x y : List UInt8, Op.bytesLess x y = false → (x == y) = false → Op.bytesLess y x = true
  | [], [] => by simp
  | [], b :: y => by simp [Op.bytesLess]
  | a :: x, [] => by simp [Op.bytesLess]
  | a :: x, b :: y => by
    have ih := less_total x y
    unfold Op.bytesLess
    by_cases h1 : a < b
    · simp [h1]
    · by_cases h2 : b < a
      · simp [h2]
      · have he : a = b := UInt8.le_antisymm (UInt8.not_lt.1 h2) (UInt8.not_lt.1 h1)
        subst he
        simpa [h1] using ih
set_option maxHeartbeats 2000000 in
theorem spinetref12_order.calls (a0 : ByteArray) (a1 : ByteArray) (r : Int) (w : World) (h : spinetref12_order.f a0 a1 = some r) :
    Calls Try.prog 37 #[.string a0, .string a1] w fun e w' => e = .returned (.int .i64 r) ∧ Drawn0 w w' := by
  unfold spinetref12_order.f at h
  by_cases c1 : Op.bytesLess a0.toList a1.toList = true
  · rw [if_pos c1] at h
    obtain rfl := Option.some.inj h
    clear h
    go_enter Try.func37, Try.ntmps37
    go_wp2
    go_ret
    exact ⟨rfl, Drawn0.refl _⟩
  · rw [if_neg c1] at h
    have d1 : Op.bytesLess a0.toList a1.toList = false := by simpa using c1
    clear c1
    by_cases c2 : (a0.toList == a1.toList) = true
    · have e := eq_of_beq c2
      rw [← e, less_self, if_neg (by simp)] at h
      obtain rfl := Option.some.inj h
      clear h e
      go_enter Try.func37, Try.ntmps37
      go_wp2
      go_ret
      exact ⟨rfl, Drawn0.refl _⟩
    · have d2 : (a0.toList == a1.toList) = false := by simpa using c2
      clear c2
      rw [if_pos (less_total _ _ d1 d2)] at h
      obtain rfl := Option.some.inj h
      clear h
      go_enter Try.func37, Try.ntmps37
      go_wp2
      go_ret
      exact ⟨rfl, Drawn0.refl _⟩

/-! ### spinetref12_Relate: function 38 -/
def spinetref12_Relate.f (a0 : ByteArray) (a1 : Int) : Option (Bool × Bool) := if a0.toList = ([61] : List UInt8) then (some ((a1 == 0), true)) else (if a0.toList = ([35] : List UInt8) then (some ((a1 != 0), true)) else (if a0.toList = ([60] : List UInt8) then (some (decide (a1 < 0), true)) else (if a0.toList = ([60, 61] : List UInt8) then (some (decide (a1 ≤ 0), true)) else (if a0.toList = ([62] : List UInt8) then (some (decide (a1 > 0), true)) else (if a0.toList = ([62, 61] : List UInt8) then (some (decide (a1 ≥ 0), true)) else (some (false, false)))))))
set_option maxHeartbeats 8000000 in
set_option maxRecDepth 100000 in
theorem spinetref12_Relate.calls (a0 : ByteArray) (a1 : Int) (r1 : Bool) (r2 : Bool) (w : World) (h : spinetref12_Relate.f a0 a1 = some (r1, r2)) :
    Calls Try.prog 38 #[.string a0, .int .i64 a1] w fun e w' => e = .returned (.tuple #[.bool r1, .bool r2]) ∧ Drawn0 w w' := by
  have H : (if a0.toList = ([61] : List UInt8) then (some ((a1 == 0), true)) else (if a0.toList = ([35] : List UInt8) then (some ((a1 != 0), true)) else (if a0.toList = ([60] : List UInt8) then (some (decide (a1 < 0), true)) else (if a0.toList = ([60, 61] : List UInt8) then (some (decide (a1 ≤ 0), true)) else (if a0.toList = ([62] : List UInt8) then (some (decide (a1 > 0), true)) else (if a0.toList = ([62, 61] : List UInt8) then (some (decide (a1 ≥ 0), true)) else (some (false, false)))))))) = some (r1, r2) := h
  clear h
  by_cases c3 : a0.toList = ([61] : List UInt8)
  · rw [if_pos c3] at H
    have c3b0 : (a0.toList == ([61] : List UInt8)) = true := beq_iff_eq.mpr c3
    have c3b1 : (a0.toList != ([61] : List UInt8)) = false := bne_eq_false_iff_eq.mpr c3
    clear c3
    simp only [Option.some.injEq, Prod.mk.injEq] at H
    obtain ⟨rfl, rfl⟩ := H
    go_enter Try.func38, Try.ntmps38
    go_wp2
    go_ret2
    exact ⟨by first | rfl | (simp; done) | (simp [*]; done), by repeat (first | exact Drawn0.refl _ | apply Drawn0.step)⟩
  · rw [if_neg c3] at H
    have c3b0 : (a0.toList == ([61] : List UInt8)) = false := beq_eq_false_iff_ne.mpr c3
    have c3b1 : (a0.toList != ([61] : List UInt8)) = true := bne_iff_ne.mpr c3
    by_cases c4 : a0.toList = ([35] : List UInt8)
    · rw [if_pos c4] at H
      have c4b0 : (a0.toList == ([35] : List UInt8)) = true := beq_iff_eq.mpr c4
      have c4b1 : (a0.toList != ([35] : List UInt8)) = false := bne_eq_false_iff_eq.mpr c4
      clear c4
      simp only [Option.some.injEq, Prod.mk.injEq] at H
      obtain ⟨rfl, rfl⟩ := H
      go_enter Try.func38, Try.ntmps38
      go_wp2
      go_ret2
      exact ⟨by first | rfl | (simp; done) | (simp [*]; done), by repeat (first | exact Drawn0.refl _ | apply Drawn0.step)⟩
    · rw [if_neg c4] at H
      have c4b0 : (a0.toList == ([35] : List UInt8)) = false := beq_eq_false_iff_ne.mpr c4
      have c4b1 : (a0.toList != ([35] : List UInt8)) = true := bne_iff_ne.mpr c4
      by_cases c5 : a0.toList = ([60] : List UInt8)
      · rw [if_pos c5] at H
        have c5b0 : (a0.toList == ([60] : List UInt8)) = true := beq_iff_eq.mpr c5
        have c5b1 : (a0.toList != ([60] : List UInt8)) = false := bne_eq_false_iff_eq.mpr c5
        clear c5
        simp only [Option.some.injEq, Prod.mk.injEq] at H
        obtain ⟨rfl, rfl⟩ := H
        go_enter Try.func38, Try.ntmps38
        go_wp2
        go_ret2
        exact ⟨by first | rfl | (simp; done) | (simp [*]; done), by repeat (first | exact Drawn0.refl _ | apply Drawn0.step)⟩
      · rw [if_neg c5] at H
        have c5b0 : (a0.toList == ([60] : List UInt8)) = false := beq_eq_false_iff_ne.mpr c5
        have c5b1 : (a0.toList != ([60] : List UInt8)) = true := bne_iff_ne.mpr c5
        by_cases c6 : a0.toList = ([60, 61] : List UInt8)
        · rw [if_pos c6] at H
          have c6b0 : (a0.toList == ([60, 61] : List UInt8)) = true := beq_iff_eq.mpr c6
          have c6b1 : (a0.toList != ([60, 61] : List UInt8)) = false := bne_eq_false_iff_eq.mpr c6
          clear c6
          simp only [Option.some.injEq, Prod.mk.injEq] at H
          obtain ⟨rfl, rfl⟩ := H
          go_enter Try.func38, Try.ntmps38
          go_wp2
          go_ret2
          exact ⟨by first | rfl | (simp; done) | (simp [*]; done), by repeat (first | exact Drawn0.refl _ | apply Drawn0.step)⟩
        · rw [if_neg c6] at H
          have c6b0 : (a0.toList == ([60, 61] : List UInt8)) = false := beq_eq_false_iff_ne.mpr c6
          have c6b1 : (a0.toList != ([60, 61] : List UInt8)) = true := bne_iff_ne.mpr c6
          by_cases c7 : a0.toList = ([62] : List UInt8)
          · rw [if_pos c7] at H
            have c7b0 : (a0.toList == ([62] : List UInt8)) = true := beq_iff_eq.mpr c7
            have c7b1 : (a0.toList != ([62] : List UInt8)) = false := bne_eq_false_iff_eq.mpr c7
            clear c7
            simp only [Option.some.injEq, Prod.mk.injEq] at H
            obtain ⟨rfl, rfl⟩ := H
            go_enter Try.func38, Try.ntmps38
            go_wp2
            go_ret2
            exact ⟨by first | rfl | (simp; done) | (simp [*]; done), by repeat (first | exact Drawn0.refl _ | apply Drawn0.step)⟩
          · rw [if_neg c7] at H
            have c7b0 : (a0.toList == ([62] : List UInt8)) = false := beq_eq_false_iff_ne.mpr c7
            have c7b1 : (a0.toList != ([62] : List UInt8)) = true := bne_iff_ne.mpr c7
            by_cases c8 : a0.toList = ([62, 61] : List UInt8)
            · rw [if_pos c8] at H
              have c8b0 : (a0.toList == ([62, 61] : List UInt8)) = true := beq_iff_eq.mpr c8
              have c8b1 : (a0.toList != ([62, 61] : List UInt8)) = false := bne_eq_false_iff_eq.mpr c8
              clear c8
              simp only [Option.some.injEq, Prod.mk.injEq] at H
              obtain ⟨rfl, rfl⟩ := H
              go_enter Try.func38, Try.ntmps38
              go_wp2
              go_ret2
              exact ⟨by first | rfl | (simp; done) | (simp [*]; done), by repeat (first | exact Drawn0.refl _ | apply Drawn0.step)⟩
            · rw [if_neg c8] at H
              have c8b0 : (a0.toList == ([62, 61] : List UInt8)) = false := beq_eq_false_iff_ne.mpr c8
              have c8b1 : (a0.toList != ([62, 61] : List UInt8)) = true := bne_iff_ne.mpr c8
              simp only [Option.some.injEq, Prod.mk.injEq] at H
              obtain ⟨rfl, rfl⟩ := H
              go_enter Try.func38, Try.ntmps38
              go_wp2
              go_ret2
              exact ⟨by first | rfl | (simp; done) | (simp [*]; done), by repeat (first | exact Drawn0.refl _ | apply Drawn0.step)⟩


/-! ### spinetref12_SetOp: function 40 -/
def spinetref12_SetOp.f (a0 : ByteArray) (a1 : Int) (a2 : Int) : Option (Int × Bool) := if a0.toList = ([43] : List UInt8) then (some (Go.bits .or .u32 a1 a2, true)) else (if a0.toList = ([45] : List UInt8) then (some (Go.bits .andNot .u32 a1 a2, true)) else (if a0.toList = ([42] : List UInt8) then (some (Go.bits .and .u32 a1 a2, true)) else (if a0.toList = ([47] : List UInt8) then (some (Go.bits .xor .u32 a1 a2, true)) else (some (0, false)))))
set_option maxHeartbeats 8000000 in
set_option maxRecDepth 100000 in
theorem spinetref12_SetOp.calls (a0 : ByteArray) (a1 : Int) (a2 : Int) (r1 : Int) (r2 : Bool) (w : World) (h : spinetref12_SetOp.f a0 a1 a2 = some (r1, r2)) :
    Calls Try.prog 40 #[.string a0, .int .u32 a1, .int .u32 a2] w fun e w' => e = .returned (.tuple #[.int .u32 r1, .bool r2]) ∧ Drawn0 w w' := by
  have H : (if a0.toList = ([43] : List UInt8) then (some (Go.bits .or .u32 a1 a2, true)) else (if a0.toList = ([45] : List UInt8) then (some (Go.bits .andNot .u32 a1 a2, true)) else (if a0.toList = ([42] : List UInt8) then (some (Go.bits .and .u32 a1 a2, true)) else (if a0.toList = ([47] : List UInt8) then (some (Go.bits .xor .u32 a1 a2, true)) else (some (0, false)))))) = some (r1, r2) := h
  clear h
  by_cases c4 : a0.toList = ([43] : List UInt8)
  · rw [if_pos c4] at H
    have c4b0 : (a0.toList == ([43] : List UInt8)) = true := beq_iff_eq.mpr c4
    have c4b1 : (a0.toList != ([43] : List UInt8)) = false := bne_eq_false_iff_eq.mpr c4
    clear c4
    simp only [Option.some.injEq, Prod.mk.injEq] at H
    obtain ⟨rfl, rfl⟩ := H
    go_enter Try.func40, Try.ntmps40
    go_wp2
    go_ret2
    exact ⟨by first | rfl | (simp; done) | (simp [*]; done), by repeat (first | exact Drawn0.refl _ | apply Drawn0.step)⟩
  · rw [if_neg c4] at H
    have c4b0 : (a0.toList == ([43] : List UInt8)) = false := beq_eq_false_iff_ne.mpr c4
    have c4b1 : (a0.toList != ([43] : List UInt8)) = true := bne_iff_ne.mpr c4
    by_cases c5 : a0.toList = ([45] : List UInt8)
    · rw [if_pos c5] at H
      have c5b0 : (a0.toList == ([45] : List UInt8)) = true := beq_iff_eq.mpr c5
      have c5b1 : (a0.toList != ([45] : List UInt8)) = false := bne_eq_false_iff_eq.mpr c5
      clear c5
      simp only [Option.some.injEq, Prod.mk.injEq] at H
      obtain ⟨rfl, rfl⟩ := H
      go_enter Try.func40, Try.ntmps40
      go_wp2
      go_ret2
      exact ⟨by first | rfl | (simp; done) | (simp [*]; done), by repeat (first | exact Drawn0.refl _ | apply Drawn0.step)⟩
    · rw [if_neg c5] at H
      have c5b0 : (a0.toList == ([45] : List UInt8)) = false := beq_eq_false_iff_ne.mpr c5
      have c5b1 : (a0.toList != ([45] : List UInt8)) = true := bne_iff_ne.mpr c5
      by_cases c6 : a0.toList = ([42] : List UInt8)
      · rw [if_pos c6] at H
        have c6b0 : (a0.toList == ([42] : List UInt8)) = true := beq_iff_eq.mpr c6
        have c6b1 : (a0.toList != ([42] : List UInt8)) = false := bne_eq_false_iff_eq.mpr c6
        clear c6
        simp only [Option.some.injEq, Prod.mk.injEq] at H
        obtain ⟨rfl, rfl⟩ := H
        go_enter Try.func40, Try.ntmps40
        go_wp2
        go_ret2
        exact ⟨by first | rfl | (simp; done) | (simp [*]; done), by repeat (first | exact Drawn0.refl _ | apply Drawn0.step)⟩
      · rw [if_neg c6] at H
        have c6b0 : (a0.toList == ([42] : List UInt8)) = false := beq_eq_false_iff_ne.mpr c6
        have c6b1 : (a0.toList != ([42] : List UInt8)) = true := bne_iff_ne.mpr c6
        by_cases c7 : a0.toList = ([47] : List UInt8)
        · rw [if_pos c7] at H
          have c7b0 : (a0.toList == ([47] : List UInt8)) = true := beq_iff_eq.mpr c7
          have c7b1 : (a0.toList != ([47] : List UInt8)) = false := bne_eq_false_iff_eq.mpr c7
          clear c7
          simp only [Option.some.injEq, Prod.mk.injEq] at H
          obtain ⟨rfl, rfl⟩ := H
          go_enter Try.func40, Try.ntmps40
          go_wp2
          go_ret2
          exact ⟨by first | rfl | (simp; done) | (simp [*]; done), by repeat (first | exact Drawn0.refl _ | apply Drawn0.step)⟩
        · rw [if_neg c7] at H
          have c7b0 : (a0.toList == ([47] : List UInt8)) = false := beq_eq_false_iff_ne.mpr c7
          have c7b1 : (a0.toList != ([47] : List UInt8)) = true := bne_iff_ne.mpr c7
          simp only [Option.some.injEq, Prod.mk.injEq] at H
          obtain ⟨rfl, rfl⟩ := H
          go_enter Try.func40, Try.ntmps40
          go_wp2
          go_ret2
          exact ⟨by first | rfl | (simp; done) | (simp [*]; done), by repeat (first | exact Drawn0.refl _ | apply Drawn0.step)⟩


/-! ### spinetref03_Do: function 82 -/
def spinetref03_Do.j0 : Nat → Int → Bool → Int → Int → Int → Bool → Bool → Bool → Bool → Bool → Option (Int × Int × Bool × Bool × Bool × Bool × Bool)
  | 0, _, _, _, _, _, _, _, _, _, _ => none
  | k + 1, x0, x1, x2, x3, x4, x45, x142000, x142001, x142002, x142003 => if x45 = true then (some (0, 0, false, false, false, false, false)) else ((spinetref01_Signed.f x2).bind fun t144 => ((spinetref01_Signed.f x3).bind fun t145 => (if x0 = 0 then (if x1 = true then (some (x4, x4, decide (x4 ≥ 2147483648), (x4 == 0), x142002, x142003, true)) else (some (x3, x4, decide (x3 ≥ 2147483648), (x3 == 0), x142002, x142003, true))) else (if x0 = 1 then ((spinetref01_Lsl.f k x2 x3).bind fun t146 => (some (t146, x4, decide (t146 ≥ 2147483648), (t146 == 0), x142002, x142003, true))) else (if x0 = 2 then ((spinetref01_Asr.f k x2 x3).bind fun t147 => (some (t147, x4, decide (t147 ≥ 2147483648), (t147 == 0), x142002, x142003, true))) else (if x0 = 3 then ((spinetref01_Ror.f k x2 x3).bind fun t148 => (some (t148, x4, decide (t148 ≥ 2147483648), (t148 == 0), x142002, x142003, true))) else (if x0 = 4 then (some (Go.bits .and .u32 x2 x3, x4, decide ((Go.bits .and .u32 x2 x3) ≥ 2147483648), ((Go.bits .and .u32 x2 x3) == 0), x142002, x142003, true)) else (if x0 = 5 then (some (Go.bits .andNot .u32 x2 x3, x4, decide ((Go.bits .andNot .u32 x2 x3) ≥ 2147483648), ((Go.bits .andNot .u32 x2 x3) == 0), x142002, x142003, true)) else (if x0 = 6 then (some (Go.bits .or .u32 x2 x3, x4, decide ((Go.bits .or .u32 x2 x3) ≥ 2147483648), ((Go.bits .or .u32 x2 x3) == 0), x142002, x142003, true)) else (if x0 = 7 then (some (Go.bits .xor .u32 x2 x3, x4, decide ((Go.bits .xor .u32 x2 x3) ≥ 2147483648), ((Go.bits .xor .u32 x2 x3) == 0), x142002, x142003, true)) else (if x0 = 8 then ((spinetref03_carry.f x1 x142000 x142001 x142002 x142003).bind fun t149 => ((spinetref01_Word.f (wrap64 ((wrap64 ((wrap64 (x2)) + (wrap64 (x3)))) + t149))).bind fun t150 => ((spinetref03_carry.f x1 x142000 x142001 x142002 x142003).bind fun t151 => ((spinetref01_Fits.f k (wrap64 ((wrap64 (t144 + t145)) + t151)) 32).bind fun t152 => (some (t150, x4, decide (t150 ≥ 2147483648), (t150 == 0), decide ((wrap64 ((wrap64 ((wrap64 (x2)) + (wrap64 (x3)))) + t149)) ≥ 4294967296), !t152, true)))))) else (if x0 = 9 then ((spinetref03_carry.f x1 x142000 x142001 x142002 x142003).bind fun t153 => ((spinetref01_Word.f (wrap64 ((wrap64 ((wrap64 (x2)) - (wrap64 (x3)))) - t153))).bind fun t154 => ((spinetref03_carry.f x1 x142000 x142001 x142002 x142003).bind fun t155 => ((spinetref01_Fits.f k (wrap64 ((wrap64 (t144 - t145)) - t155)) 32).bind fun t156 => (some (t154, x4, decide (t154 ≥ 2147483648), (t154 == 0), decide ((wrap64 ((wrap64 ((wrap64 (x2)) - (wrap64 (x3)))) - t153)) < 0), !t156, true)))))) else (if x0 = 10 then (if x1 = true then (some ((Int.tmod (IntKind.u64.wrap ((IntKind.u64.wrap (x2)) * (IntKind.u64.wrap (x3)))) 4294967296) % 4294967296, (IntKind.u64.wrap (Int.tdiv (IntKind.u64.wrap ((IntKind.u64.wrap (x2)) * (IntKind.u64.wrap (x3)))) 4294967296)) % 4294967296, decide (((Int.tmod (IntKind.u64.wrap ((IntKind.u64.wrap (x2)) * (IntKind.u64.wrap (x3)))) 4294967296) % 4294967296) ≥ 2147483648), (((Int.tmod (IntKind.u64.wrap ((IntKind.u64.wrap (x2)) * (IntKind.u64.wrap (x3)))) 4294967296) % 4294967296) == 0), x142002, x142003, true)) else ((spinetref01_Word.f (wrap64 (t144 * t145))).bind fun t157 => ((spinetref03_floor.f (wrap64 (t144 * t145)) 4294967296).bind fun t158 => ((spinetref01_Word.f t158).bind fun t159 => (some (t157, t159, decide (t157 ≥ 2147483648), (t157 == 0), x142002, x142003, true)))))) else (if t145 > 0 then ((spinetref03_floor.f t144 t145).bind fun t160 => ((spinetref01_Word.f t160).bind fun t161 => ((spinetref01_Word.f (wrap64 (t144 - (wrap64 (t160 * t145))))).bind fun t162 => (some (t161, t162, decide (t161 ≥ 2147483648), (t161 == 0), x142002, x142003, true))))) else (some (0, x2, decide (0 ≥ 2147483648), (0 == 0), x142002, x142003, true))))))))))))))))
def spinetref03_Do.f (k : Nat) (a0 : Int) (a1 : Bool) (a2 : Int) (a3 : Int) (a4 : Int) (a5_0 : Bool) (a5_1 : Bool) (a5_2 : Bool) (a5_3 : Bool) : Option (Int × Int × Bool × Bool × Bool × Bool × Bool) := if a0 < 0 then (spinetref03_Do.j0 k a0 a1 a2 a3 a4 true a5_0 a5_1 a5_2 a5_3) else (if a0 > 11 then (spinetref03_Do.j0 k a0 a1 a2 a3 a4 true a5_0 a5_1 a5_2 a5_3) else (if a1 = true then (if a0 = 0 then (spinetref03_Do.j0 k a0 a1 a2 a3 a4 false a5_0 a5_1 a5_2 a5_3) else (if a0 = 8 then (spinetref03_Do.j0 k a0 a1 a2 a3 a4 false a5_0 a5_1 a5_2 a5_3) else (if a0 = 9 then (spinetref03_Do.j0 k a0 a1 a2 a3 a4 false a5_0 a5_1 a5_2 a5_3) else (spinetref03_Do.j0 k a0 a1 a2 a3 a4 (a0 != 10) a5_0 a5_1 a5_2 a5_3)))) else (spinetref03_Do.j0 k a0 a1 a2 a3 a4 false a5_0 a5_1 a5_2 a5_3)))
theorem spinetref03_Do.mono_l : ∀ k, (∀ y0 y1 y2 y3 y4 y5 y6 y7 y8 y9, LeO (spinetref03_Do.j0 k y0 y1 y2 y3 y4 y5 y6 y7 y8 y9) (spinetref03_Do.j0 (k + 1) y0 y1 y2 y3 y4 y5 y6 y7 y8 y9))
  | 0 => fun _ _ _ _ _ _ _ _ _ _ r h => by simp [spinetref03_Do.j0] at h
  | k + 1 => by
    have ih0 := spinetref03_Do.mono_l k
    · intro y0 y1 y2 y3 y4 y5 y6 y7 y8 y9
      unfold spinetref03_Do.j0
      repeat' first
      | (with_reducible exact ih0 _ _ _ _ _ _ _ _ _ _)
      | (with_reducible exact spinetref01_Asr.mono _ _ _)
      | (with_reducible exact spinetref01_Fits.mono _ _ _)
      | (with_reducible exact spinetref01_Lsl.mono _ _ _)
      | (with_reducible exact spinetref01_Ror.mono _ _ _)
      | (with_reducible exact LeO.refl _)
      | (with_reducible exact LeO.none _)
      | (with_reducible refine LeO.ite ?_ ?_)
      | (with_reducible refine LeO.bind ?_ (fun _ => ?_))
      | exact ih0 _ _ _ _ _ _ _ _ _ _
      | exact spinetref01_Asr.mono _ _ _
      | exact spinetref01_Fits.mono _ _ _
      | exact spinetref01_Lsl.mono _ _ _
      | exact spinetref01_Ror.mono _ _ _
      | exact LeO.none _
      | refine LeO.ite ?_ ?_
      | refine LeO.bind ?_ (fun _ => ?_)
theorem spinetref03_Do.mono : ∀ a0 a1 a2 a3 a4 a5 a6 a7 a8 k, LeO (spinetref03_Do.f k a0 a1 a2 a3 a4 a5 a6 a7 a8) (spinetref03_Do.f (k + 1) a0 a1 a2 a3 a4 a5 a6 a7 a8) := by
  intro a0 a1 a2 a3 a4 a5 a6 a7 a8 k
  have ih0 := spinetref03_Do.mono_l k
  unfold spinetref03_Do.f
  repeat' first
      | (with_reducible exact ih0 _ _ _ _ _ _ _ _ _ _)
      | (with_reducible exact spinetref01_Asr.mono _ _ _)
      | (with_reducible exact spinetref01_Fits.mono _ _ _)
      | (with_reducible exact spinetref01_Lsl.mono _ _ _)
      | (with_reducible exact spinetref01_Ror.mono _ _ _)
      | (with_reducible exact LeO.refl _)
      | (with_reducible exact LeO.none _)
      | (with_reducible refine LeO.ite ?_ ?_)
      | (with_reducible refine LeO.bind ?_ (fun _ => ?_))
      | exact ih0 _ _ _ _ _ _ _ _ _ _
      | exact spinetref01_Asr.mono _ _ _
      | exact spinetref01_Fits.mono _ _ _
      | exact spinetref01_Lsl.mono _ _ _
      | exact spinetref01_Ror.mono _ _ _
      | exact LeO.none _
      | refine LeO.ite ?_ ?_
      | refine LeO.bind ?_ (fun _ => ?_)

theorem setCell_twice (w : World) (a : Addr) (x y : Value) : (w.setCell a x).setCell a y = w.setCell a y := by
  unfold World.setCell
  congr 1
  apply Array.ext_getElem?
  intro i
  simp only [Array.getElem?_modify]
  by_cases h : a.block = i
  · simp only [h, if_true, Option.map_map]
    congr 1
    funext o
    cases o <;> simp
    split <;> simp
  · simp only [h, if_false]
theorem rw64z : wrap64 0 = 0 := by decide +kernel
theorem rw64o : wrap64 1 = 1 := by decide +kernel
theorem rw64i (n : Int) : wrap64 (wrap64 n) = wrap64 n := by unfold wrap64; omega
set_option maxRecDepth 100000 in
set_option maxHeartbeats 4000000 in
theorem rdo_11_y (k : Nat) (b n h z : Int) (N Z C V : Bool) (r1 r2 : Int) (r3 r4 r5 r6 r7 : Bool) (w : World) (hy : spinetref01_Signed.f n = some z ∧ z > 0) (H : spinetref03_Do.j0 (k + 1) 11 false b n h false N Z C V = some (r1, r2, r3, r4, r5, r6, r7)) :
    Calls Try.prog 82 #[.int .i64 11, .bool false, .int .u32 b, .int .u32 n, .int .u32 h, .agg #[.bool N, .bool Z, .bool C, .bool V]] w fun e w' => e = .returned (.agg #[.int .u32 r1, .int .u32 r2, .bool r3, .bool r4, .bool r5, .bool r6, .bool r7]) ∧ Below w.heap.size w w' := by
  simp only [spinetref03_Do.j0, spinetref03_carry.f, Int.add_zero, Int.sub_zero, Int.reduceEq, Int.reduceLT, Int.reduceGT, Bool.false_eq_true, reduceIte, Option.bind_some, decide_true, decide_false] at H
  obtain ⟨hz, hy⟩ := hy
  obtain ⟨tb, Btb, H⟩ := Option.bind_eq_some_iff.mp H
  have Atb := Aside0.mk Btb
  clear Btb
  rw [hz] at H
  simp only [Option.bind_some] at H
  rw [if_pos hy] at H
  have Atn := Aside0.mk hz
  clear hz
  have hyb : decide (z > 0) = true := decide_eq_true hy
  obtain ⟨tq, Btq, H⟩ := Option.bind_eq_some_iff.mp H
  have Atq := Aside0.mk Btq
  clear Btq
  obtain ⟨tw, Btw, H⟩ := Option.bind_eq_some_iff.mp H
  have Atw := Aside0.mk Btw
  clear Btw
  obtain ⟨tv, Btv, H⟩ := Option.bind_eq_some_iff.mp H
  have Atv := Aside0.mk Btv
  clear Btv
  obtain ⟨rfl, rfl, rfl, rfl, rfl, rfl, rfl⟩ : _ = r1 ∧ _ = r2 ∧ _ = r3 ∧ _ = r4 ∧ _ = r5 ∧ _ = r6 ∧ _ = r7 := by simpa only [Option.some.injEq, Prod.mk.injEq] using H
  clear H
  go_enter Try.func82, Try.ntmps82
  go_wp2_with (first | (go_at_call 53; (with_reducible refine (spinetref01_Signed.calls b tb _ Atb.out).mono ?_); rintro e w' ⟨rfl, ndb, rfl⟩) | (go_at_call 53; (with_reducible refine (spinetref01_Signed.calls n z _ Atn.out).mono ?_); rintro e w' ⟨rfl, ndn, rfl⟩) | (go_at_call 90; (with_reducible refine (spinetref03_floor.calls _ _ tq _ Atq.out).mono ?_); rintro e w' ⟨rfl, ndtq, rfl⟩) | (go_at_call 52; (with_reducible refine (spinetref01_Word.calls _ tw _ Atw.out).mono ?_); rintro e w' ⟨rfl, ndtw, rfl⟩) | (go_at_call 52; (with_reducible refine (spinetref01_Word.calls _ tv _ Atv.out).mono ?_); rintro e w' ⟨rfl, ndtv, rfl⟩) | go_in)
  refine bodyPost_ret (v := _) (by first | (simp [results, Try.results82, go_sem]; done) | (simp [results, Try.results82, go_sem]; rfl)) rfl ⟨?_, ?_⟩
  · first | rfl | (simp [rw64z, rw64o, rw64i]; done)
  · exact by repeat (first | (with_reducible exact Below.refl _ _) | (with_reducible apply below_alloc) | (with_reducible apply pw_below_drewN) | (with_reducible apply Below.drew) | (refine Below.setCell ?_ (by first | exact Nat.le_refl _ | exact Nat.le_succ _ | (simp; done) | (simp; omega)) _))

set_option maxRecDepth 100000 in
set_option maxHeartbeats 4000000 in
theorem rdo_11_z (k : Nat) (b n h z : Int) (N Z C V : Bool) (r1 r2 : Int) (r3 r4 r5 r6 r7 : Bool) (w : World) (hy : spinetref01_Signed.f n = some z ∧ ¬ z > 0) (H : spinetref03_Do.j0 (k + 1) 11 false b n h false N Z C V = some (r1, r2, r3, r4, r5, r6, r7)) :
    Calls Try.prog 82 #[.int .i64 11, .bool false, .int .u32 b, .int .u32 n, .int .u32 h, .agg #[.bool N, .bool Z, .bool C, .bool V]] w fun e w' => e = .returned (.agg #[.int .u32 r1, .int .u32 r2, .bool r3, .bool r4, .bool r5, .bool r6, .bool r7]) ∧ Below w.heap.size w w' := by
  simp only [spinetref03_Do.j0, spinetref03_carry.f, Int.add_zero, Int.sub_zero, Int.reduceEq, Int.reduceLT, Int.reduceGT, Bool.false_eq_true, reduceIte, Option.bind_some, decide_true, decide_false] at H
  obtain ⟨hz, hy⟩ := hy
  obtain ⟨tb, Btb, H⟩ := Option.bind_eq_some_iff.mp H
  have Atb := Aside0.mk Btb
  clear Btb
  rw [hz] at H
  simp only [Option.bind_some] at H
  rw [if_neg hy] at H
  have Atn := Aside0.mk hz
  clear hz
  have hyb : decide (z > 0) = false := decide_eq_false hy
  obtain ⟨rfl, rfl, rfl, rfl, rfl, rfl, rfl⟩ : _ = r1 ∧ _ = r2 ∧ _ = r3 ∧ _ = r4 ∧ _ = r5 ∧ _ = r6 ∧ _ = r7 := by simpa only [Option.some.injEq, Prod.mk.injEq] using H
  clear H
  go_enter Try.func82, Try.ntmps82
  go_wp2_with (first | (go_at_call 53; (with_reducible refine (spinetref01_Signed.calls b tb _ Atb.out).mono ?_); rintro e w' ⟨rfl, ndb, rfl⟩) | (go_at_call 53; (with_reducible refine (spinetref01_Signed.calls n z _ Atn.out).mono ?_); rintro e w' ⟨rfl, ndn, rfl⟩) | go_in)
  refine bodyPost_ret (v := _) (by first | (simp [results, Try.results82, go_sem]; done) | (simp [results, Try.results82, go_sem]; rfl)) rfl ⟨?_, ?_⟩
  · first | rfl | (simp [rw64z, rw64o, rw64i]; done)
  · exact by repeat (first | (with_reducible exact Below.refl _ _) | (with_reducible apply below_alloc) | (with_reducible apply pw_below_drewN) | (with_reducible apply Below.drew) | (refine Below.setCell ?_ (by first | exact Nat.le_refl _ | exact Nat.le_succ _ | (simp; done) | (simp; omega)) _))

theorem spinetref03_Do.calls (k : Nat) (a0 : Int) (a1 : Bool) (a2 : Int) (a3 : Int) (a4 : Int) (a5_0 : Bool) (a5_1 : Bool) (a5_2 : Bool) (a5_3 : Bool) (r1 : Int) (r2 : Int) (r3 : Bool) (r4 : Bool) (r5 : Bool) (r6 : Bool) (r7 : Bool) (w : World) (h : spinetref03_Do.f k a0 a1 a2 a3 a4 a5_0 a5_1 a5_2 a5_3 = some (r1, r2, r3, r4, r5, r6, r7)) (hq : a0 = 11 ∧ a1 = false := by exact ⟨rfl, rfl⟩) :
    Calls Try.prog 82 #[.int .i64 a0, .bool a1, .int .u32 a2, .int .u32 a3, .int .u32 a4, .agg #[.bool a5_0, .bool a5_1, .bool a5_2, .bool a5_3]] w fun e w' => e = .returned (.agg #[.int .u32 r1, .int .u32 r2, .bool r3, .bool r4, .bool r5, .bool r6, .bool r7]) ∧ Below w.heap.size w w' := by
  obtain ⟨rfl, rfl⟩ := hq
  have e : spinetref03_Do.f k 11 false a2 a3 a4 a5_0 a5_1 a5_2 a5_3 = spinetref03_Do.j0 k 11 false a2 a3 a4 false a5_0 a5_1 a5_2 a5_3 := by simp [spinetref03_Do.f]
  rw [e] at h
  obtain ⟨k, rfl⟩ : ∃ j, k = j + 1 := by
    match k, h with
    | 0, h => simp [spinetref03_Do.j0] at h
    | j + 1, _ => exact ⟨j, rfl⟩
  obtain ⟨z, hz⟩ : ∃ z, spinetref01_Signed.f a3 = some z := by unfold spinetref01_Signed.f; split <;> exact ⟨_, rfl⟩
  by_cases hy : z > 0
  · exact rdo_11_y k a2 a3 a4 z a5_0 a5_1 a5_2 a5_3 r1 r2 r3 r4 r5 r6 r7 w ⟨hz, hy⟩ h
  · exact rdo_11_z k a2 a3 a4 z a5_0 a5_1 a5_2 a5_3 r1 r2 r3 r4 r5 r6 r7 w ⟨hz, hy⟩ h

/-! ### spinetref12_ints: function 39 -/
def spinetref12_ints.j0 : Nat → ByteArray → Int → Int → Bool → Option (Int × Int × ByteArray × Int)
  | 0, _, _, _, _ => none
  | k + 1, x0, x1, x2, x34 => if x34 = true then (if x2 ≤ 0 then (some (0, 0, (⟨#[]⟩ : ByteArray), 121)) else ((spinetref01_Word.f x1).bind fun t176 => ((spinetref01_Word.f x2).bind fun t177 => ((spinetref03_Do.f k 11 false t176 t177 0 false false false false).bind fun bt178 => (if x0.toList = ([68, 73, 86] : List UInt8) then ((spinetref01_Signed.f bt178.1).bind fun t186 => ((spinetref12_integer.f k t186).bind fun bt187 => (some (bt187.1, bt187.2.1, bt187.2.2.1, bt187.2.2.2)))) else ((spinetref01_Signed.f bt178.2.1).bind fun t191 => ((spinetref12_integer.f k t191).bind fun bt192 => (some (bt192.1, bt192.2.1, bt192.2.2.1, bt192.2.2.2))))))))) else ((spinetref12_none.f).bind fun bt196 => (some (bt196.1, bt196.2.1, bt196.2.2.1, bt196.2.2.2)))
def spinetref12_ints.f (k : Nat) (a0 : ByteArray) (a1 : Int) (a2 : Int) : Option (Int × Int × ByteArray × Int) := if a0.toList = ([43] : List UInt8) then ((spinetref12_integer.f k (wrap64 (a1 + a2))).bind fun bt164 => (some (bt164.1, bt164.2.1, bt164.2.2.1, bt164.2.2.2))) else (if a0.toList = ([45] : List UInt8) then ((spinetref12_integer.f k (wrap64 (a1 - a2))).bind fun bt168 => (some (bt168.1, bt168.2.1, bt168.2.2.1, bt168.2.2.2))) else (if a0.toList = ([42] : List UInt8) then ((spinetref12_integer.f k (wrap64 (a1 * a2))).bind fun bt172 => (some (bt172.1, bt172.2.1, bt172.2.2.1, bt172.2.2.2))) else (if a0.toList = ([68, 73, 86] : List UInt8) then (spinetref12_ints.j0 k a0 a1 a2 (a0.toList == ([68, 73, 86] : List UInt8))) else (spinetref12_ints.j0 k a0 a1 a2 (a0.toList == ([77, 79, 68] : List UInt8))))))
theorem spinetref12_ints.mono_l : ∀ k, (∀ y0 y1 y2 y3, LeO (spinetref12_ints.j0 k y0 y1 y2 y3) (spinetref12_ints.j0 (k + 1) y0 y1 y2 y3))
  | 0 => fun _ _ _ _ r h => by simp [spinetref12_ints.j0] at h
  | k + 1 => by
    have ih0 := spinetref12_ints.mono_l k
    · intro y0 y1 y2 y3
      unfold spinetref12_ints.j0
      repeat' first
      | (with_reducible exact ih0 _ _ _ _)
      | (with_reducible exact spinetref03_Do.mono _ _ _ _ _ _ _ _ _ _)
      | (with_reducible exact spinetref12_integer.mono _ _)
      | (with_reducible exact LeO.refl _)
      | (with_reducible exact LeO.none _)
      | (with_reducible refine LeO.ite ?_ ?_)
      | (with_reducible refine LeO.bind ?_ (fun _ => ?_))
      | exact ih0 _ _ _ _
      | exact spinetref03_Do.mono _ _ _ _ _ _ _ _ _ _
      | exact spinetref12_integer.mono _ _
      | exact LeO.none _
      | refine LeO.ite ?_ ?_
      | refine LeO.bind ?_ (fun _ => ?_)
theorem spinetref12_ints.mono : ∀ a0 a1 a2 k, LeO (spinetref12_ints.f k a0 a1 a2) (spinetref12_ints.f (k + 1) a0 a1 a2) := by
  intro a0 a1 a2 k
  have ih0 := spinetref12_ints.mono_l k
  unfold spinetref12_ints.f
  repeat' first
      | (with_reducible exact ih0 _ _ _ _)
      | (with_reducible exact spinetref03_Do.mono _ _ _ _ _ _ _ _ _ _)
      | (with_reducible exact spinetref12_integer.mono _ _)
      | (with_reducible exact LeO.refl _)
      | (with_reducible exact LeO.none _)
      | (with_reducible refine LeO.ite ?_ ?_)
      | (with_reducible refine LeO.bind ?_ (fun _ => ?_))
      | exact ih0 _ _ _ _
      | exact spinetref03_Do.mono _ _ _ _ _ _ _ _ _ _
      | exact spinetref12_integer.mono _ _
      | exact LeO.none _
      | refine LeO.ite ?_ ?_
      | refine LeO.bind ?_ (fun _ => ?_)
set_option maxHeartbeats 8000000 in
set_option maxRecDepth 100000 in
theorem spinetref12_ints.calls (k : Nat) (a0 : ByteArray) (a1 : Int) (a2 : Int) (r1 : Int) (r2 : Int) (r3 : ByteArray) (r4 : Int) (w : World) (h : spinetref12_ints.f k a0 a1 a2 = some (r1, r2, r3, r4)) :
    Calls Try.prog 39 #[.string a0, .int .i64 a1, .int .i64 a2] w fun e w' => e = .returned (.tuple #[.agg #[.int .i64 r1, .int .i64 r2, .string r3], .int .i64 r4]) ∧ Below w.heap.size w w' := by
  have hu23 := Try.underlying23
  have hu91 := Try.underlying91
  have hu93 := Try.underlying93
  have HB := Aside0.mk (Below.refl w.heap.size w)
  have H : (if a0.toList = ([43] : List UInt8) then ((spinetref12_integer.f k (wrap64 (a1 + a2))).bind fun bt164 => (some (bt164.1, bt164.2.1, bt164.2.2.1, bt164.2.2.2))) else (if a0.toList = ([45] : List UInt8) then ((spinetref12_integer.f k (wrap64 (a1 - a2))).bind fun bt168 => (some (bt168.1, bt168.2.1, bt168.2.2.1, bt168.2.2.2))) else (if a0.toList = ([42] : List UInt8) then ((spinetref12_integer.f k (wrap64 (a1 * a2))).bind fun bt172 => (some (bt172.1, bt172.2.1, bt172.2.2.1, bt172.2.2.2))) else (if a0.toList = ([68, 73, 86] : List UInt8) then (spinetref12_ints.j0 k a0 a1 a2 (a0.toList == ([68, 73, 86] : List UInt8))) else (spinetref12_ints.j0 k a0 a1 a2 (a0.toList == ([77, 79, 68] : List UInt8))))))) = some (r1, r2, r3, r4) := h
  clear h
  by_cases c4 : a0.toList = ([43] : List UInt8)
  · rw [if_pos c4] at H
    have c4b0 : (a0.toList == ([43] : List UInt8)) = true := beq_iff_eq.mpr c4
    have c4b1 : (a0.toList != ([43] : List UInt8)) = false := bne_eq_false_iff_eq.mpr c4
    clear c4
    replace H := Option.bind_eq_some_iff.mp H
    obtain ⟨⟨t164, t165, t166, t167⟩, A50, H⟩ := H
    replace H : (some (t164, t165, t166, t167)) = some (r1, r2, r3, r4) := H
    have A5 := Aside0.mk A50
    clear A50
    simp only [Option.some.injEq, Prod.mk.injEq] at H
    obtain ⟨rfl, rfl, rfl, rfl⟩ := H
    go_enter Try.func39, Try.ntmps39
    go_wp2_with (first | ((with_reducible refine gate_dst (N := 6) rfl ?_); refine box_event ?hg (N := 6) ?hd (cs := #[.int .i64 0, .int .i64 0, .string (⟨#[]⟩ : ByteArray)]) (t := 23) ?hr ?_; (case hd => rfl); (case hg => rfl); (case hr => first | (go_simp; done) | (go_simp; rfl)); intro gb163 hg w6 hbox hb; have n0_ := Aside0.mk (below_step (by repeat (first | (with_reducible first | exact HB.out | apply below_alloc | apply pw_below_drewN | apply below_drew1) | exact HB.out)) hb); have n1_ := Aside0.mk (hbox); have n2_ := Aside0.mk ((by rw [hg]; exact (below_size (by repeat (first | (with_reducible first | exact HB.out | apply below_alloc | apply pw_below_drewN | apply below_drew1) | exact HB.out))) : w.heap.size ≤ gb163)); have n3_ := Aside0.mk ((by rw [hg]; exact (below_size (by repeat (first | (with_reducible first | exact HB.out | apply below_alloc | apply pw_below_drewN | apply below_drew1) | exact HB.out))) : w.heap.size ≤ gb163)); clear HB; have HB := n0_; have BK163 := n1_; have GW163 := n2_; have GE163 := n3_; clear n0_ n1_ n2_ n3_; clear hb hbox hg) | ((with_reducible refine gate_callee (f := 45) rfl ?_); refine goesL_ (some 15) rfl rfl Try.func45 (by kernel_rfl) rfl #[.int .i64 (wrap64 (a1 + a2))] rfl (by (try simp only [List.map_toArray, List.map_cons, List.map_nil]); first | done | rfl | (simp only [List.length_drop, List.length_take]; rfl)) ?_; (with_reducible refine (spinetref12_integer.calls k (wrap64 (a1 + a2)) t164 t165 t166 t167 _ A5.out).mono ?_); rintro e w7 ⟨rfl, hb⟩; refine ⟨_, rfl, ?_⟩; have n0_ := Aside0.mk (blk_below (g := gb163) (o := .cells #[.int .i64 0, .int .i64 0, .string (⟨#[]⟩ : ByteArray)] 23 (0, 0)) (by (with_reducible repeat (first | refine blk_drewN ?_ _ | refine blk_drew ?_ | refine blk_alloc ?_ _)); exact BK163.out) hb); have n1_ := Aside0.mk (below_step (by repeat (first | (with_reducible first | exact HB.out | apply below_alloc | apply pw_below_drewN | apply below_drew1 | refine below_set ?_ GE163.out) | exact HB.out)) hb); clear BK163; clear HB; have BK163 := n0_; have HB := n1_; clear n0_ n1_; (try clear hb); (try clear hb2); (try clear hk); (try clear hi); have hcz8_0 : w7.cell? ⟨gb163, 0, none⟩ = some (.int .i64 0) := (blk_cell BK163.out 0).trans rfl; have hcz8_1 : w7.cell? ⟨gb163, 1, none⟩ = some (.int .i64 0) := (blk_cell BK163.out 1).trans rfl; have hcz8_2 : w7.cell? ⟨gb163, 2, none⟩ = some (.string (⟨#[]⟩ : ByteArray)) := (blk_cell BK163.out 2).trans rfl; have hfz8_0 := blk_frozen BK163.out 0; have hfz8_1 := blk_frozen BK163.out 1; have hfz8_2 := blk_frozen BK163.out 2))
    refine bodyPost_ret (results_ct rfl _ _ gb163 23 #[.int .i64 t164, .int .i64 t165, .string t166] (0, 0) _ rfl (by (with_reducible repeat (first | refine blk_drewN ?_ _ | refine blk_drew ?_ | refine blk_alloc ?_ _)); refine blk_put (cs := #[.int .i64 t164, .int .i64 t165, .string (⟨#[]⟩ : ByteArray)]) ?_ 2 _ rfl; (with_reducible repeat (first | refine blk_drewN ?_ _ | refine blk_drew ?_ | refine blk_alloc ?_ _)); refine blk_put (cs := #[.int .i64 t164, .int .i64 0, .string (⟨#[]⟩ : ByteArray)]) ?_ 1 _ rfl; (with_reducible repeat (first | refine blk_drewN ?_ _ | refine blk_drew ?_ | refine blk_alloc ?_ _)); refine blk_put (cs := #[.int .i64 0, .int .i64 0, .string (⟨#[]⟩ : ByteArray)]) ?_ 0 _ rfl; (with_reducible repeat (first | refine blk_drewN ?_ _ | refine blk_drew ?_ | refine blk_alloc ?_ _)); exact BK163.out) Try.underlying23 rfl (by kernel_rfl)) rfl ?_
    exact ⟨by first | rfl | (simp [errW_none, errW_some] <;> rfl) | (simp [*, errW_none, errW_some] <;> rfl), by repeat (first | (with_reducible first | exact HB.out | apply below_alloc | apply pw_below_drewN | apply below_drew1 | refine below_set ?_ GE163.out) | exact HB.out)⟩
  · rw [if_neg c4] at H
    have c4b0 : (a0.toList == ([43] : List UInt8)) = false := beq_eq_false_iff_ne.mpr c4
    have c4b1 : (a0.toList != ([43] : List UInt8)) = true := bne_iff_ne.mpr c4
    by_cases c9 : a0.toList = ([45] : List UInt8)
    · rw [if_pos c9] at H
      have c9b0 : (a0.toList == ([45] : List UInt8)) = true := beq_iff_eq.mpr c9
      have c9b1 : (a0.toList != ([45] : List UInt8)) = false := bne_eq_false_iff_eq.mpr c9
      clear c9
      replace H := Option.bind_eq_some_iff.mp H
      obtain ⟨⟨t168, t169, t170, t171⟩, A100, H⟩ := H
      replace H : (some (t168, t169, t170, t171)) = some (r1, r2, r3, r4) := H
      have A10 := Aside0.mk A100
      clear A100
      simp only [Option.some.injEq, Prod.mk.injEq] at H
      obtain ⟨rfl, rfl, rfl, rfl⟩ := H
      go_enter Try.func39, Try.ntmps39
      go_wp2_with (first | ((with_reducible refine gate_dst (N := 6) rfl ?_); refine box_event ?hg (N := 6) ?hd (cs := #[.int .i64 0, .int .i64 0, .string (⟨#[]⟩ : ByteArray)]) (t := 23) ?hr ?_; (case hd => rfl); (case hg => rfl); (case hr => first | (go_simp; done) | (go_simp; rfl)); intro gb163 hg w11 hbox hb; have n0_ := Aside0.mk (below_step (by repeat (first | (with_reducible first | exact HB.out | apply below_alloc | apply pw_below_drewN | apply below_drew1) | exact HB.out)) hb); have n1_ := Aside0.mk (hbox); have n2_ := Aside0.mk ((by rw [hg]; exact (below_size (by repeat (first | (with_reducible first | exact HB.out | apply below_alloc | apply pw_below_drewN | apply below_drew1) | exact HB.out))) : w.heap.size ≤ gb163)); have n3_ := Aside0.mk ((by rw [hg]; exact (below_size (by repeat (first | (with_reducible first | exact HB.out | apply below_alloc | apply pw_below_drewN | apply below_drew1) | exact HB.out))) : w.heap.size ≤ gb163)); clear HB; have HB := n0_; have BK163 := n1_; have GW163 := n2_; have GE163 := n3_; clear n0_ n1_ n2_ n3_; clear hb hbox hg) | ((with_reducible refine gate_callee (f := 45) rfl ?_); refine goesL_ (some 23) rfl rfl Try.func45 (by kernel_rfl) rfl #[.int .i64 (wrap64 (a1 - a2))] rfl (by (try simp only [List.map_toArray, List.map_cons, List.map_nil]); first | done | rfl | (simp only [List.length_drop, List.length_take]; rfl)) ?_; (with_reducible refine (spinetref12_integer.calls k (wrap64 (a1 - a2)) t168 t169 t170 t171 _ A10.out).mono ?_); rintro e w12 ⟨rfl, hb⟩; refine ⟨_, rfl, ?_⟩; have n0_ := Aside0.mk (blk_below (g := gb163) (o := .cells #[.int .i64 0, .int .i64 0, .string (⟨#[]⟩ : ByteArray)] 23 (0, 0)) (by (with_reducible repeat (first | refine blk_drewN ?_ _ | refine blk_drew ?_ | refine blk_alloc ?_ _)); exact BK163.out) hb); have n1_ := Aside0.mk (below_step (by repeat (first | (with_reducible first | exact HB.out | apply below_alloc | apply pw_below_drewN | apply below_drew1 | refine below_set ?_ GE163.out) | exact HB.out)) hb); clear BK163; clear HB; have BK163 := n0_; have HB := n1_; clear n0_ n1_; (try clear hb); (try clear hb2); (try clear hk); (try clear hi); have hcz13_0 : w12.cell? ⟨gb163, 0, none⟩ = some (.int .i64 0) := (blk_cell BK163.out 0).trans rfl; have hcz13_1 : w12.cell? ⟨gb163, 1, none⟩ = some (.int .i64 0) := (blk_cell BK163.out 1).trans rfl; have hcz13_2 : w12.cell? ⟨gb163, 2, none⟩ = some (.string (⟨#[]⟩ : ByteArray)) := (blk_cell BK163.out 2).trans rfl; have hfz13_0 := blk_frozen BK163.out 0; have hfz13_1 := blk_frozen BK163.out 1; have hfz13_2 := blk_frozen BK163.out 2))
      refine bodyPost_ret (results_ct rfl _ _ gb163 23 #[.int .i64 t168, .int .i64 t169, .string t170] (0, 0) _ rfl (by (with_reducible repeat (first | refine blk_drewN ?_ _ | refine blk_drew ?_ | refine blk_alloc ?_ _)); refine blk_put (cs := #[.int .i64 t168, .int .i64 t169, .string (⟨#[]⟩ : ByteArray)]) ?_ 2 _ rfl; (with_reducible repeat (first | refine blk_drewN ?_ _ | refine blk_drew ?_ | refine blk_alloc ?_ _)); refine blk_put (cs := #[.int .i64 t168, .int .i64 0, .string (⟨#[]⟩ : ByteArray)]) ?_ 1 _ rfl; (with_reducible repeat (first | refine blk_drewN ?_ _ | refine blk_drew ?_ | refine blk_alloc ?_ _)); refine blk_put (cs := #[.int .i64 0, .int .i64 0, .string (⟨#[]⟩ : ByteArray)]) ?_ 0 _ rfl; (with_reducible repeat (first | refine blk_drewN ?_ _ | refine blk_drew ?_ | refine blk_alloc ?_ _)); exact BK163.out) Try.underlying23 rfl (by kernel_rfl)) rfl ?_
      exact ⟨by first | rfl | (simp [errW_none, errW_some] <;> rfl) | (simp [*, errW_none, errW_some] <;> rfl), by repeat (first | (with_reducible first | exact HB.out | apply below_alloc | apply pw_below_drewN | apply below_drew1 | refine below_set ?_ GE163.out) | exact HB.out)⟩
    · rw [if_neg c9] at H
      have c9b0 : (a0.toList == ([45] : List UInt8)) = false := beq_eq_false_iff_ne.mpr c9
      have c9b1 : (a0.toList != ([45] : List UInt8)) = true := bne_iff_ne.mpr c9
      by_cases c14 : a0.toList = ([42] : List UInt8)
      · rw [if_pos c14] at H
        have c14b0 : (a0.toList == ([42] : List UInt8)) = true := beq_iff_eq.mpr c14
        have c14b1 : (a0.toList != ([42] : List UInt8)) = false := bne_eq_false_iff_eq.mpr c14
        clear c14
        replace H := Option.bind_eq_some_iff.mp H
        obtain ⟨⟨t172, t173, t174, t175⟩, A150, H⟩ := H
        replace H : (some (t172, t173, t174, t175)) = some (r1, r2, r3, r4) := H
        have A15 := Aside0.mk A150
        clear A150
        simp only [Option.some.injEq, Prod.mk.injEq] at H
        obtain ⟨rfl, rfl, rfl, rfl⟩ := H
        go_enter Try.func39, Try.ntmps39
        go_wp2_with (first | ((with_reducible refine gate_dst (N := 6) rfl ?_); refine box_event ?hg (N := 6) ?hd (cs := #[.int .i64 0, .int .i64 0, .string (⟨#[]⟩ : ByteArray)]) (t := 23) ?hr ?_; (case hd => rfl); (case hg => rfl); (case hr => first | (go_simp; done) | (go_simp; rfl)); intro gb163 hg w16 hbox hb; have n0_ := Aside0.mk (below_step (by repeat (first | (with_reducible first | exact HB.out | apply below_alloc | apply pw_below_drewN | apply below_drew1) | exact HB.out)) hb); have n1_ := Aside0.mk (hbox); have n2_ := Aside0.mk ((by rw [hg]; exact (below_size (by repeat (first | (with_reducible first | exact HB.out | apply below_alloc | apply pw_below_drewN | apply below_drew1) | exact HB.out))) : w.heap.size ≤ gb163)); have n3_ := Aside0.mk ((by rw [hg]; exact (below_size (by repeat (first | (with_reducible first | exact HB.out | apply below_alloc | apply pw_below_drewN | apply below_drew1) | exact HB.out))) : w.heap.size ≤ gb163)); clear HB; have HB := n0_; have BK163 := n1_; have GW163 := n2_; have GE163 := n3_; clear n0_ n1_ n2_ n3_; clear hb hbox hg) | ((with_reducible refine gate_callee (f := 45) rfl ?_); refine goesL_ (some 31) rfl rfl Try.func45 (by kernel_rfl) rfl #[.int .i64 (wrap64 (a1 * a2))] rfl (by (try simp only [List.map_toArray, List.map_cons, List.map_nil]); first | done | rfl | (simp only [List.length_drop, List.length_take]; rfl)) ?_; (with_reducible refine (spinetref12_integer.calls k (wrap64 (a1 * a2)) t172 t173 t174 t175 _ A15.out).mono ?_); rintro e w17 ⟨rfl, hb⟩; refine ⟨_, rfl, ?_⟩; have n0_ := Aside0.mk (blk_below (g := gb163) (o := .cells #[.int .i64 0, .int .i64 0, .string (⟨#[]⟩ : ByteArray)] 23 (0, 0)) (by (with_reducible repeat (first | refine blk_drewN ?_ _ | refine blk_drew ?_ | refine blk_alloc ?_ _)); exact BK163.out) hb); have n1_ := Aside0.mk (below_step (by repeat (first | (with_reducible first | exact HB.out | apply below_alloc | apply pw_below_drewN | apply below_drew1 | refine below_set ?_ GE163.out) | exact HB.out)) hb); clear BK163; clear HB; have BK163 := n0_; have HB := n1_; clear n0_ n1_; (try clear hb); (try clear hb2); (try clear hk); (try clear hi); have hcz18_0 : w17.cell? ⟨gb163, 0, none⟩ = some (.int .i64 0) := (blk_cell BK163.out 0).trans rfl; have hcz18_1 : w17.cell? ⟨gb163, 1, none⟩ = some (.int .i64 0) := (blk_cell BK163.out 1).trans rfl; have hcz18_2 : w17.cell? ⟨gb163, 2, none⟩ = some (.string (⟨#[]⟩ : ByteArray)) := (blk_cell BK163.out 2).trans rfl; have hfz18_0 := blk_frozen BK163.out 0; have hfz18_1 := blk_frozen BK163.out 1; have hfz18_2 := blk_frozen BK163.out 2))
        refine bodyPost_ret (results_ct rfl _ _ gb163 23 #[.int .i64 t172, .int .i64 t173, .string t174] (0, 0) _ rfl (by (with_reducible repeat (first | refine blk_drewN ?_ _ | refine blk_drew ?_ | refine blk_alloc ?_ _)); refine blk_put (cs := #[.int .i64 t172, .int .i64 t173, .string (⟨#[]⟩ : ByteArray)]) ?_ 2 _ rfl; (with_reducible repeat (first | refine blk_drewN ?_ _ | refine blk_drew ?_ | refine blk_alloc ?_ _)); refine blk_put (cs := #[.int .i64 t172, .int .i64 0, .string (⟨#[]⟩ : ByteArray)]) ?_ 1 _ rfl; (with_reducible repeat (first | refine blk_drewN ?_ _ | refine blk_drew ?_ | refine blk_alloc ?_ _)); refine blk_put (cs := #[.int .i64 0, .int .i64 0, .string (⟨#[]⟩ : ByteArray)]) ?_ 0 _ rfl; (with_reducible repeat (first | refine blk_drewN ?_ _ | refine blk_drew ?_ | refine blk_alloc ?_ _)); exact BK163.out) Try.underlying23 rfl (by kernel_rfl)) rfl ?_
        exact ⟨by first | rfl | (simp [errW_none, errW_some] <;> rfl) | (simp [*, errW_none, errW_some] <;> rfl), by repeat (first | (with_reducible first | exact HB.out | apply below_alloc | apply pw_below_drewN | apply below_drew1 | refine below_set ?_ GE163.out) | exact HB.out)⟩
      · rw [if_neg c14] at H
        have c14b0 : (a0.toList == ([42] : List UInt8)) = false := beq_eq_false_iff_ne.mpr c14
        have c14b1 : (a0.toList != ([42] : List UInt8)) = true := bne_iff_ne.mpr c14
        have HC19 := Aside0.mk H
        clear H
        go_enter Try.func39, Try.ntmps39
        go_upto_if 34 with (first | ((with_reducible refine gate_dst (N := 6) rfl ?_); refine box_event ?hg (N := 6) ?hd (cs := #[.int .i64 0, .int .i64 0, .string (⟨#[]⟩ : ByteArray)]) (t := 23) ?hr ?_; (case hd => rfl); (case hg => rfl); (case hr => first | (go_simp; done) | (go_simp; rfl)); intro gb163 hg w20 hbox hb; have n0_ := Aside0.mk (below_step (by repeat (first | (with_reducible first | exact HB.out | apply below_alloc | apply pw_below_drewN | apply below_drew1) | exact HB.out)) hb); have n1_ := Aside0.mk (hbox); have n2_ := Aside0.mk ((by rw [hg]; exact (below_size (by repeat (first | (with_reducible first | exact HB.out | apply below_alloc | apply pw_below_drewN | apply below_drew1) | exact HB.out))) : w.heap.size ≤ gb163)); have n3_ := Aside0.mk ((by rw [hg]; exact (below_size (by repeat (first | (with_reducible first | exact HB.out | apply below_alloc | apply pw_below_drewN | apply below_drew1) | exact HB.out))) : w.heap.size ≤ gb163)); clear HB; have HB := n0_; have BK163 := n1_; have GW163 := n2_; have GE163 := n3_; clear n0_ n1_ n2_ n3_; clear hb hbox hg))
        (try simp only [Act.put, List.setIfInBounds_toArray, List.set_cons_zero, List.set_cons_succ])
        go_cut [34] (fun v34 wc => ∃ (kq : Nat) (x34_18 : Bool), v34 = .bool x34_18 ∧ Aside0 (spinetref12_ints.j0 kq a0 a1 a2 x34_18 = some (r1, r2, r3, r4)) ∧ Aside0 (kq ≤ k) ∧ Aside0 (wc.heap[gb163]? = some (.cells #[.int .i64 0, .int .i64 0, .string (⟨#[]⟩ : ByteArray)] 23 (0, 0))) ∧ Aside0 (Below w.heap.size w wc))
        case first =>
          have H := HC19.out
          clear HC19
          by_cases c21 : a0.toList = ([68, 73, 86] : List UInt8)
          · rw [if_pos c21] at H
            have c21b0 : (a0.toList == ([68, 73, 86] : List UInt8)) = true := beq_iff_eq.mpr c21
            have c21b1 : (a0.toList != ([68, 73, 86] : List UInt8)) = false := bne_eq_false_iff_eq.mpr c21
            clear c21
            (first | rw [c21b0] | (simp only [i64_w, i32_w]; rw [c21b0]) | skip)
            have H' := Aside0.mk H
            clear H
            go_wp2
            go_meet
            case rel => exact ⟨_, ((a0.toList == ([68, 73, 86] : List UInt8))), (by first | rfl | (simp; done) | (simp [*]; done)), H', ⟨by first | omega | exact Nat.le_refl _⟩, ⟨by (with_reducible repeat (first | refine blk_drewN ?_ _ | refine blk_drew ?_ | refine blk_alloc ?_ _)); exact BK163.out⟩, ⟨by repeat (first | (with_reducible first | exact HB.out | apply below_alloc | apply pw_below_drewN | apply below_drew1 | refine below_set ?_ GE163.out) | exact HB.out)⟩⟩
          · rw [if_neg c21] at H
            have c21b0 : (a0.toList == ([68, 73, 86] : List UInt8)) = false := beq_eq_false_iff_ne.mpr c21
            have c21b1 : (a0.toList != ([68, 73, 86] : List UInt8)) = true := bne_iff_ne.mpr c21
            (first | rw [c21b0] | (simp only [i64_w, i32_w]; rw [c21b0]) | skip)
            have H' := Aside0.mk H
            clear H
            go_wp2
            go_meet
            case rel => exact ⟨_, ((a0.toList == ([77, 79, 68] : List UInt8))), (by first | rfl | (simp; done) | (simp [*]; done)), H', ⟨by first | omega | exact Nat.le_refl _⟩, ⟨by (with_reducible repeat (first | refine blk_drewN ?_ _ | refine blk_drew ?_ | refine blk_alloc ?_ _)); exact BK163.out⟩, ⟨by repeat (first | (with_reducible first | exact HB.out | apply below_alloc | apply pw_below_drewN | apply below_drew1 | refine below_set ?_ GE163.out) | exact HB.out)⟩⟩
        case rest =>
          clear HC19
          try clear c1
          try clear c2
          try clear p2
          try clear c3
          try clear c4
          try clear c4b0
          try clear c4b1
          try clear p6
          try clear c9
          try clear c9b0
          try clear c9b1
          try clear c14
          try clear c14b0
          try clear c14b1
          try clear c21
          try clear c21b0
          try clear c21b1
          try clear hcz13_0
          try clear hcz13_1
          try clear hcz13_2
          try clear hcz18_0
          try clear hcz18_1
          try clear hcz18_2
          try clear hcz8_0
          try clear hcz8_1
          try clear hcz8_2
          try clear hfz13_0
          try clear hfz13_1
          try clear hfz13_2
          try clear hfz18_0
          try clear hfz18_1
          try clear hfz18_2
          try clear hfz8_0
          try clear hfz8_1
          try clear hfz8_2
          obtain ⟨kq, x34_18, rfl, HA, HJ18, BK163, HB⟩ := hcut
          cases kq with
          | zero => exact absurd HA.out (by simp [spinetref12_ints.j0])
          | succ kj18 =>
            have H := HA.out
            clear HA
            simp only [spinetref12_ints.j0] at H
            by_cases c22 : x34_18 = true
            · subst c22
              have H1 : (if a2 ≤ 0 then (some (0, 0, (⟨#[]⟩ : ByteArray), 121)) else ((spinetref01_Word.f a1).bind fun t176 => ((spinetref01_Word.f a2).bind fun t177 => ((spinetref03_Do.f kj18 11 false t176 t177 0 false false false false).bind fun bt178 => (if a0.toList = ([68, 73, 86] : List UInt8) then ((spinetref01_Signed.f bt178.1).bind fun t186 => ((spinetref12_integer.f kj18 t186).bind fun bt187 => (some (bt187.1, bt187.2.1, bt187.2.2.1, bt187.2.2.2)))) else ((spinetref01_Signed.f bt178.2.1).bind fun t191 => ((spinetref12_integer.f kj18 t191).bind fun bt192 => (some (bt192.1, bt192.2.1, bt192.2.2.1, bt192.2.2.2))))))))) = some (r1, r2, r3, r4) := by rw [if_pos rfl] at H; exact H
              clear H
              have H := H1
              clear H1
              by_cases c23 : a2 ≤ 0
              · rw [if_pos c23] at H
                have c23b0 : decide (a2 ≤ 0) = true := decide_eq_true c23
                clear c23
                simp only [Option.some.injEq, Prod.mk.injEq] at H
                obtain ⟨rfl, rfl, rfl, rfl⟩ := H
                have hcz24_0 : wc.cell? ⟨gb163, 0, none⟩ = some (.int .i64 0) := (blk_cell BK163.out 0).trans rfl
                have hcz24_1 : wc.cell? ⟨gb163, 1, none⟩ = some (.int .i64 0) := (blk_cell BK163.out 1).trans rfl
                have hcz24_2 : wc.cell? ⟨gb163, 2, none⟩ = some (.string (⟨#[]⟩ : ByteArray)) := (blk_cell BK163.out 2).trans rfl
                have hfz24_0 := blk_frozen BK163.out 0
                have hfz24_1 := blk_frozen BK163.out 1
                have hfz24_2 := blk_frozen BK163.out 2
                go_wp2
                refine bodyPost_ret (results_ct rfl _ _ gb163 23 #[.int .i64 0, .int .i64 0, .string (⟨#[]⟩ : ByteArray)] (0, 0) _ rfl (by (with_reducible repeat (first | refine blk_drewN ?_ _ | refine blk_drew ?_ | refine blk_alloc ?_ _)); refine blk_put (cs := #[.int .i64 0, .int .i64 0, .string (⟨#[]⟩ : ByteArray)]) ?_ 2 _ rfl; (with_reducible repeat (first | refine blk_drewN ?_ _ | refine blk_drew ?_ | refine blk_alloc ?_ _)); refine blk_put (cs := #[.int .i64 0, .int .i64 0, .string (⟨#[]⟩ : ByteArray)]) ?_ 1 _ rfl; (with_reducible repeat (first | refine blk_drewN ?_ _ | refine blk_drew ?_ | refine blk_alloc ?_ _)); refine blk_put (cs := #[.int .i64 0, .int .i64 0, .string (⟨#[]⟩ : ByteArray)]) ?_ 0 _ rfl; (with_reducible repeat (first | refine blk_drewN ?_ _ | refine blk_drew ?_ | refine blk_alloc ?_ _)); exact BK163.out) Try.underlying23 rfl (by kernel_rfl)) rfl ?_
                exact ⟨by first | rfl | (simp [errW_none, errW_some] <;> rfl) | (simp [*, errW_none, errW_some] <;> rfl), by repeat (first | (with_reducible first | exact HB.out | apply below_alloc | apply pw_below_drewN | apply below_drew1 | refine below_set ?_ GE163.out) | exact HB.out)⟩
              · rw [if_neg c23] at H
                have c23b0 : decide (a2 ≤ 0) = false := decide_eq_false c23
                clear c23
                replace H := Option.bind_eq_some_iff.mp H
                obtain ⟨t176, A250, H⟩ := H
                replace H : ((spinetref01_Word.f a2).bind fun t177 => ((spinetref03_Do.f kj18 11 false t176 t177 0 false false false false).bind fun bt178 => (if a0.toList = ([68, 73, 86] : List UInt8) then ((spinetref01_Signed.f bt178.1).bind fun t186 => ((spinetref12_integer.f kj18 t186).bind fun bt187 => (some (bt187.1, bt187.2.1, bt187.2.2.1, bt187.2.2.2)))) else ((spinetref01_Signed.f bt178.2.1).bind fun t191 => ((spinetref12_integer.f kj18 t191).bind fun bt192 => (some (bt192.1, bt192.2.1, bt192.2.2.1, bt192.2.2.2))))))) = some (r1, r2, r3, r4) := H
                have A25 := Aside0.mk A250
                clear A250
                replace H := Option.bind_eq_some_iff.mp H
                obtain ⟨t177, A260, H⟩ := H
                replace H : ((spinetref03_Do.f kj18 11 false t176 t177 0 false false false false).bind fun bt178 => (if a0.toList = ([68, 73, 86] : List UInt8) then ((spinetref01_Signed.f bt178.1).bind fun t186 => ((spinetref12_integer.f kj18 t186).bind fun bt187 => (some (bt187.1, bt187.2.1, bt187.2.2.1, bt187.2.2.2)))) else ((spinetref01_Signed.f bt178.2.1).bind fun t191 => ((spinetref12_integer.f kj18 t191).bind fun bt192 => (some (bt192.1, bt192.2.1, bt192.2.2.1, bt192.2.2.2)))))) = some (r1, r2, r3, r4) := H
                have A26 := Aside0.mk A260
                clear A260
                replace H := Option.bind_eq_some_iff.mp H
                obtain ⟨⟨t178, t179, t180, t181, t182, t183, t184⟩, A270, H⟩ := H
                replace H : (if a0.toList = ([68, 73, 86] : List UInt8) then ((spinetref01_Signed.f t178).bind fun t186 => ((spinetref12_integer.f kj18 t186).bind fun bt187 => (some (bt187.1, bt187.2.1, bt187.2.2.1, bt187.2.2.2)))) else ((spinetref01_Signed.f t179).bind fun t191 => ((spinetref12_integer.f kj18 t191).bind fun bt192 => (some (bt192.1, bt192.2.1, bt192.2.2.1, bt192.2.2.2))))) = some (r1, r2, r3, r4) := H
                have A27 := Aside0.mk A270
                clear A270
                by_cases c28 : a0.toList = ([68, 73, 86] : List UInt8)
                · rw [if_pos c28] at H
                  have c28b0 : (a0.toList == ([68, 73, 86] : List UInt8)) = true := beq_iff_eq.mpr c28
                  have c28b1 : (a0.toList != ([68, 73, 86] : List UInt8)) = false := bne_eq_false_iff_eq.mpr c28
                  clear c28
                  replace H := Option.bind_eq_some_iff.mp H
                  obtain ⟨t186, A290, H⟩ := H
                  replace H : ((spinetref12_integer.f kj18 t186).bind fun bt187 => (some (bt187.1, bt187.2.1, bt187.2.2.1, bt187.2.2.2))) = some (r1, r2, r3, r4) := H
                  have A29 := Aside0.mk A290
                  clear A290
                  replace H := Option.bind_eq_some_iff.mp H
                  obtain ⟨⟨t187, t188, t189, t190⟩, A300, H⟩ := H
                  replace H : (some (t187, t188, t189, t190)) = some (r1, r2, r3, r4) := H
                  have A30 := Aside0.mk A300
                  clear A300
                  simp only [Option.some.injEq, Prod.mk.injEq] at H
                  obtain ⟨rfl, rfl, rfl, rfl⟩ := H
                  go_wp2_with (first | ((with_reducible refine gate_callee (f := 52) rfl ?_); refine goesL_ (some 41) rfl rfl Try.func52 (by kernel_rfl) rfl #[.int .i64 a1] rfl (by (try simp only [List.map_toArray, List.map_cons, List.map_nil]); first | done | rfl | (simp only [List.length_drop, List.length_take]; rfl)) ?_; (with_reducible refine (spinetref01_Word.calls a1 t176 _ A25.out).mono ?_); rintro e w' ⟨rfl, ⟨nd, rfl⟩⟩; refine ⟨_, rfl, ?_⟩; (try (rw [drewN_self wc]; generalize hq_ : World.drewN wc _ = wc; have n0_ : Aside0 (wc.heap[gb163]? = some (.cells #[.int .i64 0, .int .i64 0, .string (⟨#[]⟩ : ByteArray)] 23 (0, 0))) := ⟨by rw [← hq_]; exact (by (with_reducible repeat (first | refine blk_drewN ?_ _ | refine blk_drew ?_ | refine blk_alloc ?_ _)); exact BK163.out)⟩; have n1_ : Aside0 (Below w.heap.size w wc) := ⟨by rw [← hq_]; exact (by repeat (first | (with_reducible first | exact HB.out | apply below_alloc | apply pw_below_drewN | apply below_drew1 | refine below_set ?_ GE163.out) | exact HB.out))⟩; clear BK163 HB hq_; have BK163 := n0_; have HB := n1_; clear n0_ n1_))) | ((with_reducible refine gate_callee (f := 52) rfl ?_); refine goesL_ (some 43) rfl rfl Try.func52 (by kernel_rfl) rfl #[.int .i64 a2] rfl (by (try simp only [List.map_toArray, List.map_cons, List.map_nil]); first | done | rfl | (simp only [List.length_drop, List.length_take]; rfl)) ?_; (with_reducible refine (spinetref01_Word.calls a2 t177 _ A26.out).mono ?_); rintro e w' ⟨rfl, ⟨nd, rfl⟩⟩; refine ⟨_, rfl, ?_⟩; (try (rw [drewN_self wc]; generalize hq_ : World.drewN wc _ = wc; have n0_ : Aside0 (wc.heap[gb163]? = some (.cells #[.int .i64 0, .int .i64 0, .string (⟨#[]⟩ : ByteArray)] 23 (0, 0))) := ⟨by rw [← hq_]; exact (by (with_reducible repeat (first | refine blk_drewN ?_ _ | refine blk_drew ?_ | refine blk_alloc ?_ _)); exact BK163.out)⟩; have n1_ : Aside0 (Below w.heap.size w wc) := ⟨by rw [← hq_]; exact (by repeat (first | (with_reducible first | exact HB.out | apply below_alloc | apply pw_below_drewN | apply below_drew1 | refine below_set ?_ GE163.out) | exact HB.out))⟩; clear BK163 HB hq_; have BK163 := n0_; have HB := n1_; clear n0_ n1_))) | ((with_reducible refine gate_callee (f := 82) rfl ?_); refine goesL_ (some 45) rfl rfl Try.func82 (by kernel_rfl) rfl #[.int .i64 11, .bool false, .int .u32 t176, .int .u32 t177, .int .u32 0, .agg #[.bool false, .bool false, .bool false, .bool false]] rfl (by (try simp only [List.map_toArray, List.map_cons, List.map_nil]); first | done | rfl | (simp only [List.length_drop, List.length_take]; rfl)) ?_; (with_reducible refine (spinetref03_Do.calls kj18 11 false t176 t177 0 false false false false t178 t179 t180 t181 t182 t183 t184 _ A27.out).mono ?_); rintro e w31 ⟨rfl, hb⟩; refine ⟨_, rfl, ?_⟩; have n0_ := Aside0.mk (blk_below (g := gb163) (o := .cells #[.int .i64 0, .int .i64 0, .string (⟨#[]⟩ : ByteArray)] 23 (0, 0)) (by (with_reducible repeat (first | refine blk_drewN ?_ _ | refine blk_drew ?_ | refine blk_alloc ?_ _)); exact BK163.out) hb); have n1_ := Aside0.mk (below_step (by repeat (first | (with_reducible first | exact HB.out | apply below_alloc | apply pw_below_drewN | apply below_drew1 | refine below_set ?_ GE163.out) | exact HB.out)) hb); clear BK163; clear HB; have BK163 := n0_; have HB := n1_; clear n0_ n1_; (try clear hb); (try clear hb2); (try clear hk); (try clear hi)) | ((with_reducible refine gate_dst (N := 8) rfl ?_); refine box_event ?hg (N := 8) ?hd (cs := #[.int .u32 0, .int .u32 0, .bool false, .bool false, .bool false, .bool false, .bool false]) (t := 93) ?hr ?_; (case hd => rfl); (case hg => rfl); (case hr => first | (go_simp; done) | (go_simp; rfl)); intro gb185 hg w32 hbox hb; have n0_ := Aside0.mk (blk_below (g := gb163) (o := .cells #[.int .i64 0, .int .i64 0, .string (⟨#[]⟩ : ByteArray)] 23 (0, 0)) (by (with_reducible repeat (first | refine blk_drewN ?_ _ | refine blk_drew ?_ | refine blk_alloc ?_ _)); exact BK163.out) hb); have n1_ := Aside0.mk (below_step (by repeat (first | (with_reducible first | exact HB.out | apply below_alloc | apply pw_below_drewN | apply below_drew1 | refine below_set ?_ GE163.out) | exact HB.out)) hb); have n2_ := Aside0.mk (hbox); have n3_ := Aside0.mk ((by rw [hg]; exact (below_size (by repeat (first | (with_reducible first | exact HB.out | apply below_alloc | apply pw_below_drewN | apply below_drew1 | refine below_set ?_ GE163.out) | exact HB.out))) : w.heap.size ≤ gb185)); have n4_ := Aside0.mk ((by rw [hg]; exact (below_size (by repeat (first | (with_reducible first | exact HB.out | apply below_alloc | apply pw_below_drewN | apply below_drew1 | refine below_set ?_ GE163.out) | exact HB.out))) : w.heap.size ≤ gb185)); have n5_ := Aside0.mk ((by rw [hg]; exact Nat.ne_of_lt (blk_lt (g := gb163) (o := .cells #[.int .i64 0, .int .i64 0, .string (⟨#[]⟩ : ByteArray)] 23 (0, 0)) (by (with_reducible repeat (first | refine blk_drewN ?_ _ | refine blk_drew ?_ | refine blk_alloc ?_ _)); exact BK163.out)) : gb163 ≠ gb185)); have n6_ := Aside0.mk ((by rw [hg]; exact Nat.ne_of_gt (blk_lt (g := gb163) (o := .cells #[.int .i64 0, .int .i64 0, .string (⟨#[]⟩ : ByteArray)] 23 (0, 0)) (by (with_reducible repeat (first | refine blk_drewN ?_ _ | refine blk_drew ?_ | refine blk_alloc ?_ _)); exact BK163.out)) : gb185 ≠ gb163)); clear BK163; clear HB; have BK163 := n0_; have HB := n1_; have BK185 := n2_; have GW185 := n3_; have GE185 := n4_; have NB163_185 := n5_; have NB185_163 := n6_; clear n0_ n1_ n2_ n3_ n4_ n5_ n6_; clear hb hbox hg; have hnb33 := NB185_163.out; have hnc33 := NB163_185.out; have hcz34_0 : w32.cell? ⟨gb185, 0, none⟩ = some (.int .u32 0) := (blk_cell BK185.out 0).trans rfl; have hcz34_1 : w32.cell? ⟨gb185, 1, none⟩ = some (.int .u32 0) := (blk_cell BK185.out 1).trans rfl; have hcz34_2 : w32.cell? ⟨gb185, 2, none⟩ = some (.bool false) := (blk_cell BK185.out 2).trans rfl; have hcz34_3 : w32.cell? ⟨gb185, 3, none⟩ = some (.bool false) := (blk_cell BK185.out 3).trans rfl; have hcz34_4 : w32.cell? ⟨gb185, 4, none⟩ = some (.bool false) := (blk_cell BK185.out 4).trans rfl; have hcz34_5 : w32.cell? ⟨gb185, 5, none⟩ = some (.bool false) := (blk_cell BK185.out 5).trans rfl; have hcz34_6 : w32.cell? ⟨gb185, 6, none⟩ = some (.bool false) := (blk_cell BK185.out 6).trans rfl; have hfz34_0 := blk_frozen BK185.out 0; have hfz34_1 := blk_frozen BK185.out 1; have hfz34_2 := blk_frozen BK185.out 2; have hfz34_3 := blk_frozen BK185.out 3; have hfz34_4 := blk_frozen BK185.out 4; have hfz34_5 := blk_frozen BK185.out 5; have hfz34_6 := blk_frozen BK185.out 6) | ((with_reducible refine gate_callee (f := 53) rfl ?_); refine goesL_ (some 50) rfl rfl Try.func53 (by kernel_rfl) rfl #[.int .u32 t178] rfl (by (try simp only [List.map_toArray, List.map_cons, List.map_nil]); first | done | rfl | (simp only [List.length_drop, List.length_take]; rfl)) ?_; (with_reducible refine (spinetref01_Signed.calls t178 t186 _ A29.out).mono ?_); rintro e w' ⟨rfl, ⟨nd, rfl⟩⟩; refine ⟨_, rfl, ?_⟩) | ((with_reducible refine gate_callee (f := 45) rfl ?_); refine goesL_ (some 51) rfl rfl Try.func45 (by kernel_rfl) rfl #[.int .i64 t186] rfl (by (try simp only [List.map_toArray, List.map_cons, List.map_nil]); first | done | rfl | (simp only [List.length_drop, List.length_take]; rfl)) ?_; (with_reducible refine (spinetref12_integer.calls kj18 t186 t187 t188 t189 t190 _ A30.out).mono ?_); rintro e w35 ⟨rfl, hb⟩; refine ⟨_, rfl, ?_⟩; have n0_ := Aside0.mk (blk_below (g := gb163) (o := .cells #[.int .i64 0, .int .i64 0, .string (⟨#[]⟩ : ByteArray)] 23 (0, 0)) (by (with_reducible repeat (first | refine blk_drewN ?_ _ | refine blk_drew ?_ | refine blk_alloc ?_ _)); refine blk_far ?_ NB163_185.out _; (with_reducible repeat (first | refine blk_drewN ?_ _ | refine blk_drew ?_ | refine blk_alloc ?_ _)); refine blk_far ?_ NB163_185.out _; (with_reducible repeat (first | refine blk_drewN ?_ _ | refine blk_drew ?_ | refine blk_alloc ?_ _)); refine blk_far ?_ NB163_185.out _; (with_reducible repeat (first | refine blk_drewN ?_ _ | refine blk_drew ?_ | refine blk_alloc ?_ _)); refine blk_far ?_ NB163_185.out _; (with_reducible repeat (first | refine blk_drewN ?_ _ | refine blk_drew ?_ | refine blk_alloc ?_ _)); refine blk_far ?_ NB163_185.out _; (with_reducible repeat (first | refine blk_drewN ?_ _ | refine blk_drew ?_ | refine blk_alloc ?_ _)); refine blk_far ?_ NB163_185.out _; (with_reducible repeat (first | refine blk_drewN ?_ _ | refine blk_drew ?_ | refine blk_alloc ?_ _)); refine blk_far ?_ NB163_185.out _; (with_reducible repeat (first | refine blk_drewN ?_ _ | refine blk_drew ?_ | refine blk_alloc ?_ _)); exact BK163.out) hb); have n1_ := Aside0.mk (blk_below (g := gb185) (o := .cells #[.int .u32 t178, .int .u32 t179, .bool t180, .bool t181, .bool t182, .bool t183, .bool t184] 93 (0, 0)) (by (with_reducible repeat (first | refine blk_drewN ?_ _ | refine blk_drew ?_ | refine blk_alloc ?_ _)); refine blk_put (cs := #[.int .u32 t178, .int .u32 t179, .bool t180, .bool t181, .bool t182, .bool t183, .bool false]) ?_ 6 _ rfl; (with_reducible repeat (first | refine blk_drewN ?_ _ | refine blk_drew ?_ | refine blk_alloc ?_ _)); refine blk_put (cs := #[.int .u32 t178, .int .u32 t179, .bool t180, .bool t181, .bool t182, .bool false, .bool false]) ?_ 5 _ rfl; (with_reducible repeat (first | refine blk_drewN ?_ _ | refine blk_drew ?_ | refine blk_alloc ?_ _)); refine blk_put (cs := #[.int .u32 t178, .int .u32 t179, .bool t180, .bool t181, .bool false, .bool false, .bool false]) ?_ 4 _ rfl; (with_reducible repeat (first | refine blk_drewN ?_ _ | refine blk_drew ?_ | refine blk_alloc ?_ _)); refine blk_put (cs := #[.int .u32 t178, .int .u32 t179, .bool t180, .bool false, .bool false, .bool false, .bool false]) ?_ 3 _ rfl; (with_reducible repeat (first | refine blk_drewN ?_ _ | refine blk_drew ?_ | refine blk_alloc ?_ _)); refine blk_put (cs := #[.int .u32 t178, .int .u32 t179, .bool false, .bool false, .bool false, .bool false, .bool false]) ?_ 2 _ rfl; (with_reducible repeat (first | refine blk_drewN ?_ _ | refine blk_drew ?_ | refine blk_alloc ?_ _)); refine blk_put (cs := #[.int .u32 t178, .int .u32 0, .bool false, .bool false, .bool false, .bool false, .bool false]) ?_ 1 _ rfl; (with_reducible repeat (first | refine blk_drewN ?_ _ | refine blk_drew ?_ | refine blk_alloc ?_ _)); refine blk_put (cs := #[.int .u32 0, .int .u32 0, .bool false, .bool false, .bool false, .bool false, .bool false]) ?_ 0 _ rfl; (with_reducible repeat (first | refine blk_drewN ?_ _ | refine blk_drew ?_ | refine blk_alloc ?_ _)); exact BK185.out) hb); have n2_ := Aside0.mk (below_step (by repeat (first | (with_reducible first | exact HB.out | apply below_alloc | apply pw_below_drewN | apply below_drew1 | refine below_set ?_ GE163.out | refine below_set ?_ GE185.out) | exact HB.out)) hb); clear BK163; clear BK185; clear HB; have BK163 := n0_; have BK185 := n1_; have HB := n2_; clear n0_ n1_ n2_; (try clear hb); (try clear hb2); (try clear hk); (try clear hi); have hcz36_0 : w35.cell? ⟨gb163, 0, none⟩ = some (.int .i64 0) := (blk_cell BK163.out 0).trans rfl; have hcz36_1 : w35.cell? ⟨gb163, 1, none⟩ = some (.int .i64 0) := (blk_cell BK163.out 1).trans rfl; have hcz36_2 : w35.cell? ⟨gb163, 2, none⟩ = some (.string (⟨#[]⟩ : ByteArray)) := (blk_cell BK163.out 2).trans rfl; have hfz36_0 := blk_frozen BK163.out 0; have hfz36_1 := blk_frozen BK163.out 1; have hfz36_2 := blk_frozen BK163.out 2))
                  refine bodyPost_ret (results_ct rfl _ _ gb163 23 #[.int .i64 t187, .int .i64 t188, .string t189] (0, 0) _ rfl (by (with_reducible repeat (first | refine blk_drewN ?_ _ | refine blk_drew ?_ | refine blk_alloc ?_ _)); refine blk_put (cs := #[.int .i64 t187, .int .i64 t188, .string (⟨#[]⟩ : ByteArray)]) ?_ 2 _ rfl; (with_reducible repeat (first | refine blk_drewN ?_ _ | refine blk_drew ?_ | refine blk_alloc ?_ _)); refine blk_put (cs := #[.int .i64 t187, .int .i64 0, .string (⟨#[]⟩ : ByteArray)]) ?_ 1 _ rfl; (with_reducible repeat (first | refine blk_drewN ?_ _ | refine blk_drew ?_ | refine blk_alloc ?_ _)); refine blk_put (cs := #[.int .i64 0, .int .i64 0, .string (⟨#[]⟩ : ByteArray)]) ?_ 0 _ rfl; (with_reducible repeat (first | refine blk_drewN ?_ _ | refine blk_drew ?_ | refine blk_alloc ?_ _)); exact BK163.out) Try.underlying23 rfl (by kernel_rfl)) rfl ?_
                  exact ⟨by first | rfl | (simp [errW_none, errW_some] <;> rfl) | (simp [*, errW_none, errW_some] <;> rfl), by repeat (first | (with_reducible first | exact HB.out | apply below_alloc | apply pw_below_drewN | apply below_drew1 | refine below_set ?_ GE163.out | refine below_set ?_ GE185.out) | exact HB.out)⟩
                · rw [if_neg c28] at H
                  have c28b0 : (a0.toList == ([68, 73, 86] : List UInt8)) = false := beq_eq_false_iff_ne.mpr c28
                  have c28b1 : (a0.toList != ([68, 73, 86] : List UInt8)) = true := bne_iff_ne.mpr c28
                  replace H := Option.bind_eq_some_iff.mp H
                  obtain ⟨t191, A370, H⟩ := H
                  replace H : ((spinetref12_integer.f kj18 t191).bind fun bt192 => (some (bt192.1, bt192.2.1, bt192.2.2.1, bt192.2.2.2))) = some (r1, r2, r3, r4) := H
                  have A37 := Aside0.mk A370
                  clear A370
                  replace H := Option.bind_eq_some_iff.mp H
                  obtain ⟨⟨t192, t193, t194, t195⟩, A380, H⟩ := H
                  replace H : (some (t192, t193, t194, t195)) = some (r1, r2, r3, r4) := H
                  have A38 := Aside0.mk A380
                  clear A380
                  simp only [Option.some.injEq, Prod.mk.injEq] at H
                  obtain ⟨rfl, rfl, rfl, rfl⟩ := H
                  go_wp2_with (first | ((with_reducible refine gate_callee (f := 52) rfl ?_); refine goesL_ (some 41) rfl rfl Try.func52 (by kernel_rfl) rfl #[.int .i64 a1] rfl (by (try simp only [List.map_toArray, List.map_cons, List.map_nil]); first | done | rfl | (simp only [List.length_drop, List.length_take]; rfl)) ?_; (with_reducible refine (spinetref01_Word.calls a1 t176 _ A25.out).mono ?_); rintro e w' ⟨rfl, ⟨nd, rfl⟩⟩; refine ⟨_, rfl, ?_⟩; (try (rw [drewN_self wc]; generalize hq_ : World.drewN wc _ = wc; have n0_ : Aside0 (wc.heap[gb163]? = some (.cells #[.int .i64 0, .int .i64 0, .string (⟨#[]⟩ : ByteArray)] 23 (0, 0))) := ⟨by rw [← hq_]; exact (by (with_reducible repeat (first | refine blk_drewN ?_ _ | refine blk_drew ?_ | refine blk_alloc ?_ _)); exact BK163.out)⟩; have n1_ : Aside0 (Below w.heap.size w wc) := ⟨by rw [← hq_]; exact (by repeat (first | (with_reducible first | exact HB.out | apply below_alloc | apply pw_below_drewN | apply below_drew1 | refine below_set ?_ GE163.out) | exact HB.out))⟩; clear BK163 HB hq_; have BK163 := n0_; have HB := n1_; clear n0_ n1_))) | ((with_reducible refine gate_callee (f := 52) rfl ?_); refine goesL_ (some 43) rfl rfl Try.func52 (by kernel_rfl) rfl #[.int .i64 a2] rfl (by (try simp only [List.map_toArray, List.map_cons, List.map_nil]); first | done | rfl | (simp only [List.length_drop, List.length_take]; rfl)) ?_; (with_reducible refine (spinetref01_Word.calls a2 t177 _ A26.out).mono ?_); rintro e w' ⟨rfl, ⟨nd, rfl⟩⟩; refine ⟨_, rfl, ?_⟩; (try (rw [drewN_self wc]; generalize hq_ : World.drewN wc _ = wc; have n0_ : Aside0 (wc.heap[gb163]? = some (.cells #[.int .i64 0, .int .i64 0, .string (⟨#[]⟩ : ByteArray)] 23 (0, 0))) := ⟨by rw [← hq_]; exact (by (with_reducible repeat (first | refine blk_drewN ?_ _ | refine blk_drew ?_ | refine blk_alloc ?_ _)); exact BK163.out)⟩; have n1_ : Aside0 (Below w.heap.size w wc) := ⟨by rw [← hq_]; exact (by repeat (first | (with_reducible first | exact HB.out | apply below_alloc | apply pw_below_drewN | apply below_drew1 | refine below_set ?_ GE163.out) | exact HB.out))⟩; clear BK163 HB hq_; have BK163 := n0_; have HB := n1_; clear n0_ n1_))) | ((with_reducible refine gate_callee (f := 82) rfl ?_); refine goesL_ (some 45) rfl rfl Try.func82 (by kernel_rfl) rfl #[.int .i64 11, .bool false, .int .u32 t176, .int .u32 t177, .int .u32 0, .agg #[.bool false, .bool false, .bool false, .bool false]] rfl (by (try simp only [List.map_toArray, List.map_cons, List.map_nil]); first | done | rfl | (simp only [List.length_drop, List.length_take]; rfl)) ?_; (with_reducible refine (spinetref03_Do.calls kj18 11 false t176 t177 0 false false false false t178 t179 t180 t181 t182 t183 t184 _ A27.out).mono ?_); rintro e w39 ⟨rfl, hb⟩; refine ⟨_, rfl, ?_⟩; have n0_ := Aside0.mk (blk_below (g := gb163) (o := .cells #[.int .i64 0, .int .i64 0, .string (⟨#[]⟩ : ByteArray)] 23 (0, 0)) (by (with_reducible repeat (first | refine blk_drewN ?_ _ | refine blk_drew ?_ | refine blk_alloc ?_ _)); exact BK163.out) hb); have n1_ := Aside0.mk (below_step (by repeat (first | (with_reducible first | exact HB.out | apply below_alloc | apply pw_below_drewN | apply below_drew1 | refine below_set ?_ GE163.out) | exact HB.out)) hb); clear BK163; clear HB; have BK163 := n0_; have HB := n1_; clear n0_ n1_; (try clear hb); (try clear hb2); (try clear hk); (try clear hi)) | ((with_reducible refine gate_dst (N := 8) rfl ?_); refine box_event ?hg (N := 8) ?hd (cs := #[.int .u32 0, .int .u32 0, .bool false, .bool false, .bool false, .bool false, .bool false]) (t := 93) ?hr ?_; (case hd => rfl); (case hg => rfl); (case hr => first | (go_simp; done) | (go_simp; rfl)); intro gb185 hg w40 hbox hb; have n0_ := Aside0.mk (blk_below (g := gb163) (o := .cells #[.int .i64 0, .int .i64 0, .string (⟨#[]⟩ : ByteArray)] 23 (0, 0)) (by (with_reducible repeat (first | refine blk_drewN ?_ _ | refine blk_drew ?_ | refine blk_alloc ?_ _)); exact BK163.out) hb); have n1_ := Aside0.mk (below_step (by repeat (first | (with_reducible first | exact HB.out | apply below_alloc | apply pw_below_drewN | apply below_drew1 | refine below_set ?_ GE163.out) | exact HB.out)) hb); have n2_ := Aside0.mk (hbox); have n3_ := Aside0.mk ((by rw [hg]; exact (below_size (by repeat (first | (with_reducible first | exact HB.out | apply below_alloc | apply pw_below_drewN | apply below_drew1 | refine below_set ?_ GE163.out) | exact HB.out))) : w.heap.size ≤ gb185)); have n4_ := Aside0.mk ((by rw [hg]; exact (below_size (by repeat (first | (with_reducible first | exact HB.out | apply below_alloc | apply pw_below_drewN | apply below_drew1 | refine below_set ?_ GE163.out) | exact HB.out))) : w.heap.size ≤ gb185)); have n5_ := Aside0.mk ((by rw [hg]; exact Nat.ne_of_lt (blk_lt (g := gb163) (o := .cells #[.int .i64 0, .int .i64 0, .string (⟨#[]⟩ : ByteArray)] 23 (0, 0)) (by (with_reducible repeat (first | refine blk_drewN ?_ _ | refine blk_drew ?_ | refine blk_alloc ?_ _)); exact BK163.out)) : gb163 ≠ gb185)); have n6_ := Aside0.mk ((by rw [hg]; exact Nat.ne_of_gt (blk_lt (g := gb163) (o := .cells #[.int .i64 0, .int .i64 0, .string (⟨#[]⟩ : ByteArray)] 23 (0, 0)) (by (with_reducible repeat (first | refine blk_drewN ?_ _ | refine blk_drew ?_ | refine blk_alloc ?_ _)); exact BK163.out)) : gb185 ≠ gb163)); clear BK163; clear HB; have BK163 := n0_; have HB := n1_; have BK185 := n2_; have GW185 := n3_; have GE185 := n4_; have NB163_185 := n5_; have NB185_163 := n6_; clear n0_ n1_ n2_ n3_ n4_ n5_ n6_; clear hb hbox hg; have hnb41 := NB185_163.out; have hnc41 := NB163_185.out; have hcz42_0 : w40.cell? ⟨gb185, 0, none⟩ = some (.int .u32 0) := (blk_cell BK185.out 0).trans rfl; have hcz42_1 : w40.cell? ⟨gb185, 1, none⟩ = some (.int .u32 0) := (blk_cell BK185.out 1).trans rfl; have hcz42_2 : w40.cell? ⟨gb185, 2, none⟩ = some (.bool false) := (blk_cell BK185.out 2).trans rfl; have hcz42_3 : w40.cell? ⟨gb185, 3, none⟩ = some (.bool false) := (blk_cell BK185.out 3).trans rfl; have hcz42_4 : w40.cell? ⟨gb185, 4, none⟩ = some (.bool false) := (blk_cell BK185.out 4).trans rfl; have hcz42_5 : w40.cell? ⟨gb185, 5, none⟩ = some (.bool false) := (blk_cell BK185.out 5).trans rfl; have hcz42_6 : w40.cell? ⟨gb185, 6, none⟩ = some (.bool false) := (blk_cell BK185.out 6).trans rfl; have hfz42_0 := blk_frozen BK185.out 0; have hfz42_1 := blk_frozen BK185.out 1; have hfz42_2 := blk_frozen BK185.out 2; have hfz42_3 := blk_frozen BK185.out 3; have hfz42_4 := blk_frozen BK185.out 4; have hfz42_5 := blk_frozen BK185.out 5; have hfz42_6 := blk_frozen BK185.out 6) | ((with_reducible refine gate_callee (f := 53) rfl ?_); refine goesL_ (some 56) rfl rfl Try.func53 (by kernel_rfl) rfl #[.int .u32 t179] rfl (by (try simp only [List.map_toArray, List.map_cons, List.map_nil]); first | done | rfl | (simp only [List.length_drop, List.length_take]; rfl)) ?_; (with_reducible refine (spinetref01_Signed.calls t179 t191 _ A37.out).mono ?_); rintro e w' ⟨rfl, ⟨nd, rfl⟩⟩; refine ⟨_, rfl, ?_⟩) | ((with_reducible refine gate_callee (f := 45) rfl ?_); refine goesL_ (some 57) rfl rfl Try.func45 (by kernel_rfl) rfl #[.int .i64 t191] rfl (by (try simp only [List.map_toArray, List.map_cons, List.map_nil]); first | done | rfl | (simp only [List.length_drop, List.length_take]; rfl)) ?_; (with_reducible refine (spinetref12_integer.calls kj18 t191 t192 t193 t194 t195 _ A38.out).mono ?_); rintro e w43 ⟨rfl, hb⟩; refine ⟨_, rfl, ?_⟩; have n0_ := Aside0.mk (blk_below (g := gb163) (o := .cells #[.int .i64 0, .int .i64 0, .string (⟨#[]⟩ : ByteArray)] 23 (0, 0)) (by (with_reducible repeat (first | refine blk_drewN ?_ _ | refine blk_drew ?_ | refine blk_alloc ?_ _)); refine blk_far ?_ NB163_185.out _; (with_reducible repeat (first | refine blk_drewN ?_ _ | refine blk_drew ?_ | refine blk_alloc ?_ _)); refine blk_far ?_ NB163_185.out _; (with_reducible repeat (first | refine blk_drewN ?_ _ | refine blk_drew ?_ | refine blk_alloc ?_ _)); refine blk_far ?_ NB163_185.out _; (with_reducible repeat (first | refine blk_drewN ?_ _ | refine blk_drew ?_ | refine blk_alloc ?_ _)); refine blk_far ?_ NB163_185.out _; (with_reducible repeat (first | refine blk_drewN ?_ _ | refine blk_drew ?_ | refine blk_alloc ?_ _)); refine blk_far ?_ NB163_185.out _; (with_reducible repeat (first | refine blk_drewN ?_ _ | refine blk_drew ?_ | refine blk_alloc ?_ _)); refine blk_far ?_ NB163_185.out _; (with_reducible repeat (first | refine blk_drewN ?_ _ | refine blk_drew ?_ | refine blk_alloc ?_ _)); refine blk_far ?_ NB163_185.out _; (with_reducible repeat (first | refine blk_drewN ?_ _ | refine blk_drew ?_ | refine blk_alloc ?_ _)); exact BK163.out) hb); have n1_ := Aside0.mk (blk_below (g := gb185) (o := .cells #[.int .u32 t178, .int .u32 t179, .bool t180, .bool t181, .bool t182, .bool t183, .bool t184] 93 (0, 0)) (by (with_reducible repeat (first | refine blk_drewN ?_ _ | refine blk_drew ?_ | refine blk_alloc ?_ _)); refine blk_put (cs := #[.int .u32 t178, .int .u32 t179, .bool t180, .bool t181, .bool t182, .bool t183, .bool false]) ?_ 6 _ rfl; (with_reducible repeat (first | refine blk_drewN ?_ _ | refine blk_drew ?_ | refine blk_alloc ?_ _)); refine blk_put (cs := #[.int .u32 t178, .int .u32 t179, .bool t180, .bool t181, .bool t182, .bool false, .bool false]) ?_ 5 _ rfl; (with_reducible repeat (first | refine blk_drewN ?_ _ | refine blk_drew ?_ | refine blk_alloc ?_ _)); refine blk_put (cs := #[.int .u32 t178, .int .u32 t179, .bool t180, .bool t181, .bool false, .bool false, .bool false]) ?_ 4 _ rfl; (with_reducible repeat (first | refine blk_drewN ?_ _ | refine blk_drew ?_ | refine blk_alloc ?_ _)); refine blk_put (cs := #[.int .u32 t178, .int .u32 t179, .bool t180, .bool false, .bool false, .bool false, .bool false]) ?_ 3 _ rfl; (with_reducible repeat (first | refine blk_drewN ?_ _ | refine blk_drew ?_ | refine blk_alloc ?_ _)); refine blk_put (cs := #[.int .u32 t178, .int .u32 t179, .bool false, .bool false, .bool false, .bool false, .bool false]) ?_ 2 _ rfl; (with_reducible repeat (first | refine blk_drewN ?_ _ | refine blk_drew ?_ | refine blk_alloc ?_ _)); refine blk_put (cs := #[.int .u32 t178, .int .u32 0, .bool false, .bool false, .bool false, .bool false, .bool false]) ?_ 1 _ rfl; (with_reducible repeat (first | refine blk_drewN ?_ _ | refine blk_drew ?_ | refine blk_alloc ?_ _)); refine blk_put (cs := #[.int .u32 0, .int .u32 0, .bool false, .bool false, .bool false, .bool false, .bool false]) ?_ 0 _ rfl; (with_reducible repeat (first | refine blk_drewN ?_ _ | refine blk_drew ?_ | refine blk_alloc ?_ _)); exact BK185.out) hb); have n2_ := Aside0.mk (below_step (by repeat (first | (with_reducible first | exact HB.out | apply below_alloc | apply pw_below_drewN | apply below_drew1 | refine below_set ?_ GE163.out | refine below_set ?_ GE185.out) | exact HB.out)) hb); clear BK163; clear BK185; clear HB; have BK163 := n0_; have BK185 := n1_; have HB := n2_; clear n0_ n1_ n2_; (try clear hb); (try clear hb2); (try clear hk); (try clear hi); have hcz44_0 : w43.cell? ⟨gb163, 0, none⟩ = some (.int .i64 0) := (blk_cell BK163.out 0).trans rfl; have hcz44_1 : w43.cell? ⟨gb163, 1, none⟩ = some (.int .i64 0) := (blk_cell BK163.out 1).trans rfl; have hcz44_2 : w43.cell? ⟨gb163, 2, none⟩ = some (.string (⟨#[]⟩ : ByteArray)) := (blk_cell BK163.out 2).trans rfl; have hfz44_0 := blk_frozen BK163.out 0; have hfz44_1 := blk_frozen BK163.out 1; have hfz44_2 := blk_frozen BK163.out 2))
                  refine bodyPost_ret (results_ct rfl _ _ gb163 23 #[.int .i64 t192, .int .i64 t193, .string t194] (0, 0) _ rfl (by (with_reducible repeat (first | refine blk_drewN ?_ _ | refine blk_drew ?_ | refine blk_alloc ?_ _)); refine blk_put (cs := #[.int .i64 t192, .int .i64 t193, .string (⟨#[]⟩ : ByteArray)]) ?_ 2 _ rfl; (with_reducible repeat (first | refine blk_drewN ?_ _ | refine blk_drew ?_ | refine blk_alloc ?_ _)); refine blk_put (cs := #[.int .i64 t192, .int .i64 0, .string (⟨#[]⟩ : ByteArray)]) ?_ 1 _ rfl; (with_reducible repeat (first | refine blk_drewN ?_ _ | refine blk_drew ?_ | refine blk_alloc ?_ _)); refine blk_put (cs := #[.int .i64 0, .int .i64 0, .string (⟨#[]⟩ : ByteArray)]) ?_ 0 _ rfl; (with_reducible repeat (first | refine blk_drewN ?_ _ | refine blk_drew ?_ | refine blk_alloc ?_ _)); exact BK163.out) Try.underlying23 rfl (by kernel_rfl)) rfl ?_
                  exact ⟨by first | rfl | (simp [errW_none, errW_some] <;> rfl) | (simp [*, errW_none, errW_some] <;> rfl), by repeat (first | (with_reducible first | exact HB.out | apply below_alloc | apply pw_below_drewN | apply below_drew1 | refine below_set ?_ GE163.out | refine below_set ?_ GE185.out) | exact HB.out)⟩
            · replace c22 := Bool.eq_false_iff.mpr c22
              subst c22
              have H1 : ((spinetref12_none.f).bind fun bt196 => (some (bt196.1, bt196.2.1, bt196.2.2.1, bt196.2.2.2))) = some (r1, r2, r3, r4) := by rw [if_neg (show ¬ (false = true) by decide)] at H; exact H
              clear H
              have H := H1
              clear H1
              replace H := Option.bind_eq_some_iff.mp H
              obtain ⟨⟨t196, t197, t198, t199⟩, A450, H⟩ := H
              replace H : (some (t196, t197, t198, t199)) = some (r1, r2, r3, r4) := H
              have A45 := Aside0.mk A450
              clear A450
              simp only [Option.some.injEq, Prod.mk.injEq] at H
              obtain ⟨rfl, rfl, rfl, rfl⟩ := H
              go_wp2_with (first | ((with_reducible refine gate_callee (f := 33) rfl ?_); refine goesL_ (some 60) rfl rfl Try.func33 (by kernel_rfl) rfl #[] rfl (by (try simp only [List.map_toArray, List.map_cons, List.map_nil]); first | done | rfl | (simp only [List.length_drop, List.length_take]; rfl)) ?_; (with_reducible refine (spinetref12_none.calls  t196 t197 t198 t199 _ A45.out).mono ?_); rintro e w46 ⟨rfl, hb⟩; refine ⟨_, rfl, ?_⟩; have n0_ := Aside0.mk (blk_below (g := gb163) (o := .cells #[.int .i64 0, .int .i64 0, .string (⟨#[]⟩ : ByteArray)] 23 (0, 0)) (by (with_reducible repeat (first | refine blk_drewN ?_ _ | refine blk_drew ?_ | refine blk_alloc ?_ _)); exact BK163.out) hb); have n1_ := Aside0.mk (below_step (by repeat (first | (with_reducible first | exact HB.out | apply below_alloc | apply pw_below_drewN | apply below_drew1 | refine below_set ?_ GE163.out) | exact HB.out)) hb); clear BK163; clear HB; have BK163 := n0_; have HB := n1_; clear n0_ n1_; (try clear hb); (try clear hb2); (try clear hk); (try clear hi); have hcz47_0 : w46.cell? ⟨gb163, 0, none⟩ = some (.int .i64 0) := (blk_cell BK163.out 0).trans rfl; have hcz47_1 : w46.cell? ⟨gb163, 1, none⟩ = some (.int .i64 0) := (blk_cell BK163.out 1).trans rfl; have hcz47_2 : w46.cell? ⟨gb163, 2, none⟩ = some (.string (⟨#[]⟩ : ByteArray)) := (blk_cell BK163.out 2).trans rfl; have hfz47_0 := blk_frozen BK163.out 0; have hfz47_1 := blk_frozen BK163.out 1; have hfz47_2 := blk_frozen BK163.out 2))
              refine bodyPost_ret (results_ct rfl _ _ gb163 23 #[.int .i64 t196, .int .i64 t197, .string t198] (0, 0) _ rfl (by (with_reducible repeat (first | refine blk_drewN ?_ _ | refine blk_drew ?_ | refine blk_alloc ?_ _)); refine blk_put (cs := #[.int .i64 t196, .int .i64 t197, .string (⟨#[]⟩ : ByteArray)]) ?_ 2 _ rfl; (with_reducible repeat (first | refine blk_drewN ?_ _ | refine blk_drew ?_ | refine blk_alloc ?_ _)); refine blk_put (cs := #[.int .i64 t196, .int .i64 0, .string (⟨#[]⟩ : ByteArray)]) ?_ 1 _ rfl; (with_reducible repeat (first | refine blk_drewN ?_ _ | refine blk_drew ?_ | refine blk_alloc ?_ _)); refine blk_put (cs := #[.int .i64 0, .int .i64 0, .string (⟨#[]⟩ : ByteArray)]) ?_ 0 _ rfl; (with_reducible repeat (first | refine blk_drewN ?_ _ | refine blk_drew ?_ | refine blk_alloc ?_ _)); exact BK163.out) Try.underlying23 rfl (by kernel_rfl)) rfl ?_
              exact ⟨by first | rfl | (simp [errW_none, errW_some] <;> rfl) | (simp [*, errW_none, errW_some] <;> rfl), by repeat (first | (with_reducible first | exact HB.out | apply below_alloc | apply pw_below_drewN | apply below_drew1 | refine below_set ?_ GE163.out) | exact HB.out)⟩


end Go.Proofs.Ytjimcgmefpienaa.PConstsCalls
