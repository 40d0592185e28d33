/- Small functions of layer 20. -/
import Derived.Test.YtkkgocbecnefnaaBase20
import Derived.Test.YtkkgocbecnefnaaRef01
namespace Go.Proofs.Ytkkgocbecnefnaa.PArithConsts
open Go.RowKit Go.Proofs.YtkkgocbecnefnaaW.PrintWords Go.Proofs.YtkkgocbecnefnaaW.PrintLast Go.Proofs.YtkkgocbecnefnaaW.PrintMore
attribute [local go_sem] max2_int min2_int max_two min_two max_three min_three max_four min_four
set_option linter.unusedVariables false
set_option linter.unusedSimpArgs false

/-! ### arith_Set: function 16 -/
def arith_Set.f (a0 : ByteArray) (a1 : Int) (a2 : Int) : Option (Int × Bool) := if a0.toList = ([43] : List UInt8) then (some (Go.bits .or .u32 a1 a2, true)) else (if a0.toList = ([45] : List UInt8) then (some (Go.bits .andNot .u32 a1 a2, true)) else (if a0.toList = ([42] : List UInt8) then (some (Go.bits .and .u32 a1 a2, true)) else (if a0.toList = ([47] : List UInt8) then (some (Go.bits .xor .u32 a1 a2, true)) else (some (0, false)))))
set_option maxHeartbeats 8000000 in
set_option maxRecDepth 100000 in
theorem arith_Set.calls (a0 : ByteArray) (a1 : Int) (a2 : Int) (r1 : Int) (r2 : Bool) (w : World) (h : arith_Set.f a0 a1 a2 = some (r1, r2)) :
    Calls Try.prog 16 #[.string a0, .int .u32 a1, .int .u32 a2] w fun e w' => e = .returned (.tuple #[.int .u32 r1, .bool r2]) ∧ Drawn0 w w' := by
  have H : (if a0.toList = ([43] : List UInt8) then (some (Go.bits .or .u32 a1 a2, true)) else (if a0.toList = ([45] : List UInt8) then (some (Go.bits .andNot .u32 a1 a2, true)) else (if a0.toList = ([42] : List UInt8) then (some (Go.bits .and .u32 a1 a2, true)) else (if a0.toList = ([47] : List UInt8) then (some (Go.bits .xor .u32 a1 a2, true)) else (some (0, false)))))) = some (r1, r2) := h
  clear h
  by_cases c4 : a0.toList = ([43] : List UInt8)
  · rw [if_pos c4] at H
    have c4b0 : (a0.toList == ([43] : List UInt8)) = true := beq_iff_eq.mpr c4
    have c4b1 : (a0.toList != ([43] : List UInt8)) = false := bne_eq_false_iff_eq.mpr c4
    clear c4
    simp only [Option.some.injEq, Prod.mk.injEq] at H
    obtain ⟨rfl, rfl⟩ := H
    go_enter Try.func16, Try.ntmps16
    go_wp2
    go_ret2
    exact ⟨by first | rfl | (simp; done) | (simp [*]; done), by repeat (first | exact Drawn0.refl _ | apply Drawn0.step)⟩
  · rw [if_neg c4] at H
    have c4b0 : (a0.toList == ([43] : List UInt8)) = false := beq_eq_false_iff_ne.mpr c4
    have c4b1 : (a0.toList != ([43] : List UInt8)) = true := bne_iff_ne.mpr c4
    by_cases c5 : a0.toList = ([45] : List UInt8)
    · rw [if_pos c5] at H
      have c5b0 : (a0.toList == ([45] : List UInt8)) = true := beq_iff_eq.mpr c5
      have c5b1 : (a0.toList != ([45] : List UInt8)) = false := bne_eq_false_iff_eq.mpr c5
      clear c5
      simp only [Option.some.injEq, Prod.mk.injEq] at H
      obtain ⟨rfl, rfl⟩ := H
      go_enter Try.func16, Try.ntmps16
      go_wp2
      go_ret2
      exact ⟨by first | rfl | (simp; done) | (simp [*]; done), by repeat (first | exact Drawn0.refl _ | apply Drawn0.step)⟩
    · rw [if_neg c5] at H
      have c5b0 : (a0.toList == ([45] : List UInt8)) = false := beq_eq_false_iff_ne.mpr c5
      have c5b1 : (a0.toList != ([45] : List UInt8)) = true := bne_iff_ne.mpr c5
      by_cases c6 : a0.toList = ([42] : List UInt8)
      · rw [if_pos c6] at H
        have c6b0 : (a0.toList == ([42] : List UInt8)) = true := beq_iff_eq.mpr c6
        have c6b1 : (a0.toList != ([42] : List UInt8)) = false := bne_eq_false_iff_eq.mpr c6
        clear c6
        simp only [Option.some.injEq, Prod.mk.injEq] at H
        obtain ⟨rfl, rfl⟩ := H
        go_enter Try.func16, Try.ntmps16
        go_wp2
        go_ret2
        exact ⟨by first | rfl | (simp; done) | (simp [*]; done), by repeat (first | exact Drawn0.refl _ | apply Drawn0.step)⟩
      · rw [if_neg c6] at H
        have c6b0 : (a0.toList == ([42] : List UInt8)) = false := beq_eq_false_iff_ne.mpr c6
        have c6b1 : (a0.toList != ([42] : List UInt8)) = true := bne_iff_ne.mpr c6
        by_cases c7 : a0.toList = ([47] : List UInt8)
        · rw [if_pos c7] at H
          have c7b0 : (a0.toList == ([47] : List UInt8)) = true := beq_iff_eq.mpr c7
          have c7b1 : (a0.toList != ([47] : List UInt8)) = false := bne_eq_false_iff_eq.mpr c7
          clear c7
          simp only [Option.some.injEq, Prod.mk.injEq] at H
          obtain ⟨rfl, rfl⟩ := H
          go_enter Try.func16, Try.ntmps16
          go_wp2
          go_ret2
          exact ⟨by first | rfl | (simp; done) | (simp [*]; done), by repeat (first | exact Drawn0.refl _ | apply Drawn0.step)⟩
        · rw [if_neg c7] at H
          have c7b0 : (a0.toList == ([47] : List UInt8)) = false := beq_eq_false_iff_ne.mpr c7
          have c7b1 : (a0.toList != ([47] : List UInt8)) = true := bne_iff_ne.mpr c7
          simp only [Option.some.injEq, Prod.mk.injEq] at H
          obtain ⟨rfl, rfl⟩ := H
          go_enter Try.func16, Try.ntmps16
          go_wp2
          go_ret2
          exact ⟨by first | rfl | (simp; done) | (simp [*]; done), by repeat (first | exact Drawn0.refl _ | apply Drawn0.step)⟩


/-! ### spinetref12_SetOp: function 42 -/
def spinetref12_SetOp.f (a0 : ByteArray) (a1 : Int) (a2 : Int) : Option (Int × Bool) := if a0.toList = ([43] : List UInt8) then (some (Go.bits .or .u32 a1 a2, true)) else (if a0.toList = ([45] : List UInt8) then (some (Go.bits .andNot .u32 a1 a2, true)) else (if a0.toList = ([42] : List UInt8) then (some (Go.bits .and .u32 a1 a2, true)) else (if a0.toList = ([47] : List UInt8) then (some (Go.bits .xor .u32 a1 a2, true)) else (some (0, false)))))
set_option maxHeartbeats 8000000 in
set_option maxRecDepth 100000 in
theorem spinetref12_SetOp.calls (a0 : ByteArray) (a1 : Int) (a2 : Int) (r1 : Int) (r2 : Bool) (w : World) (h : spinetref12_SetOp.f a0 a1 a2 = some (r1, r2)) :
    Calls Try.prog 42 #[.string a0, .int .u32 a1, .int .u32 a2] w fun e w' => e = .returned (.tuple #[.int .u32 r1, .bool r2]) ∧ Drawn0 w w' := by
  have H : (if a0.toList = ([43] : List UInt8) then (some (Go.bits .or .u32 a1 a2, true)) else (if a0.toList = ([45] : List UInt8) then (some (Go.bits .andNot .u32 a1 a2, true)) else (if a0.toList = ([42] : List UInt8) then (some (Go.bits .and .u32 a1 a2, true)) else (if a0.toList = ([47] : List UInt8) then (some (Go.bits .xor .u32 a1 a2, true)) else (some (0, false)))))) = some (r1, r2) := h
  clear h
  by_cases c4 : a0.toList = ([43] : List UInt8)
  · rw [if_pos c4] at H
    have c4b0 : (a0.toList == ([43] : List UInt8)) = true := beq_iff_eq.mpr c4
    have c4b1 : (a0.toList != ([43] : List UInt8)) = false := bne_eq_false_iff_eq.mpr c4
    clear c4
    simp only [Option.some.injEq, Prod.mk.injEq] at H
    obtain ⟨rfl, rfl⟩ := H
    go_enter Try.func42, Try.ntmps42
    go_wp2
    go_ret2
    exact ⟨by first | rfl | (simp; done) | (simp [*]; done), by repeat (first | exact Drawn0.refl _ | apply Drawn0.step)⟩
  · rw [if_neg c4] at H
    have c4b0 : (a0.toList == ([43] : List UInt8)) = false := beq_eq_false_iff_ne.mpr c4
    have c4b1 : (a0.toList != ([43] : List UInt8)) = true := bne_iff_ne.mpr c4
    by_cases c5 : a0.toList = ([45] : List UInt8)
    · rw [if_pos c5] at H
      have c5b0 : (a0.toList == ([45] : List UInt8)) = true := beq_iff_eq.mpr c5
      have c5b1 : (a0.toList != ([45] : List UInt8)) = false := bne_eq_false_iff_eq.mpr c5
      clear c5
      simp only [Option.some.injEq, Prod.mk.injEq] at H
      obtain ⟨rfl, rfl⟩ := H
      go_enter Try.func42, Try.ntmps42
      go_wp2
      go_ret2
      exact ⟨by first | rfl | (simp; done) | (simp [*]; done), by repeat (first | exact Drawn0.refl _ | apply Drawn0.step)⟩
    · rw [if_neg c5] at H
      have c5b0 : (a0.toList == ([45] : List UInt8)) = false := beq_eq_false_iff_ne.mpr c5
      have c5b1 : (a0.toList != ([45] : List UInt8)) = true := bne_iff_ne.mpr c5
      by_cases c6 : a0.toList = ([42] : List UInt8)
      · rw [if_pos c6] at H
        have c6b0 : (a0.toList == ([42] : List UInt8)) = true := beq_iff_eq.mpr c6
        have c6b1 : (a0.toList != ([42] : List UInt8)) = false := bne_eq_false_iff_eq.mpr c6
        clear c6
        simp only [Option.some.injEq, Prod.mk.injEq] at H
        obtain ⟨rfl, rfl⟩ := H
        go_enter Try.func42, Try.ntmps42
        go_wp2
        go_ret2
        exact ⟨by first | rfl | (simp; done) | (simp [*]; done), by repeat (first | exact Drawn0.refl _ | apply Drawn0.step)⟩
      · rw [if_neg c6] at H
        have c6b0 : (a0.toList == ([42] : List UInt8)) = false := beq_eq_false_iff_ne.mpr c6
        have c6b1 : (a0.toList != ([42] : List UInt8)) = true := bne_iff_ne.mpr c6
        by_cases c7 : a0.toList = ([47] : List UInt8)
        · rw [if_pos c7] at H
          have c7b0 : (a0.toList == ([47] : List UInt8)) = true := beq_iff_eq.mpr c7
          have c7b1 : (a0.toList != ([47] : List UInt8)) = false := bne_eq_false_iff_eq.mpr c7
          clear c7
          simp only [Option.some.injEq, Prod.mk.injEq] at H
          obtain ⟨rfl, rfl⟩ := H
          go_enter Try.func42, Try.ntmps42
          go_wp2
          go_ret2
          exact ⟨by first | rfl | (simp; done) | (simp [*]; done), by repeat (first | exact Drawn0.refl _ | apply Drawn0.step)⟩
        · rw [if_neg c7] at H
          have c7b0 : (a0.toList == ([47] : List UInt8)) = false := beq_eq_false_iff_ne.mpr c7
          have c7b1 : (a0.toList != ([47] : List UInt8)) = true := bne_iff_ne.mpr c7
          simp only [Option.some.injEq, Prod.mk.injEq] at H
          obtain ⟨rfl, rfl⟩ := H
          go_enter Try.func42, Try.ntmps42
          go_wp2
          go_ret2
          exact ⟨by first | rfl | (simp; done) | (simp [*]; done), by repeat (first | exact Drawn0.refl _ | apply Drawn0.step)⟩


/-! ### spinetref20_Set: function 17 -/
def spinetref20_Set.f (a0 : ByteArray) (a1 : Int) (a2 : Int) : Option (Int × Bool) := (spinetref12_SetOp.f a0 a1 a2).bind fun bt107 => (some (bt107.1, bt107.2))
set_option maxHeartbeats 8000000 in
set_option maxRecDepth 100000 in
theorem spinetref20_Set.calls (a0 : ByteArray) (a1 : Int) (a2 : Int) (r1 : Int) (r2 : Bool) (w : World) (h : spinetref20_Set.f a0 a1 a2 = some (r1, r2)) :
    Calls Try.prog 17 #[.string a0, .int .u32 a1, .int .u32 a2] w fun e w' => e = .returned (.tuple #[.int .u32 r1, .bool r2]) ∧ Drawn0 w w' := by
  have H : ((spinetref12_SetOp.f a0 a1 a2).bind fun bt107 => (some (bt107.1, bt107.2))) = some (r1, r2) := h
  clear h
  replace H := Option.bind_eq_some_iff.mp H
  obtain ⟨⟨t107, t108⟩, A40, H⟩ := H
  replace H : (some (t107, t108)) = some (r1, r2) := H
  have A4 := Aside0.mk A40
  clear A40
  simp only [Option.some.injEq, Prod.mk.injEq] at H
  obtain ⟨rfl, rfl⟩ := H
  go_enter Try.func17, Try.ntmps17
  go_wp2_with (first | ((with_reducible refine gate_callee (f := 42) rfl ?_); refine goesL_ (some 11) rfl rfl Try.func42 (by kernel_rfl) rfl #[.string a0, .int .u32 a1, .int .u32 a2] rfl (by (try simp only [List.map_toArray, List.map_cons, List.map_nil]); first | done | rfl | (simp only [List.length_drop, List.length_take]; rfl)) ?_; (with_reducible refine (spinetref12_SetOp.calls a0 a1 a2 t107 t108 _ A4.out).mono ?_); rintro e w' ⟨rfl, ⟨nd, rfl⟩⟩; refine ⟨_, rfl, ?_⟩))
  go_ret2
  exact ⟨by first | rfl | (simp; done) | (simp [*]; done), by repeat (first | exact Drawn0.refl _ | apply Drawn0.step)⟩


/-! ### arith_Elem: function 18 -/
def arith_Elem.f (a0 : Int) (a1 : Int) : Option (Bool) := if 0 ≤ (Int.tmod (IntKind.u64.wrap (a0)) 32) then (some ((Go.bits .and .u32 (shr .u32 a1 (Int.tmod (IntKind.u64.wrap (a0)) 32)) 1) == 1)) else (none)
set_option maxHeartbeats 8000000 in
set_option maxRecDepth 100000 in
theorem arith_Elem.calls (a0 : Int) (a1 : Int) (r : Bool) (w : World) (h : arith_Elem.f a0 a1 = some r) :
    Calls Try.prog 18 #[.int .i64 a0, .int .u32 a1] w fun e w' => e = .returned (.bool r) ∧ Drawn0 w w' := by
  have H : (if 0 ≤ (Int.tmod (IntKind.u64.wrap (a0)) 32) then (some ((Go.bits .and .u32 (shr .u32 a1 (Int.tmod (IntKind.u64.wrap (a0)) 32)) 1) == 1)) else (none)) = some r := h
  clear h
  obtain ⟨ji3, hji3⟩ : ∃ j_ : Int, (Int.tmod (IntKind.u64.wrap (a0)) 32) = j_ := ⟨_, rfl⟩
  replace H : (if 0 ≤ (ji3) then (some ((Go.bits .and .u32 (shr .u32 a1 (ji3)) 1) == 1)) else (none)) = some r := by first | (rw [hji3] at H; exact H) | (simp only [hji3] at H ⊢; exact H)
  by_cases c4 : 0 ≤ (ji3)
  · rw [if_pos c4] at H
    have c4b0 := eq_true c4
    have c4b1 : decide (0 ≤ (ji3)) = true := decide_eq_true c4
    clear c4
    obtain ⟨ji5, hji5⟩ : ∃ j_ : Int, (shr .u32 a1 (ji3)) = j_ := ⟨_, rfl⟩
    replace H : (some ((Go.bits .and .u32 (ji5) 1) == 1)) = some r := by first | (rw [hji5] at H; exact H) | (simp only [hji5] at H ⊢; exact H)
    have hji5_ : (a1 / 2 ^ min (ji3).toNat 32) = ji5 := hji5
    have hji5z : (ji3) ≤ 32 → (a1 / 2 ^ (ji3).toNat) = ji5 := shr_small hji5
    obtain rfl := Option.some.inj H
    go_enter Try.func18, Try.ntmps18
    go_wp2
    go_ret
    exact ⟨by first | rfl | (simp; done) | (simp only [← hji3, ← hji5] <;> (first | rfl | simp)) | (simp [*]; done), by repeat (first | exact Drawn0.refl _ | apply Drawn0.step)⟩
  · rw [if_neg c4] at H
    exact absurd H (by simp)


/-! ### spinetref20_Elem: function 19 -/
def spinetref20_Elem.f (k : Nat) (a0 : Int) (a1 : Int) : Option (Bool) := (spinetref01_Word.f a0).bind fun t112 => ((spinetref01_Get.f k a1 (wrap64 (Int.tmod t112 32)) 1).bind fun t113 => (some (t113 == 1)))
theorem spinetref20_Elem.mono : ∀ a0 a1 k, LeO (spinetref20_Elem.f k a0 a1) (spinetref20_Elem.f (k + 1) a0 a1) := by
  intro a0 a1 k
  unfold spinetref20_Elem.f
  repeat' first
      | (with_reducible exact spinetref01_Get.mono _ _ _ _)
      | (with_reducible exact LeO.refl _)
      | (with_reducible exact LeO.none _)
      | (with_reducible refine LeO.ite ?_ ?_)
      | (with_reducible refine LeO.bind ?_ (fun _ => ?_))
      | exact spinetref01_Get.mono _ _ _ _
      | exact LeO.none _
      | refine LeO.ite ?_ ?_
      | refine LeO.bind ?_ (fun _ => ?_)
set_option maxHeartbeats 8000000 in
set_option maxRecDepth 100000 in
theorem spinetref20_Elem.calls (k : Nat) (a0 : Int) (a1 : Int) (r : Bool) (w : World) (h : spinetref20_Elem.f k a0 a1 = some r) :
    Calls Try.prog 19 #[.int .i64 a0, .int .u32 a1] w fun e w' => e = .returned (.bool r) ∧ Drawn0 w w' := by
  have H : ((spinetref01_Word.f a0).bind fun t112 => ((spinetref01_Get.f k a1 (wrap64 (Int.tmod t112 32)) 1).bind fun t113 => (some (t113 == 1)))) = some r := h
  clear h
  replace H := Option.bind_eq_some_iff.mp H
  obtain ⟨t112, A30, H⟩ := H
  replace H : ((spinetref01_Get.f k a1 (wrap64 (Int.tmod t112 32)) 1).bind fun t113 => (some (t113 == 1))) = some r := H
  have A3 := Aside0.mk A30
  clear A30
  replace H := Option.bind_eq_some_iff.mp H
  obtain ⟨t113, A40, H⟩ := H
  replace H : (some (t113 == 1)) = some r := H
  have A4 := Aside0.mk A40
  clear A40
  obtain rfl := Option.some.inj H
  go_enter Try.func19, Try.ntmps19
  go_wp2_with (first | ((with_reducible refine gate_callee (f := 38) rfl ?_); refine goesL_ (some 7) rfl rfl Try.func38 (by kernel_rfl) rfl #[.int .i64 a0] rfl (by (try simp only [List.map_toArray, List.map_cons, List.map_nil]); first | done | rfl | (simp only [List.length_drop, List.length_take]; rfl)) ?_; (with_reducible refine (spinetref01_Word.calls a0 t112 _ A3.out).mono ?_); rintro e w' ⟨rfl, ⟨nd, rfl⟩⟩; refine ⟨_, rfl, ?_⟩) | ((with_reducible refine gate_callee (f := 43) rfl ?_); refine goesL_ (some 10) rfl rfl Try.func43 (by kernel_rfl) rfl #[.int .u32 a1, .int .i64 (wrap64 (Int.tmod t112 32)), .int .i64 1] rfl (by (try simp only [List.map_toArray, List.map_cons, List.map_nil]); first | done | rfl | (simp only [List.length_drop, List.length_take]; rfl)) ?_; (with_reducible refine (spinetref01_Get.calls k a1 (wrap64 (Int.tmod t112 32)) 1 t113 _ A4.out).mono ?_); rintro e w' ⟨rfl, ⟨nd, rfl⟩⟩; refine ⟨_, rfl, ?_⟩))
  go_ret
  exact ⟨by first | rfl | (simp; done) | (simp [*]; done), by repeat (first | exact Drawn0.refl _ | apply Drawn0.step)⟩


/-! ### spinetref20_wrap: function 41 -/
def spinetref20_wrap.f (a0 : Int) : Option (Int) := (spinetref01_Word.f a0).bind fun t152 => ((spinetref01_Signed.f t152).bind fun t153 => (some t153))
set_option maxHeartbeats 8000000 in
set_option maxRecDepth 100000 in
theorem spinetref20_wrap.calls (a0 : Int) (r : Int) (w : World) (h : spinetref20_wrap.f a0 = some r) :
    Calls Try.prog 41 #[.int .i64 a0] w fun e w' => e = .returned (.int .i64 r) ∧ Drawn0 w w' := by
  have H : ((spinetref01_Word.f a0).bind fun t152 => ((spinetref01_Signed.f t152).bind fun t153 => (some t153))) = some r := h
  clear h
  replace H := Option.bind_eq_some_iff.mp H
  obtain ⟨t152, A20, H⟩ := H
  replace H : ((spinetref01_Signed.f t152).bind fun t153 => (some t153)) = some r := H
  have A2 := Aside0.mk A20
  clear A20
  replace H := Option.bind_eq_some_iff.mp H
  obtain ⟨t153, A30, H⟩ := H
  replace H : (some t153) = some r := H
  have A3 := Aside0.mk A30
  clear A30
  obtain rfl := Option.some.inj H
  go_enter Try.func41, Try.ntmps41
  go_wp2_with (first | ((with_reducible refine gate_callee (f := 38) rfl ?_); refine goesL_ (some 4) rfl rfl Try.func38 (by kernel_rfl) rfl #[.int .i64 a0] rfl (by (try simp only [List.map_toArray, List.map_cons, List.map_nil]); first | done | rfl | (simp only [List.length_drop, List.length_take]; rfl)) ?_; (with_reducible refine (spinetref01_Word.calls a0 t152 _ A2.out).mono ?_); rintro e w' ⟨rfl, ⟨nd, rfl⟩⟩; refine ⟨_, rfl, ?_⟩) | ((with_reducible refine gate_callee (f := 39) rfl ?_); refine goesL_ (some 5) rfl rfl Try.func39 (by kernel_rfl) rfl #[.int .u32 t152] rfl (by (try simp only [List.map_toArray, List.map_cons, List.map_nil]); first | done | rfl | (simp only [List.length_drop, List.length_take]; rfl)) ?_; (with_reducible refine (spinetref01_Signed.calls t152 t153 _ A3.out).mono ?_); rintro e w' ⟨rfl, ⟨nd, rfl⟩⟩; refine ⟨_, rfl, ?_⟩))
  go_ret
  exact ⟨by first | rfl | (simp; done) | (simp [*]; done), by repeat (first | exact Drawn0.refl _ | apply Drawn0.step)⟩


/-! ### spinetref20_Range: function 21 -/
def spinetref20_Range.l0 : Nat → Int → Int → Int → Int → Option (Int)
  | 0, _, _, _, _ => none
  | k + 1, x0, x1, x5, x6 => if x6 < 32 then ((spinetref20_wrap.f x0).bind fun t121 => (if x6 ≥ t121 then ((spinetref20_wrap.f x1).bind fun t122 => (if x6 ≤ t122 then ((spinetref01_Put.f k x5 x6 1 1).bind fun t123 => (spinetref20_Range.l0 k x0 x1 t123 (wrap64 (x6 + 1)))) else (spinetref20_Range.l0 k x0 x1 x5 (wrap64 (x6 + 1))))) else (spinetref20_Range.l0 k x0 x1 x5 (wrap64 (x6 + 1))))) else (some x5)
def spinetref20_Range.f (k : Nat) (a0 : Int) (a1 : Int) : Option (Int) := spinetref20_Range.l0 k a0 a1 0 0
theorem spinetref20_Range.mono_l : ∀ k, (∀ y0 y1 y2 y3, LeO (spinetref20_Range.l0 k y0 y1 y2 y3) (spinetref20_Range.l0 (k + 1) y0 y1 y2 y3))
  | 0 => fun _ _ _ _ r h => by simp [spinetref20_Range.l0] at h
  | k + 1 => by
    have ih0 := spinetref20_Range.mono_l k
    · intro y0 y1 y2 y3
      unfold spinetref20_Range.l0
      repeat' first
      | (with_reducible exact ih0 _ _ _ _)
      | (with_reducible exact spinetref01_Put.mono _ _ _ _ _)
      | (with_reducible exact LeO.refl _)
      | (with_reducible exact LeO.none _)
      | (with_reducible refine LeO.ite ?_ ?_)
      | (with_reducible refine LeO.bind ?_ (fun _ => ?_))
      | exact ih0 _ _ _ _
      | exact spinetref01_Put.mono _ _ _ _ _
      | exact LeO.none _
      | refine LeO.ite ?_ ?_
      | refine LeO.bind ?_ (fun _ => ?_)
theorem spinetref20_Range.mono : ∀ a0 a1 k, LeO (spinetref20_Range.f k a0 a1) (spinetref20_Range.f (k + 1) a0 a1) := by
  intro a0 a1 k
  have ih0 := spinetref20_Range.mono_l k
  unfold spinetref20_Range.f
  repeat' first
      | (with_reducible exact ih0 _ _ _ _)
      | (with_reducible exact spinetref01_Put.mono _ _ _ _ _)
      | (with_reducible exact LeO.refl _)
      | (with_reducible exact LeO.none _)
      | (with_reducible refine LeO.ite ?_ ?_)
      | (with_reducible refine LeO.bind ?_ (fun _ => ?_))
      | exact ih0 _ _ _ _
      | exact spinetref01_Put.mono _ _ _ _ _
      | exact LeO.none _
      | refine LeO.ite ?_ ?_
      | refine LeO.bind ?_ (fun _ => ?_)
set_option maxHeartbeats 8000000 in
set_option maxRecDepth 100000 in
theorem spinetref20_Range.calls (k : Nat) (a0 : Int) (a1 : Int) (r : Int) (w : World) (h : spinetref20_Range.f k a0 a1 = some r) :
    Calls Try.prog 21 #[.int .i64 a0, .int .i64 a1] w fun e w' => e = .returned (.int .u32 r) ∧ Drawn0 w w' := by
  have H : (spinetref20_Range.l0 k a0 a1 0 0) = some r := h
  clear h
  have H' := Aside0.mk H
  clear H
  go_enter Try.func21, Try.ntmps21
  go_wp2
  go_loopg [5, 6] k (fun kq v5 v6 w' => ∃ (x5_1 : Int) (x6_1 : Int), v5 = .int .u32 x5_1 ∧ v6 = .int .i64 x6_1 ∧ Aside0 (spinetref20_Range.l0 kq a0 a1 x5_1 x6_1 = some r) ∧ Aside0 (kq ≤ k) ∧ Drawn0 w w')
  case atStart => exact ⟨(0), (0), (by first | rfl | (simp; done) | (simp [*]; done)), (by first | rfl | (simp; done) | (simp [*]; done)), H', ⟨Nat.le_refl _⟩, by repeat (first | exact Drawn0.refl _ | apply Drawn0.step)⟩
  case round =>
    clear H'
    try clear c2
    try clear p2
    obtain ⟨x5_1, x6_1, rfl, rfl, HA, HK1, ⟨m1, rfl⟩⟩ := hrel
    cases gk with
    | zero => exact absurd HA.out (by simp [spinetref20_Range.l0])
    | succ k1 =>
      have H := HA.out
      clear HA
      simp only [spinetref20_Range.l0] at H
      by_cases c3 : x6_1 < 32
      · rw [if_pos c3] at H
        have c3b0 : decide (x6_1 < 32) = true := decide_eq_true c3
        clear c3
        replace H := Option.bind_eq_some_iff.mp H
        obtain ⟨t121, A40, H⟩ := H
        replace H : (if x6_1 ≥ t121 then ((spinetref20_wrap.f a1).bind fun t122 => (if x6_1 ≤ t122 then ((spinetref01_Put.f k1 x5_1 x6_1 1 1).bind fun t123 => (spinetref20_Range.l0 k1 a0 a1 t123 (wrap64 (x6_1 + 1)))) else (spinetref20_Range.l0 k1 a0 a1 x5_1 (wrap64 (x6_1 + 1))))) else (spinetref20_Range.l0 k1 a0 a1 x5_1 (wrap64 (x6_1 + 1)))) = some r := H
        have A4 := Aside0.mk A40
        clear A40
        by_cases c5 : x6_1 ≥ t121
        · rw [if_pos c5] at H
          have c5b0 : decide (t121 ≤ x6_1) = true := decide_eq_true c5
          clear c5
          replace H := Option.bind_eq_some_iff.mp H
          obtain ⟨t122, A60, H⟩ := H
          replace H : (if x6_1 ≤ t122 then ((spinetref01_Put.f k1 x5_1 x6_1 1 1).bind fun t123 => (spinetref20_Range.l0 k1 a0 a1 t123 (wrap64 (x6_1 + 1)))) else (spinetref20_Range.l0 k1 a0 a1 x5_1 (wrap64 (x6_1 + 1)))) = some r := H
          have A6 := Aside0.mk A60
          clear A60
          by_cases c7 : x6_1 ≤ t122
          · rw [if_pos c7] at H
            have c7b0 : decide (x6_1 ≤ t122) = true := decide_eq_true c7
            clear c7
            replace H := Option.bind_eq_some_iff.mp H
            obtain ⟨t123, A80, H⟩ := H
            replace H : (spinetref20_Range.l0 k1 a0 a1 t123 (wrap64 (x6_1 + 1))) = some r := H
            have A8 := Aside0.mk A80
            clear A80
            have H' := Aside0.mk H
            clear H
            go_wp2_with (first | ((with_reducible refine gate_callee (f := 41) rfl ?_); refine goesL_ (some 13) rfl rfl Try.func41 (by kernel_rfl) rfl #[.int .i64 a0] rfl (by (try simp only [List.map_toArray, List.map_cons, List.map_nil]); first | done | rfl | (simp only [List.length_drop, List.length_take]; rfl)) ?_; (with_reducible refine (spinetref20_wrap.calls a0 t121 _ A4.out).mono ?_); rintro e w' ⟨rfl, ⟨nd, rfl⟩⟩; refine ⟨_, rfl, ?_⟩) | (go_at_call 41; (with_reducible refine (spinetref20_wrap.calls a1 t122 _ A6.out).mono ?_); rintro e w' ⟨rfl, ⟨nd, rfl⟩⟩) | ((with_reducible refine gate_callee (f := 44) rfl ?_); refine goesL_ (some 23) rfl rfl Try.func44 (by kernel_rfl) rfl #[.int .u32 x5_1, .int .i64 x6_1, .int .i64 1, .int .u32 1] rfl (by (try simp only [List.map_toArray, List.map_cons, List.map_nil]); first | done | rfl | (simp only [List.length_drop, List.length_take]; rfl)) ?_; (with_reducible refine (spinetref01_Put.calls k1 x5_1 x6_1 1 1 t123 _ A8.out).mono ?_); rintro e w' ⟨rfl, ⟨nd, rfl⟩⟩; refine ⟨_, rfl, ?_⟩))
            go_roundg k1
            case measure => have := HK1.out; omega
            case rel => exact ⟨(t123), (wrap64 (x6_1 + 1)), (by first | rfl | (simp; done) | (simp [*]; done)), (by first | rfl | (simp; done) | (simp [*]; done)), H', ⟨by have := HK1.out; omega⟩, by repeat (first | exact Drawn0.refl _ | apply Drawn0.step)⟩
          · rw [if_neg c7] at H
            have c7b0 : decide (x6_1 ≤ t122) = false := decide_eq_false c7
            clear c7
            have H' := Aside0.mk H
            clear H
            go_wp2_with (first | ((with_reducible refine gate_callee (f := 41) rfl ?_); refine goesL_ (some 13) rfl rfl Try.func41 (by kernel_rfl) rfl #[.int .i64 a0] rfl (by (try simp only [List.map_toArray, List.map_cons, List.map_nil]); first | done | rfl | (simp only [List.length_drop, List.length_take]; rfl)) ?_; (with_reducible refine (spinetref20_wrap.calls a0 t121 _ A4.out).mono ?_); rintro e w' ⟨rfl, ⟨nd, rfl⟩⟩; refine ⟨_, rfl, ?_⟩) | (go_at_call 41; (with_reducible refine (spinetref20_wrap.calls a1 t122 _ A6.out).mono ?_); rintro e w' ⟨rfl, ⟨nd, rfl⟩⟩))
            go_roundg k1
            case measure => have := HK1.out; omega
            case rel => exact ⟨(x5_1), (wrap64 (x6_1 + 1)), (by first | rfl | (simp; done) | (simp [*]; done)), (by first | rfl | (simp; done) | (simp [*]; done)), H', ⟨by have := HK1.out; omega⟩, by repeat (first | exact Drawn0.refl _ | apply Drawn0.step)⟩
        · rw [if_neg c5] at H
          have c5b0 : decide (t121 ≤ x6_1) = false := decide_eq_false c5
          clear c5
          have H' := Aside0.mk H
          clear H
          go_wp2_with (first | ((with_reducible refine gate_callee (f := 41) rfl ?_); refine goesL_ (some 13) rfl rfl Try.func41 (by kernel_rfl) rfl #[.int .i64 a0] rfl (by (try simp only [List.map_toArray, List.map_cons, List.map_nil]); first | done | rfl | (simp only [List.length_drop, List.length_take]; rfl)) ?_; (with_reducible refine (spinetref20_wrap.calls a0 t121 _ A4.out).mono ?_); rintro e w' ⟨rfl, ⟨nd, rfl⟩⟩; refine ⟨_, rfl, ?_⟩))
          go_roundg k1
          case measure => have := HK1.out; omega
          case rel => exact ⟨(x5_1), (wrap64 (x6_1 + 1)), (by first | rfl | (simp; done) | (simp [*]; done)), (by first | rfl | (simp; done) | (simp [*]; done)), H', ⟨by have := HK1.out; omega⟩, by repeat (first | exact Drawn0.refl _ | apply Drawn0.step)⟩
      · rw [if_neg c3] at H
        have c3b0 : decide (x6_1 < 32) = false := decide_eq_false c3
        clear c3
        obtain rfl := Option.some.inj H
        go_wp2
        go_ret
        exact ⟨by first | rfl | (simp; done) | (simp [*]; done), by repeat (first | exact Drawn0.refl _ | apply Drawn0.step)⟩

-- NOT PRINTED: function 5 (spinetlaw20_ArithSets)


/-! ### spinetref12_Relate: function 30 -/
def spinetref12_Relate.f (a0 : ByteArray) (a1 : Int) : Option (Bool × Bool) := if a0.toList = ([61] : List UInt8) then (some ((a1 == 0), true)) else (if a0.toList = ([35] : List UInt8) then (some ((a1 != 0), true)) else (if a0.toList = ([60] : List UInt8) then (some (decide (a1 < 0), true)) else (if a0.toList = ([60, 61] : List UInt8) then (some (decide (a1 ≤ 0), true)) else (if a0.toList = ([62] : List UInt8) then (some (decide (a1 > 0), true)) else (if a0.toList = ([62, 61] : List UInt8) then (some (decide (a1 ≥ 0), true)) else (some (false, false)))))))
set_option maxHeartbeats 8000000 in
set_option maxRecDepth 100000 in
theorem spinetref12_Relate.calls (a0 : ByteArray) (a1 : Int) (r1 : Bool) (r2 : Bool) (w : World) (h : spinetref12_Relate.f a0 a1 = some (r1, r2)) :
    Calls Try.prog 30 #[.string a0, .int .i64 a1] w fun e w' => e = .returned (.tuple #[.bool r1, .bool r2]) ∧ Drawn0 w w' := by
  have H : (if a0.toList = ([61] : List UInt8) then (some ((a1 == 0), true)) else (if a0.toList = ([35] : List UInt8) then (some ((a1 != 0), true)) else (if a0.toList = ([60] : List UInt8) then (some (decide (a1 < 0), true)) else (if a0.toList = ([60, 61] : List UInt8) then (some (decide (a1 ≤ 0), true)) else (if a0.toList = ([62] : List UInt8) then (some (decide (a1 > 0), true)) else (if a0.toList = ([62, 61] : List UInt8) then (some (decide (a1 ≥ 0), true)) else (some (false, false)))))))) = some (r1, r2) := h
  clear h
  by_cases c3 : a0.toList = ([61] : List UInt8)
  · rw [if_pos c3] at H
    have c3b0 : (a0.toList == ([61] : List UInt8)) = true := beq_iff_eq.mpr c3
    have c3b1 : (a0.toList != ([61] : List UInt8)) = false := bne_eq_false_iff_eq.mpr c3
    clear c3
    simp only [Option.some.injEq, Prod.mk.injEq] at H
    obtain ⟨rfl, rfl⟩ := H
    go_enter Try.func30, Try.ntmps30
    go_wp2
    go_ret2
    exact ⟨by first | rfl | (simp; done) | (simp [*]; done), by repeat (first | exact Drawn0.refl _ | apply Drawn0.step)⟩
  · rw [if_neg c3] at H
    have c3b0 : (a0.toList == ([61] : List UInt8)) = false := beq_eq_false_iff_ne.mpr c3
    have c3b1 : (a0.toList != ([61] : List UInt8)) = true := bne_iff_ne.mpr c3
    by_cases c4 : a0.toList = ([35] : List UInt8)
    · rw [if_pos c4] at H
      have c4b0 : (a0.toList == ([35] : List UInt8)) = true := beq_iff_eq.mpr c4
      have c4b1 : (a0.toList != ([35] : List UInt8)) = false := bne_eq_false_iff_eq.mpr c4
      clear c4
      simp only [Option.some.injEq, Prod.mk.injEq] at H
      obtain ⟨rfl, rfl⟩ := H
      go_enter Try.func30, Try.ntmps30
      go_wp2
      go_ret2
      exact ⟨by first | rfl | (simp; done) | (simp [*]; done), by repeat (first | exact Drawn0.refl _ | apply Drawn0.step)⟩
    · rw [if_neg c4] at H
      have c4b0 : (a0.toList == ([35] : List UInt8)) = false := beq_eq_false_iff_ne.mpr c4
      have c4b1 : (a0.toList != ([35] : List UInt8)) = true := bne_iff_ne.mpr c4
      by_cases c5 : a0.toList = ([60] : List UInt8)
      · rw [if_pos c5] at H
        have c5b0 : (a0.toList == ([60] : List UInt8)) = true := beq_iff_eq.mpr c5
        have c5b1 : (a0.toList != ([60] : List UInt8)) = false := bne_eq_false_iff_eq.mpr c5
        clear c5
        simp only [Option.some.injEq, Prod.mk.injEq] at H
        obtain ⟨rfl, rfl⟩ := H
        go_enter Try.func30, Try.ntmps30
        go_wp2
        go_ret2
        exact ⟨by first | rfl | (simp; done) | (simp [*]; done), by repeat (first | exact Drawn0.refl _ | apply Drawn0.step)⟩
      · rw [if_neg c5] at H
        have c5b0 : (a0.toList == ([60] : List UInt8)) = false := beq_eq_false_iff_ne.mpr c5
        have c5b1 : (a0.toList != ([60] : List UInt8)) = true := bne_iff_ne.mpr c5
        by_cases c6 : a0.toList = ([60, 61] : List UInt8)
        · rw [if_pos c6] at H
          have c6b0 : (a0.toList == ([60, 61] : List UInt8)) = true := beq_iff_eq.mpr c6
          have c6b1 : (a0.toList != ([60, 61] : List UInt8)) = false := bne_eq_false_iff_eq.mpr c6
          clear c6
          simp only [Option.some.injEq, Prod.mk.injEq] at H
          obtain ⟨rfl, rfl⟩ := H
          go_enter Try.func30, Try.ntmps30
          go_wp2
          go_ret2
          exact ⟨by first | rfl | (simp; done) | (simp [*]; done), by repeat (first | exact Drawn0.refl _ | apply Drawn0.step)⟩
        · rw [if_neg c6] at H
          have c6b0 : (a0.toList == ([60, 61] : List UInt8)) = false := beq_eq_false_iff_ne.mpr c6
          have c6b1 : (a0.toList != ([60, 61] : List UInt8)) = true := bne_iff_ne.mpr c6
          by_cases c7 : a0.toList = ([62] : List UInt8)
          · rw [if_pos c7] at H
            have c7b0 : (a0.toList == ([62] : List UInt8)) = true := beq_iff_eq.mpr c7
            have c7b1 : (a0.toList != ([62] : List UInt8)) = false := bne_eq_false_iff_eq.mpr c7
            clear c7
            simp only [Option.some.injEq, Prod.mk.injEq] at H
            obtain ⟨rfl, rfl⟩ := H
            go_enter Try.func30, Try.ntmps30
            go_wp2
            go_ret2
            exact ⟨by first | rfl | (simp; done) | (simp [*]; done), by repeat (first | exact Drawn0.refl _ | apply Drawn0.step)⟩
          · rw [if_neg c7] at H
            have c7b0 : (a0.toList == ([62] : List UInt8)) = false := beq_eq_false_iff_ne.mpr c7
            have c7b1 : (a0.toList != ([62] : List UInt8)) = true := bne_iff_ne.mpr c7
            by_cases c8 : a0.toList = ([62, 61] : List UInt8)
            · rw [if_pos c8] at H
              have c8b0 : (a0.toList == ([62, 61] : List UInt8)) = true := beq_iff_eq.mpr c8
              have c8b1 : (a0.toList != ([62, 61] : List UInt8)) = false := bne_eq_false_iff_eq.mpr c8
              clear c8
              simp only [Option.some.injEq, Prod.mk.injEq] at H
              obtain ⟨rfl, rfl⟩ := H
              go_enter Try.func30, Try.ntmps30
              go_wp2
              go_ret2
              exact ⟨by first | rfl | (simp; done) | (simp [*]; done), by repeat (first | exact Drawn0.refl _ | apply Drawn0.step)⟩
            · rw [if_neg c8] at H
              have c8b0 : (a0.toList == ([62, 61] : List UInt8)) = false := beq_eq_false_iff_ne.mpr c8
              have c8b1 : (a0.toList != ([62, 61] : List UInt8)) = true := bne_iff_ne.mpr c8
              simp only [Option.some.injEq, Prod.mk.injEq] at H
              obtain ⟨rfl, rfl⟩ := H
              go_enter Try.func30, Try.ntmps30
              go_wp2
              go_ret2
              exact ⟨by first | rfl | (simp; done) | (simp [*]; done), by repeat (first | exact Drawn0.refl _ | apply Drawn0.step)⟩


/-! ### spinetref20_Relate: function 15 -/
def spinetref20_Relate.f (a0 : ByteArray) (a1 : Int) (a2 : Int) : Option (Bool × Bool) := (spinetref20_wrap.f a1).bind fun t154 => ((spinetref20_wrap.f a2).bind fun t155 => (if t154 < t155 then ((spinetref12_Relate.f a0 (-1)).bind fun bt156 => (some (bt156.1, bt156.2))) else (if t154 > t155 then ((spinetref12_Relate.f a0 1).bind fun bt158 => (some (bt158.1, bt158.2))) else ((spinetref12_Relate.f a0 0).bind fun bt160 => (some (bt160.1, bt160.2))))))
set_option maxHeartbeats 8000000 in
set_option maxRecDepth 100000 in
theorem spinetref20_Relate.calls (a0 : ByteArray) (a1 : Int) (a2 : Int) (r1 : Bool) (r2 : Bool) (w : World) (h : spinetref20_Relate.f a0 a1 a2 = some (r1, r2)) :
    Calls Try.prog 15 #[.string a0, .int .i64 a1, .int .i64 a2] w fun e w' => e = .returned (.tuple #[.bool r1, .bool r2]) ∧ Drawn0 w w' := by
  have H : ((spinetref20_wrap.f a1).bind fun t154 => ((spinetref20_wrap.f a2).bind fun t155 => (if t154 < t155 then ((spinetref12_Relate.f a0 (-1)).bind fun bt156 => (some (bt156.1, bt156.2))) else (if t154 > t155 then ((spinetref12_Relate.f a0 1).bind fun bt158 => (some (bt158.1, bt158.2))) else ((spinetref12_Relate.f a0 0).bind fun bt160 => (some (bt160.1, bt160.2))))))) = some (r1, r2) := h
  clear h
  replace H := Option.bind_eq_some_iff.mp H
  obtain ⟨t154, A40, H⟩ := H
  replace H : ((spinetref20_wrap.f a2).bind fun t155 => (if t154 < t155 then ((spinetref12_Relate.f a0 (-1)).bind fun bt156 => (some (bt156.1, bt156.2))) else (if t154 > t155 then ((spinetref12_Relate.f a0 1).bind fun bt158 => (some (bt158.1, bt158.2))) else ((spinetref12_Relate.f a0 0).bind fun bt160 => (some (bt160.1, bt160.2)))))) = some (r1, r2) := H
  have A4 := Aside0.mk A40
  clear A40
  replace H := Option.bind_eq_some_iff.mp H
  obtain ⟨t155, A50, H⟩ := H
  replace H : (if t154 < t155 then ((spinetref12_Relate.f a0 (-1)).bind fun bt156 => (some (bt156.1, bt156.2))) else (if t154 > t155 then ((spinetref12_Relate.f a0 1).bind fun bt158 => (some (bt158.1, bt158.2))) else ((spinetref12_Relate.f a0 0).bind fun bt160 => (some (bt160.1, bt160.2))))) = some (r1, r2) := H
  have A5 := Aside0.mk A50
  clear A50
  by_cases c6 : t154 < t155
  · rw [if_pos c6] at H
    have c6b0 : decide (t154 < t155) = true := decide_eq_true c6
    clear c6
    replace H := Option.bind_eq_some_iff.mp H
    obtain ⟨⟨t156, t157⟩, A70, H⟩ := H
    replace H : (some (t156, t157)) = some (r1, r2) := H
    have A7 := Aside0.mk A70
    clear A70
    simp only [Option.some.injEq, Prod.mk.injEq] at H
    obtain ⟨rfl, rfl⟩ := H
    go_enter Try.func15, Try.ntmps15
    go_wp2_with (first | ((with_reducible refine gate_callee (f := 41) rfl ?_); refine goesL_ (some 10) rfl rfl Try.func41 (by kernel_rfl) rfl #[.int .i64 a1] rfl (by (try simp only [List.map_toArray, List.map_cons, List.map_nil]); first | done | rfl | (simp only [List.length_drop, List.length_take]; rfl)) ?_; (with_reducible refine (spinetref20_wrap.calls a1 t154 _ A4.out).mono ?_); rintro e w' ⟨rfl, ⟨nd, rfl⟩⟩; refine ⟨_, rfl, ?_⟩) | ((with_reducible refine gate_callee (f := 41) rfl ?_); refine goesL_ (some 12) rfl rfl Try.func41 (by kernel_rfl) rfl #[.int .i64 a2] rfl (by (try simp only [List.map_toArray, List.map_cons, List.map_nil]); first | done | rfl | (simp only [List.length_drop, List.length_take]; rfl)) ?_; (with_reducible refine (spinetref20_wrap.calls a2 t155 _ A5.out).mono ?_); rintro e w' ⟨rfl, ⟨nd, rfl⟩⟩; refine ⟨_, rfl, ?_⟩) | ((with_reducible refine gate_callee (f := 30) rfl ?_); refine goesL_ (some 21) rfl rfl Try.func30 (by kernel_rfl) rfl #[.string a0, .int .i64 (-1)] rfl (by (try simp only [List.map_toArray, List.map_cons, List.map_nil]); first | done | rfl | (simp only [List.length_drop, List.length_take]; rfl)) ?_; (with_reducible refine (spinetref12_Relate.calls a0 (-1) t156 t157 _ A7.out).mono ?_); rintro e w' ⟨rfl, ⟨nd, rfl⟩⟩; refine ⟨_, rfl, ?_⟩))
    go_ret2
    exact ⟨by first | rfl | (simp; done) | (simp [*]; done), by repeat (first | exact Drawn0.refl _ | apply Drawn0.step)⟩
  · rw [if_neg c6] at H
    have c6b0 : decide (t154 < t155) = false := decide_eq_false c6
    clear c6
    by_cases c8 : t154 > t155
    · rw [if_pos c8] at H
      have c8b0 : decide (t155 < t154) = true := decide_eq_true c8
      clear c8
      replace H := Option.bind_eq_some_iff.mp H
      obtain ⟨⟨t158, t159⟩, A90, H⟩ := H
      replace H : (some (t158, t159)) = some (r1, r2) := H
      have A9 := Aside0.mk A90
      clear A90
      simp only [Option.some.injEq, Prod.mk.injEq] at H
      obtain ⟨rfl, rfl⟩ := H
      go_enter Try.func15, Try.ntmps15
      go_wp2_with (first | ((with_reducible refine gate_callee (f := 41) rfl ?_); refine goesL_ (some 10) rfl rfl Try.func41 (by kernel_rfl) rfl #[.int .i64 a1] rfl (by (try simp only [List.map_toArray, List.map_cons, List.map_nil]); first | done | rfl | (simp only [List.length_drop, List.length_take]; rfl)) ?_; (with_reducible refine (spinetref20_wrap.calls a1 t154 _ A4.out).mono ?_); rintro e w' ⟨rfl, ⟨nd, rfl⟩⟩; refine ⟨_, rfl, ?_⟩) | ((with_reducible refine gate_callee (f := 41) rfl ?_); refine goesL_ (some 12) rfl rfl Try.func41 (by kernel_rfl) rfl #[.int .i64 a2] rfl (by (try simp only [List.map_toArray, List.map_cons, List.map_nil]); first | done | rfl | (simp only [List.length_drop, List.length_take]; rfl)) ?_; (with_reducible refine (spinetref20_wrap.calls a2 t155 _ A5.out).mono ?_); rintro e w' ⟨rfl, ⟨nd, rfl⟩⟩; refine ⟨_, rfl, ?_⟩) | ((with_reducible refine gate_callee (f := 30) rfl ?_); refine goesL_ (some 21) rfl rfl Try.func30 (by kernel_rfl) rfl #[.string a0, .int .i64 1] rfl (by (try simp only [List.map_toArray, List.map_cons, List.map_nil]); first | done | rfl | (simp only [List.length_drop, List.length_take]; rfl)) ?_; (with_reducible refine (spinetref12_Relate.calls a0 1 t158 t159 _ A9.out).mono ?_); rintro e w' ⟨rfl, ⟨nd, rfl⟩⟩; refine ⟨_, rfl, ?_⟩))
      go_ret2
      exact ⟨by first | rfl | (simp; done) | (simp [*]; done), by repeat (first | exact Drawn0.refl _ | apply Drawn0.step)⟩
    · rw [if_neg c8] at H
      have c8b0 : decide (t155 < t154) = false := decide_eq_false c8
      clear c8
      replace H := Option.bind_eq_some_iff.mp H
      obtain ⟨⟨t160, t161⟩, A100, H⟩ := H
      replace H : (some (t160, t161)) = some (r1, r2) := H
      have A10 := Aside0.mk A100
      clear A100
      simp only [Option.some.injEq, Prod.mk.injEq] at H
      obtain ⟨rfl, rfl⟩ := H
      go_enter Try.func15, Try.ntmps15
      go_wp2_with (first | ((with_reducible refine gate_callee (f := 41) rfl ?_); refine goesL_ (some 10) rfl rfl Try.func41 (by kernel_rfl) rfl #[.int .i64 a1] rfl (by (try simp only [List.map_toArray, List.map_cons, List.map_nil]); first | done | rfl | (simp only [List.length_drop, List.length_take]; rfl)) ?_; (with_reducible refine (spinetref20_wrap.calls a1 t154 _ A4.out).mono ?_); rintro e w' ⟨rfl, ⟨nd, rfl⟩⟩; refine ⟨_, rfl, ?_⟩) | ((with_reducible refine gate_callee (f := 41) rfl ?_); refine goesL_ (some 12) rfl rfl Try.func41 (by kernel_rfl) rfl #[.int .i64 a2] rfl (by (try simp only [List.map_toArray, List.map_cons, List.map_nil]); first | done | rfl | (simp only [List.length_drop, List.length_take]; rfl)) ?_; (with_reducible refine (spinetref20_wrap.calls a2 t155 _ A5.out).mono ?_); rintro e w' ⟨rfl, ⟨nd, rfl⟩⟩; refine ⟨_, rfl, ?_⟩) | ((with_reducible refine gate_callee (f := 30) rfl ?_); refine goesL_ (some 21) rfl rfl Try.func30 (by kernel_rfl) rfl #[.string a0, .int .i64 0] rfl (by (try simp only [List.map_toArray, List.map_cons, List.map_nil]); first | done | rfl | (simp only [List.length_drop, List.length_take]; rfl)) ?_; (with_reducible refine (spinetref12_Relate.calls a0 0 t160 t161 _ A10.out).mono ?_); rintro e w' ⟨rfl, ⟨nd, rfl⟩⟩; refine ⟨_, rfl, ?_⟩))
      go_ret2
      exact ⟨by first | rfl | (simp; done) | (simp [*]; done), by repeat (first | exact Drawn0.refl _ | apply Drawn0.step)⟩

-- NOT PRINTED: function 4 (spinetlaw20_ArithInts)


/-! ### spinetref20_Call: function 23 -/
def spinetref20_Call.f (k : Nat) (a0 : ByteArray) (a1 : Int) (a2 : Int) : Option (Int × Bool) := (spinetref01_Word.f a1).bind fun t119 => ((spinetref01_Word.f a2).bind fun t120 => (if a0.toList = ([65, 66, 83] : List UInt8) then ((spinetref01_Signed.f t119).bind fun t121 => (if t121 < 0 then ((spinetref01_Signed.f ((-t119) % 4294967296)).bind fun t122 => (some (t122, true))) else ((spinetref01_Signed.f t119).bind fun t123 => (some (t123, true))))) else (if a0.toList = ([79, 68, 68] : List UInt8) then (some (wrap64 (Int.tmod t119 2), true)) else (if a0.toList = ([76, 83, 76] : List UInt8) then ((spinetref01_Lsl.f k t119 t120).bind fun t124 => ((spinetref01_Signed.f t124).bind fun t125 => (some (t125, true)))) else (if a0.toList = ([65, 83, 82] : List UInt8) then ((spinetref01_Asr.f k t119 t120).bind fun t126 => ((spinetref01_Signed.f t126).bind fun t127 => (some (t127, true)))) else (if a0.toList = ([82, 79, 82] : List UInt8) then ((spinetref01_Ror.f k t119 t120).bind fun t128 => ((spinetref01_Signed.f t128).bind fun t129 => (some (t129, true)))) else (if a0.toList = ([67, 72, 82] : List UInt8) then (some (wrap64 (Int.tmod t119 256), true)) else (if a0.toList = ([79, 82, 68] : List UInt8) then ((spinetref01_Signed.f t119).bind fun t130 => (some (t130, true))) else (some (0, false))))))))))
theorem spinetref20_Call.mono : ∀ a0 a1 a2 k, LeO (spinetref20_Call.f k a0 a1 a2) (spinetref20_Call.f (k + 1) a0 a1 a2) := by
  intro a0 a1 a2 k
  unfold spinetref20_Call.f
  repeat' first
      | (with_reducible exact spinetref01_Asr.mono _ _ _)
      | (with_reducible exact spinetref01_Lsl.mono _ _ _)
      | (with_reducible exact spinetref01_Ror.mono _ _ _)
      | (with_reducible exact LeO.refl _)
      | (with_reducible exact LeO.none _)
      | (with_reducible refine LeO.ite ?_ ?_)
      | (with_reducible refine LeO.bind ?_ (fun _ => ?_))
      | exact spinetref01_Asr.mono _ _ _
      | exact spinetref01_Lsl.mono _ _ _
      | exact spinetref01_Ror.mono _ _ _
      | exact LeO.none _
      | refine LeO.ite ?_ ?_
      | refine LeO.bind ?_ (fun _ => ?_)
set_option maxHeartbeats 8000000 in
set_option maxRecDepth 100000 in
theorem spinetref20_Call.calls (k : Nat) (a0 : ByteArray) (a1 : Int) (a2 : Int) (r1 : Int) (r2 : Bool) (w : World) (h : spinetref20_Call.f k a0 a1 a2 = some (r1, r2)) :
    Calls Try.prog 23 #[.string a0, .int .i64 a1, .int .i64 a2] w fun e w' => e = .returned (.tuple #[.int .i64 r1, .bool r2]) ∧ Drawn0 w w' := by
  have H : ((spinetref01_Word.f a1).bind fun t119 => ((spinetref01_Word.f a2).bind fun t120 => (if a0.toList = ([65, 66, 83] : List UInt8) then ((spinetref01_Signed.f t119).bind fun t121 => (if t121 < 0 then ((spinetref01_Signed.f ((-t119) % 4294967296)).bind fun t122 => (some (t122, true))) else ((spinetref01_Signed.f t119).bind fun t123 => (some (t123, true))))) else (if a0.toList = ([79, 68, 68] : List UInt8) then (some (wrap64 (Int.tmod t119 2), true)) else (if a0.toList = ([76, 83, 76] : List UInt8) then ((spinetref01_Lsl.f k t119 t120).bind fun t124 => ((spinetref01_Signed.f t124).bind fun t125 => (some (t125, true)))) else (if a0.toList = ([65, 83, 82] : List UInt8) then ((spinetref01_Asr.f k t119 t120).bind fun t126 => ((spinetref01_Signed.f t126).bind fun t127 => (some (t127, true)))) else (if a0.toList = ([82, 79, 82] : List UInt8) then ((spinetref01_Ror.f k t119 t120).bind fun t128 => ((spinetref01_Signed.f t128).bind fun t129 => (some (t129, true)))) else (if a0.toList = ([67, 72, 82] : List UInt8) then (some (wrap64 (Int.tmod t119 256), true)) else (if a0.toList = ([79, 82, 68] : List UInt8) then ((spinetref01_Signed.f t119).bind fun t130 => (some (t130, true))) else (some (0, false))))))))))) = some (r1, r2) := h
  clear h
  replace H := Option.bind_eq_some_iff.mp H
  obtain ⟨t119, A40, H⟩ := H
  replace H : ((spinetref01_Word.f a2).bind fun t120 => (if a0.toList = ([65, 66, 83] : List UInt8) then ((spinetref01_Signed.f t119).bind fun t121 => (if t121 < 0 then ((spinetref01_Signed.f ((-t119) % 4294967296)).bind fun t122 => (some (t122, true))) else ((spinetref01_Signed.f t119).bind fun t123 => (some (t123, true))))) else (if a0.toList = ([79, 68, 68] : List UInt8) then (some (wrap64 (Int.tmod t119 2), true)) else (if a0.toList = ([76, 83, 76] : List UInt8) then ((spinetref01_Lsl.f k t119 t120).bind fun t124 => ((spinetref01_Signed.f t124).bind fun t125 => (some (t125, true)))) else (if a0.toList = ([65, 83, 82] : List UInt8) then ((spinetref01_Asr.f k t119 t120).bind fun t126 => ((spinetref01_Signed.f t126).bind fun t127 => (some (t127, true)))) else (if a0.toList = ([82, 79, 82] : List UInt8) then ((spinetref01_Ror.f k t119 t120).bind fun t128 => ((spinetref01_Signed.f t128).bind fun t129 => (some (t129, true)))) else (if a0.toList = ([67, 72, 82] : List UInt8) then (some (wrap64 (Int.tmod t119 256), true)) else (if a0.toList = ([79, 82, 68] : List UInt8) then ((spinetref01_Signed.f t119).bind fun t130 => (some (t130, true))) else (some (0, false)))))))))) = some (r1, r2) := H
  have A4 := Aside0.mk A40
  clear A40
  replace H := Option.bind_eq_some_iff.mp H
  obtain ⟨t120, A50, H⟩ := H
  replace H : (if a0.toList = ([65, 66, 83] : List UInt8) then ((spinetref01_Signed.f t119).bind fun t121 => (if t121 < 0 then ((spinetref01_Signed.f ((-t119) % 4294967296)).bind fun t122 => (some (t122, true))) else ((spinetref01_Signed.f t119).bind fun t123 => (some (t123, true))))) else (if a0.toList = ([79, 68, 68] : List UInt8) then (some (wrap64 (Int.tmod t119 2), true)) else (if a0.toList = ([76, 83, 76] : List UInt8) then ((spinetref01_Lsl.f k t119 t120).bind fun t124 => ((spinetref01_Signed.f t124).bind fun t125 => (some (t125, true)))) else (if a0.toList = ([65, 83, 82] : List UInt8) then ((spinetref01_Asr.f k t119 t120).bind fun t126 => ((spinetref01_Signed.f t126).bind fun t127 => (some (t127, true)))) else (if a0.toList = ([82, 79, 82] : List UInt8) then ((spinetref01_Ror.f k t119 t120).bind fun t128 => ((spinetref01_Signed.f t128).bind fun t129 => (some (t129, true)))) else (if a0.toList = ([67, 72, 82] : List UInt8) then (some (wrap64 (Int.tmod t119 256), true)) else (if a0.toList = ([79, 82, 68] : List UInt8) then ((spinetref01_Signed.f t119).bind fun t130 => (some (t130, true))) else (some (0, false))))))))) = some (r1, r2) := H
  have A5 := Aside0.mk A50
  clear A50
  by_cases c6 : a0.toList = ([65, 66, 83] : List UInt8)
  · rw [if_pos c6] at H
    have c6b0 : (a0.toList == ([65, 66, 83] : List UInt8)) = true := beq_iff_eq.mpr c6
    have c6b1 : (a0.toList != ([65, 66, 83] : List UInt8)) = false := bne_eq_false_iff_eq.mpr c6
    clear c6
    replace H := Option.bind_eq_some_iff.mp H
    obtain ⟨t121, A70, H⟩ := H
    replace H : (if t121 < 0 then ((spinetref01_Signed.f ((-t119) % 4294967296)).bind fun t122 => (some (t122, true))) else ((spinetref01_Signed.f t119).bind fun t123 => (some (t123, true)))) = some (r1, r2) := H
    have A7 := Aside0.mk A70
    clear A70
    by_cases c8 : t121 < 0
    · rw [if_pos c8] at H
      have c8b0 : decide (t121 < 0) = true := decide_eq_true c8
      clear c8
      replace H := Option.bind_eq_some_iff.mp H
      obtain ⟨t122, A90, H⟩ := H
      replace H : (some (t122, true)) = some (r1, r2) := H
      have A9 := Aside0.mk A90
      clear A90
      simp only [Option.some.injEq, Prod.mk.injEq] at H
      obtain ⟨rfl, rfl⟩ := H
      go_enter Try.func23, Try.ntmps23
      go_wp2_with (first | ((with_reducible refine gate_callee (f := 38) rfl ?_); refine goesL_ (some 11) rfl rfl Try.func38 (by kernel_rfl) rfl #[.int .i64 a1] rfl (by (try simp only [List.map_toArray, List.map_cons, List.map_nil]); first | done | rfl | (simp only [List.length_drop, List.length_take]; rfl)) ?_; (with_reducible refine (spinetref01_Word.calls a1 t119 _ A4.out).mono ?_); rintro e w' ⟨rfl, ⟨nd, rfl⟩⟩; refine ⟨_, rfl, ?_⟩) | ((with_reducible refine gate_callee (f := 38) rfl ?_); refine goesL_ (some 13) rfl rfl Try.func38 (by kernel_rfl) rfl #[.int .i64 a2] rfl (by (try simp only [List.map_toArray, List.map_cons, List.map_nil]); first | done | rfl | (simp only [List.length_drop, List.length_take]; rfl)) ?_; (with_reducible refine (spinetref01_Word.calls a2 t120 _ A5.out).mono ?_); rintro e w' ⟨rfl, ⟨nd, rfl⟩⟩; refine ⟨_, rfl, ?_⟩) | ((with_reducible refine gate_callee (f := 39) rfl ?_); refine goesL_ (some 18) rfl rfl Try.func39 (by kernel_rfl) rfl #[.int .u32 t119] rfl (by (try simp only [List.map_toArray, List.map_cons, List.map_nil]); first | done | rfl | (simp only [List.length_drop, List.length_take]; rfl)) ?_; (with_reducible refine (spinetref01_Signed.calls t119 t121 _ A7.out).mono ?_); rintro e w' ⟨rfl, ⟨nd, rfl⟩⟩; refine ⟨_, rfl, ?_⟩) | ((with_reducible refine gate_callee (f := 39) rfl ?_); refine goesL_ (some 22) rfl rfl Try.func39 (by kernel_rfl) rfl #[.int .u32 ((-t119) % 4294967296)] rfl (by (try simp only [List.map_toArray, List.map_cons, List.map_nil]); first | done | rfl | (simp only [List.length_drop, List.length_take]; rfl)) ?_; (with_reducible refine (spinetref01_Signed.calls ((-t119) % 4294967296) t122 _ A9.out).mono ?_); rintro e w' ⟨rfl, ⟨nd, rfl⟩⟩; refine ⟨_, rfl, ?_⟩))
      go_ret2
      exact ⟨by first | rfl | (simp; done) | (simp [*]; done), by repeat (first | exact Drawn0.refl _ | apply Drawn0.step)⟩
    · rw [if_neg c8] at H
      have c8b0 : decide (t121 < 0) = false := decide_eq_false c8
      clear c8
      replace H := Option.bind_eq_some_iff.mp H
      obtain ⟨t123, A100, H⟩ := H
      replace H : (some (t123, true)) = some (r1, r2) := H
      have A10 := Aside0.mk A100
      clear A100
      simp only [Option.some.injEq, Prod.mk.injEq] at H
      obtain ⟨rfl, rfl⟩ := H
      go_enter Try.func23, Try.ntmps23
      go_wp2_with (first | ((with_reducible refine gate_callee (f := 38) rfl ?_); refine goesL_ (some 11) rfl rfl Try.func38 (by kernel_rfl) rfl #[.int .i64 a1] rfl (by (try simp only [List.map_toArray, List.map_cons, List.map_nil]); first | done | rfl | (simp only [List.length_drop, List.length_take]; rfl)) ?_; (with_reducible refine (spinetref01_Word.calls a1 t119 _ A4.out).mono ?_); rintro e w' ⟨rfl, ⟨nd, rfl⟩⟩; refine ⟨_, rfl, ?_⟩) | ((with_reducible refine gate_callee (f := 38) rfl ?_); refine goesL_ (some 13) rfl rfl Try.func38 (by kernel_rfl) rfl #[.int .i64 a2] rfl (by (try simp only [List.map_toArray, List.map_cons, List.map_nil]); first | done | rfl | (simp only [List.length_drop, List.length_take]; rfl)) ?_; (with_reducible refine (spinetref01_Word.calls a2 t120 _ A5.out).mono ?_); rintro e w' ⟨rfl, ⟨nd, rfl⟩⟩; refine ⟨_, rfl, ?_⟩) | ((with_reducible refine gate_callee (f := 39) rfl ?_); refine goesL_ (some 18) rfl rfl Try.func39 (by kernel_rfl) rfl #[.int .u32 t119] rfl (by (try simp only [List.map_toArray, List.map_cons, List.map_nil]); first | done | rfl | (simp only [List.length_drop, List.length_take]; rfl)) ?_; (with_reducible refine (spinetref01_Signed.calls t119 t121 _ A7.out).mono ?_); rintro e w' ⟨rfl, ⟨nd, rfl⟩⟩; refine ⟨_, rfl, ?_⟩) | ((with_reducible refine gate_callee (f := 39) rfl ?_); refine goesL_ (some 24) rfl rfl Try.func39 (by kernel_rfl) rfl #[.int .u32 t119] rfl (by (try simp only [List.map_toArray, List.map_cons, List.map_nil]); first | done | rfl | (simp only [List.length_drop, List.length_take]; rfl)) ?_; (with_reducible refine (spinetref01_Signed.calls t119 t123 _ A10.out).mono ?_); rintro e w' ⟨rfl, ⟨nd, rfl⟩⟩; refine ⟨_, rfl, ?_⟩))
      go_ret2
      exact ⟨by first | rfl | (simp; done) | (simp [*]; done), by repeat (first | exact Drawn0.refl _ | apply Drawn0.step)⟩
  · rw [if_neg c6] at H
    have c6b0 : (a0.toList == ([65, 66, 83] : List UInt8)) = false := beq_eq_false_iff_ne.mpr c6
    have c6b1 : (a0.toList != ([65, 66, 83] : List UInt8)) = true := bne_iff_ne.mpr c6
    by_cases c11 : a0.toList = ([79, 68, 68] : List UInt8)
    · rw [if_pos c11] at H
      have c11b0 : (a0.toList == ([79, 68, 68] : List UInt8)) = true := beq_iff_eq.mpr c11
      have c11b1 : (a0.toList != ([79, 68, 68] : List UInt8)) = false := bne_eq_false_iff_eq.mpr c11
      clear c11
      simp only [Option.some.injEq, Prod.mk.injEq] at H
      obtain ⟨rfl, rfl⟩ := H
      go_enter Try.func23, Try.ntmps23
      go_wp2_with (first | ((with_reducible refine gate_callee (f := 38) rfl ?_); refine goesL_ (some 11) rfl rfl Try.func38 (by kernel_rfl) rfl #[.int .i64 a1] rfl (by (try simp only [List.map_toArray, List.map_cons, List.map_nil]); first | done | rfl | (simp only [List.length_drop, List.length_take]; rfl)) ?_; (with_reducible refine (spinetref01_Word.calls a1 t119 _ A4.out).mono ?_); rintro e w' ⟨rfl, ⟨nd, rfl⟩⟩; refine ⟨_, rfl, ?_⟩) | ((with_reducible refine gate_callee (f := 38) rfl ?_); refine goesL_ (some 13) rfl rfl Try.func38 (by kernel_rfl) rfl #[.int .i64 a2] rfl (by (try simp only [List.map_toArray, List.map_cons, List.map_nil]); first | done | rfl | (simp only [List.length_drop, List.length_take]; rfl)) ?_; (with_reducible refine (spinetref01_Word.calls a2 t120 _ A5.out).mono ?_); rintro e w' ⟨rfl, ⟨nd, rfl⟩⟩; refine ⟨_, rfl, ?_⟩))
      go_ret2
      exact ⟨by first | rfl | (simp; done) | (simp [*]; done), by repeat (first | exact Drawn0.refl _ | apply Drawn0.step)⟩
    · rw [if_neg c11] at H
      have c11b0 : (a0.toList == ([79, 68, 68] : List UInt8)) = false := beq_eq_false_iff_ne.mpr c11
      have c11b1 : (a0.toList != ([79, 68, 68] : List UInt8)) = true := bne_iff_ne.mpr c11
      by_cases c12 : a0.toList = ([76, 83, 76] : List UInt8)
      · rw [if_pos c12] at H
        have c12b0 : (a0.toList == ([76, 83, 76] : List UInt8)) = true := beq_iff_eq.mpr c12
        have c12b1 : (a0.toList != ([76, 83, 76] : List UInt8)) = false := bne_eq_false_iff_eq.mpr c12
        clear c12
        replace H := Option.bind_eq_some_iff.mp H
        obtain ⟨t124, A130, H⟩ := H
        replace H : ((spinetref01_Signed.f t124).bind fun t125 => (some (t125, true))) = some (r1, r2) := H
        have A13 := Aside0.mk A130
        clear A130
        replace H := Option.bind_eq_some_iff.mp H
        obtain ⟨t125, A140, H⟩ := H
        replace H : (some (t125, true)) = some (r1, r2) := H
        have A14 := Aside0.mk A140
        clear A140
        simp only [Option.some.injEq, Prod.mk.injEq] at H
        obtain ⟨rfl, rfl⟩ := H
        go_enter Try.func23, Try.ntmps23
        go_wp2_with (first | ((with_reducible refine gate_callee (f := 38) rfl ?_); refine goesL_ (some 11) rfl rfl Try.func38 (by kernel_rfl) rfl #[.int .i64 a1] rfl (by (try simp only [List.map_toArray, List.map_cons, List.map_nil]); first | done | rfl | (simp only [List.length_drop, List.length_take]; rfl)) ?_; (with_reducible refine (spinetref01_Word.calls a1 t119 _ A4.out).mono ?_); rintro e w' ⟨rfl, ⟨nd, rfl⟩⟩; refine ⟨_, rfl, ?_⟩) | ((with_reducible refine gate_callee (f := 38) rfl ?_); refine goesL_ (some 13) rfl rfl Try.func38 (by kernel_rfl) rfl #[.int .i64 a2] rfl (by (try simp only [List.map_toArray, List.map_cons, List.map_nil]); first | done | rfl | (simp only [List.length_drop, List.length_take]; rfl)) ?_; (with_reducible refine (spinetref01_Word.calls a2 t120 _ A5.out).mono ?_); rintro e w' ⟨rfl, ⟨nd, rfl⟩⟩; refine ⟨_, rfl, ?_⟩) | ((with_reducible refine gate_callee (f := 50) rfl ?_); refine goesL_ (some 34) rfl rfl Try.func50 (by kernel_rfl) rfl #[.int .u32 t119, .int .u32 t120] rfl (by (try simp only [List.map_toArray, List.map_cons, List.map_nil]); first | done | rfl | (simp only [List.length_drop, List.length_take]; rfl)) ?_; (with_reducible refine (spinetref01_Lsl.calls k t119 t120 t124 _ A13.out).mono ?_); rintro e w' ⟨rfl, ⟨nd, rfl⟩⟩; refine ⟨_, rfl, ?_⟩) | ((with_reducible refine gate_callee (f := 39) rfl ?_); refine goesL_ (some 35) rfl rfl Try.func39 (by kernel_rfl) rfl #[.int .u32 t124] rfl (by (try simp only [List.map_toArray, List.map_cons, List.map_nil]); first | done | rfl | (simp only [List.length_drop, List.length_take]; rfl)) ?_; (with_reducible refine (spinetref01_Signed.calls t124 t125 _ A14.out).mono ?_); rintro e w' ⟨rfl, ⟨nd, rfl⟩⟩; refine ⟨_, rfl, ?_⟩))
        go_ret2
        exact ⟨by first | rfl | (simp; done) | (simp [*]; done), by repeat (first | exact Drawn0.refl _ | apply Drawn0.step)⟩
      · rw [if_neg c12] at H
        have c12b0 : (a0.toList == ([76, 83, 76] : List UInt8)) = false := beq_eq_false_iff_ne.mpr c12
        have c12b1 : (a0.toList != ([76, 83, 76] : List UInt8)) = true := bne_iff_ne.mpr c12
        by_cases c15 : a0.toList = ([65, 83, 82] : List UInt8)
        · rw [if_pos c15] at H
          have c15b0 : (a0.toList == ([65, 83, 82] : List UInt8)) = true := beq_iff_eq.mpr c15
          have c15b1 : (a0.toList != ([65, 83, 82] : List UInt8)) = false := bne_eq_false_iff_eq.mpr c15
          clear c15
          replace H := Option.bind_eq_some_iff.mp H
          obtain ⟨t126, A160, H⟩ := H
          replace H : ((spinetref01_Signed.f t126).bind fun t127 => (some (t127, true))) = some (r1, r2) := H
          have A16 := Aside0.mk A160
          clear A160
          replace H := Option.bind_eq_some_iff.mp H
          obtain ⟨t127, A170, H⟩ := H
          replace H : (some (t127, true)) = some (r1, r2) := H
          have A17 := Aside0.mk A170
          clear A170
          simp only [Option.some.injEq, Prod.mk.injEq] at H
          obtain ⟨rfl, rfl⟩ := H
          go_enter Try.func23, Try.ntmps23
          go_wp2_with (first | ((with_reducible refine gate_callee (f := 38) rfl ?_); refine goesL_ (some 11) rfl rfl Try.func38 (by kernel_rfl) rfl #[.int .i64 a1] rfl (by (try simp only [List.map_toArray, List.map_cons, List.map_nil]); first | done | rfl | (simp only [List.length_drop, List.length_take]; rfl)) ?_; (with_reducible refine (spinetref01_Word.calls a1 t119 _ A4.out).mono ?_); rintro e w' ⟨rfl, ⟨nd, rfl⟩⟩; refine ⟨_, rfl, ?_⟩) | ((with_reducible refine gate_callee (f := 38) rfl ?_); refine goesL_ (some 13) rfl rfl Try.func38 (by kernel_rfl) rfl #[.int .i64 a2] rfl (by (try simp only [List.map_toArray, List.map_cons, List.map_nil]); first | done | rfl | (simp only [List.length_drop, List.length_take]; rfl)) ?_; (with_reducible refine (spinetref01_Word.calls a2 t120 _ A5.out).mono ?_); rintro e w' ⟨rfl, ⟨nd, rfl⟩⟩; refine ⟨_, rfl, ?_⟩) | ((with_reducible refine gate_callee (f := 51) rfl ?_); refine goesL_ (some 40) rfl rfl Try.func51 (by kernel_rfl) rfl #[.int .u32 t119, .int .u32 t120] rfl (by (try simp only [List.map_toArray, List.map_cons, List.map_nil]); first | done | rfl | (simp only [List.length_drop, List.length_take]; rfl)) ?_; (with_reducible refine (spinetref01_Asr.calls k t119 t120 t126 _ A16.out).mono ?_); rintro e w' ⟨rfl, ⟨nd, rfl⟩⟩; refine ⟨_, rfl, ?_⟩) | ((with_reducible refine gate_callee (f := 39) rfl ?_); refine goesL_ (some 41) rfl rfl Try.func39 (by kernel_rfl) rfl #[.int .u32 t126] rfl (by (try simp only [List.map_toArray, List.map_cons, List.map_nil]); first | done | rfl | (simp only [List.length_drop, List.length_take]; rfl)) ?_; (with_reducible refine (spinetref01_Signed.calls t126 t127 _ A17.out).mono ?_); rintro e w' ⟨rfl, ⟨nd, rfl⟩⟩; refine ⟨_, rfl, ?_⟩))
          go_ret2
          exact ⟨by first | rfl | (simp; done) | (simp [*]; done), by repeat (first | exact Drawn0.refl _ | apply Drawn0.step)⟩
        · rw [if_neg c15] at H
          have c15b0 : (a0.toList == ([65, 83, 82] : List UInt8)) = false := beq_eq_false_iff_ne.mpr c15
          have c15b1 : (a0.toList != ([65, 83, 82] : List UInt8)) = true := bne_iff_ne.mpr c15
          by_cases c18 : a0.toList = ([82, 79, 82] : List UInt8)
          · rw [if_pos c18] at H
            have c18b0 : (a0.toList == ([82, 79, 82] : List UInt8)) = true := beq_iff_eq.mpr c18
            have c18b1 : (a0.toList != ([82, 79, 82] : List UInt8)) = false := bne_eq_false_iff_eq.mpr c18
            clear c18
            replace H := Option.bind_eq_some_iff.mp H
            obtain ⟨t128, A190, H⟩ := H
            replace H : ((spinetref01_Signed.f t128).bind fun t129 => (some (t129, true))) = some (r1, r2) := H
            have A19 := Aside0.mk A190
            clear A190
            replace H := Option.bind_eq_some_iff.mp H
            obtain ⟨t129, A200, H⟩ := H
            replace H : (some (t129, true)) = some (r1, r2) := H
            have A20 := Aside0.mk A200
            clear A200
            simp only [Option.some.injEq, Prod.mk.injEq] at H
            obtain ⟨rfl, rfl⟩ := H
            go_enter Try.func23, Try.ntmps23
            go_wp2_with (first | ((with_reducible refine gate_callee (f := 38) rfl ?_); refine goesL_ (some 11) rfl rfl Try.func38 (by kernel_rfl) rfl #[.int .i64 a1] rfl (by (try simp only [List.map_toArray, List.map_cons, List.map_nil]); first | done | rfl | (simp only [List.length_drop, List.length_take]; rfl)) ?_; (with_reducible refine (spinetref01_Word.calls a1 t119 _ A4.out).mono ?_); rintro e w' ⟨rfl, ⟨nd, rfl⟩⟩; refine ⟨_, rfl, ?_⟩) | ((with_reducible refine gate_callee (f := 38) rfl ?_); refine goesL_ (some 13) rfl rfl Try.func38 (by kernel_rfl) rfl #[.int .i64 a2] rfl (by (try simp only [List.map_toArray, List.map_cons, List.map_nil]); first | done | rfl | (simp only [List.length_drop, List.length_take]; rfl)) ?_; (with_reducible refine (spinetref01_Word.calls a2 t120 _ A5.out).mono ?_); rintro e w' ⟨rfl, ⟨nd, rfl⟩⟩; refine ⟨_, rfl, ?_⟩) | ((with_reducible refine gate_callee (f := 52) rfl ?_); refine goesL_ (some 46) rfl rfl Try.func52 (by kernel_rfl) rfl #[.int .u32 t119, .int .u32 t120] rfl (by (try simp only [List.map_toArray, List.map_cons, List.map_nil]); first | done | rfl | (simp only [List.length_drop, List.length_take]; rfl)) ?_; (with_reducible refine (spinetref01_Ror.calls k t119 t120 t128 _ A19.out).mono ?_); rintro e w' ⟨rfl, ⟨nd, rfl⟩⟩; refine ⟨_, rfl, ?_⟩) | ((with_reducible refine gate_callee (f := 39) rfl ?_); refine goesL_ (some 47) rfl rfl Try.func39 (by kernel_rfl) rfl #[.int .u32 t128] rfl (by (try simp only [List.map_toArray, List.map_cons, List.map_nil]); first | done | rfl | (simp only [List.length_drop, List.length_take]; rfl)) ?_; (with_reducible refine (spinetref01_Signed.calls t128 t129 _ A20.out).mono ?_); rintro e w' ⟨rfl, ⟨nd, rfl⟩⟩; refine ⟨_, rfl, ?_⟩))
            go_ret2
            exact ⟨by first | rfl | (simp; done) | (simp [*]; done), by repeat (first | exact Drawn0.refl _ | apply Drawn0.step)⟩
          · rw [if_neg c18] at H
            have c18b0 : (a0.toList == ([82, 79, 82] : List UInt8)) = false := beq_eq_false_iff_ne.mpr c18
            have c18b1 : (a0.toList != ([82, 79, 82] : List UInt8)) = true := bne_iff_ne.mpr c18
            by_cases c21 : a0.toList = ([67, 72, 82] : List UInt8)
            · rw [if_pos c21] at H
              have c21b0 : (a0.toList == ([67, 72, 82] : List UInt8)) = true := beq_iff_eq.mpr c21
              have c21b1 : (a0.toList != ([67, 72, 82] : List UInt8)) = false := bne_eq_false_iff_eq.mpr c21
              clear c21
              simp only [Option.some.injEq, Prod.mk.injEq] at H
              obtain ⟨rfl, rfl⟩ := H
              go_enter Try.func23, Try.ntmps23
              go_wp2_with (first | ((with_reducible refine gate_callee (f := 38) rfl ?_); refine goesL_ (some 11) rfl rfl Try.func38 (by kernel_rfl) rfl #[.int .i64 a1] rfl (by (try simp only [List.map_toArray, List.map_cons, List.map_nil]); first | done | rfl | (simp only [List.length_drop, List.length_take]; rfl)) ?_; (with_reducible refine (spinetref01_Word.calls a1 t119 _ A4.out).mono ?_); rintro e w' ⟨rfl, ⟨nd, rfl⟩⟩; refine ⟨_, rfl, ?_⟩) | ((with_reducible refine gate_callee (f := 38) rfl ?_); refine goesL_ (some 13) rfl rfl Try.func38 (by kernel_rfl) rfl #[.int .i64 a2] rfl (by (try simp only [List.map_toArray, List.map_cons, List.map_nil]); first | done | rfl | (simp only [List.length_drop, List.length_take]; rfl)) ?_; (with_reducible refine (spinetref01_Word.calls a2 t120 _ A5.out).mono ?_); rintro e w' ⟨rfl, ⟨nd, rfl⟩⟩; refine ⟨_, rfl, ?_⟩))
              go_ret2
              exact ⟨by first | rfl | (simp; done) | (simp [*]; done), by repeat (first | exact Drawn0.refl _ | apply Drawn0.step)⟩
            · rw [if_neg c21] at H
              have c21b0 : (a0.toList == ([67, 72, 82] : List UInt8)) = false := beq_eq_false_iff_ne.mpr c21
              have c21b1 : (a0.toList != ([67, 72, 82] : List UInt8)) = true := bne_iff_ne.mpr c21
              by_cases c22 : a0.toList = ([79, 82, 68] : List UInt8)
              · rw [if_pos c22] at H
                have c22b0 : (a0.toList == ([79, 82, 68] : List UInt8)) = true := beq_iff_eq.mpr c22
                have c22b1 : (a0.toList != ([79, 82, 68] : List UInt8)) = false := bne_eq_false_iff_eq.mpr c22
                clear c22
                replace H := Option.bind_eq_some_iff.mp H
                obtain ⟨t130, A230, H⟩ := H
                replace H : (some (t130, true)) = some (r1, r2) := H
                have A23 := Aside0.mk A230
                clear A230
                simp only [Option.some.injEq, Prod.mk.injEq] at H
                obtain ⟨rfl, rfl⟩ := H
                go_enter Try.func23, Try.ntmps23
                go_wp2_with (first | ((with_reducible refine gate_callee (f := 38) rfl ?_); refine goesL_ (some 11) rfl rfl Try.func38 (by kernel_rfl) rfl #[.int .i64 a1] rfl (by (try simp only [List.map_toArray, List.map_cons, List.map_nil]); first | done | rfl | (simp only [List.length_drop, List.length_take]; rfl)) ?_; (with_reducible refine (spinetref01_Word.calls a1 t119 _ A4.out).mono ?_); rintro e w' ⟨rfl, ⟨nd, rfl⟩⟩; refine ⟨_, rfl, ?_⟩) | ((with_reducible refine gate_callee (f := 38) rfl ?_); refine goesL_ (some 13) rfl rfl Try.func38 (by kernel_rfl) rfl #[.int .i64 a2] rfl (by (try simp only [List.map_toArray, List.map_cons, List.map_nil]); first | done | rfl | (simp only [List.length_drop, List.length_take]; rfl)) ?_; (with_reducible refine (spinetref01_Word.calls a2 t120 _ A5.out).mono ?_); rintro e w' ⟨rfl, ⟨nd, rfl⟩⟩; refine ⟨_, rfl, ?_⟩) | ((with_reducible refine gate_callee (f := 39) rfl ?_); refine goesL_ (some 56) rfl rfl Try.func39 (by kernel_rfl) rfl #[.int .u32 t119] rfl (by (try simp only [List.map_toArray, List.map_cons, List.map_nil]); first | done | rfl | (simp only [List.length_drop, List.length_take]; rfl)) ?_; (with_reducible refine (spinetref01_Signed.calls t119 t130 _ A23.out).mono ?_); rintro e w' ⟨rfl, ⟨nd, rfl⟩⟩; refine ⟨_, rfl, ?_⟩))
                go_ret2
                exact ⟨by first | rfl | (simp; done) | (simp [*]; done), by repeat (first | exact Drawn0.refl _ | apply Drawn0.step)⟩
              · rw [if_neg c22] at H
                have c22b0 : (a0.toList == ([79, 82, 68] : List UInt8)) = false := beq_eq_false_iff_ne.mpr c22
                have c22b1 : (a0.toList != ([79, 82, 68] : List UInt8)) = true := bne_iff_ne.mpr c22
                simp only [Option.some.injEq, Prod.mk.injEq] at H
                obtain ⟨rfl, rfl⟩ := H
                go_enter Try.func23, Try.ntmps23
                go_wp2_with (first | ((with_reducible refine gate_callee (f := 38) rfl ?_); refine goesL_ (some 11) rfl rfl Try.func38 (by kernel_rfl) rfl #[.int .i64 a1] rfl (by (try simp only [List.map_toArray, List.map_cons, List.map_nil]); first | done | rfl | (simp only [List.length_drop, List.length_take]; rfl)) ?_; (with_reducible refine (spinetref01_Word.calls a1 t119 _ A4.out).mono ?_); rintro e w' ⟨rfl, ⟨nd, rfl⟩⟩; refine ⟨_, rfl, ?_⟩) | ((with_reducible refine gate_callee (f := 38) rfl ?_); refine goesL_ (some 13) rfl rfl Try.func38 (by kernel_rfl) rfl #[.int .i64 a2] rfl (by (try simp only [List.map_toArray, List.map_cons, List.map_nil]); first | done | rfl | (simp only [List.length_drop, List.length_take]; rfl)) ?_; (with_reducible refine (spinetref01_Word.calls a2 t120 _ A5.out).mono ?_); rintro e w' ⟨rfl, ⟨nd, rfl⟩⟩; refine ⟨_, rfl, ?_⟩))
                go_ret2
                exact ⟨by first | rfl | (simp; done) | (simp [*]; done), by repeat (first | exact Drawn0.refl _ | apply Drawn0.step)⟩

-- NOT PRINTED: function 7 (spinetlaw20_ArithCalls)


end Go.Proofs.Ytkkgocbecnefnaa.PArithConsts
