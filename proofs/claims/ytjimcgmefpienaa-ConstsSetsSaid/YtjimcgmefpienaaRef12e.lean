/- The document's Put. -/
import Derived.Test.YtjimcgmefpienaaRef12a
namespace Go.Proofs.Ytjimcgmefpienaa.PConstsCalls
open Go.RowKit Go.Proofs.YtjimcgmefpienaaW.PrintWords Go.Proofs.YtjimcgmefpienaaW.PrintLast Go.Proofs.YtjimcgmefpienaaW.PrintMore
attribute [local go_sem] max2_int min2_int max_two min_two max_three min_three max_four min_four
set_option linter.unusedVariables false
set_option linter.unusedSimpArgs false

/-! ### spinetref01_Put: function 43 -/
def spinetref01_Put.f (k : Nat) (a0 : Int) (a1 : Int) (a2 : Int) (a3 : Int) : Option (Int) := (spinetref01_may.f a1 a2).bind fun t131 => (if t131 = true then ((spinetref01_Get.f k a0 a1 a2).bind fun t132 => ((spinetref01_pow.f k ((a1) % 4294967296)).bind fun t133 => ((spinetref01_pow.f k ((a2) % 4294967296)).bind fun t134 => (if t134 = 0 then (none) else ((spinetref01_pow.f k ((a1) % 4294967296)).bind fun t135 => (some ((IntKind.u64.wrap ((IntKind.u64.wrap ((IntKind.u64.wrap (a0)) - (IntKind.u64.wrap ((IntKind.u64.wrap (t132)) * t133)))) + (IntKind.u64.wrap ((Int.tmod (IntKind.u64.wrap (a3)) t134) * t135)))) % 4294967296))))))) else (some a0))
theorem spinetref01_Put.mono : ∀ a0 a1 a2 a3 k, LeO (spinetref01_Put.f k a0 a1 a2 a3) (spinetref01_Put.f (k + 1) a0 a1 a2 a3) := by
  intro a0 a1 a2 a3 k
  unfold spinetref01_Put.f
  repeat' first
      | (with_reducible exact spinetref01_Get.mono _ _ _ _)
      | (with_reducible exact spinetref01_pow.mono _ _)
      | (with_reducible exact LeO.refl _)
      | (with_reducible exact LeO.none _)
      | (with_reducible refine LeO.ite ?_ ?_)
      | (with_reducible refine LeO.bind ?_ (fun _ => ?_))
      | exact spinetref01_Get.mono _ _ _ _
      | exact spinetref01_pow.mono _ _
      | exact LeO.none _
      | refine LeO.ite ?_ ?_
      | refine LeO.bind ?_ (fun _ => ?_)
set_option maxHeartbeats 8000000 in
set_option maxRecDepth 100000 in
theorem spinetref01_Put.calls (k : Nat) (a0 : Int) (a1 : Int) (a2 : Int) (a3 : Int) (r : Int) (w : World) (h : spinetref01_Put.f k a0 a1 a2 a3 = some r) :
    Calls Try.prog 43 #[.int .u32 a0, .int .i64 a1, .int .i64 a2, .int .u32 a3] w fun e w' => e = .returned (.int .u32 r) ∧ Drawn0 w w' := by
  have H : ((spinetref01_may.f a1 a2).bind fun t131 => (if t131 = true then ((spinetref01_Get.f k a0 a1 a2).bind fun t132 => ((spinetref01_pow.f k ((a1) % 4294967296)).bind fun t133 => ((spinetref01_pow.f k ((a2) % 4294967296)).bind fun t134 => (if t134 = 0 then (none) else ((spinetref01_pow.f k ((a1) % 4294967296)).bind fun t135 => (some ((IntKind.u64.wrap ((IntKind.u64.wrap ((IntKind.u64.wrap (a0)) - (IntKind.u64.wrap ((IntKind.u64.wrap (t132)) * t133)))) + (IntKind.u64.wrap ((Int.tmod (IntKind.u64.wrap (a3)) t134) * t135)))) % 4294967296))))))) else (some a0))) = some r := h
  clear h
  replace H := Option.bind_eq_some_iff.mp H
  obtain ⟨t131, A50, H⟩ := H
  replace H : (if t131 = true then ((spinetref01_Get.f k a0 a1 a2).bind fun t132 => ((spinetref01_pow.f k ((a1) % 4294967296)).bind fun t133 => ((spinetref01_pow.f k ((a2) % 4294967296)).bind fun t134 => (if t134 = 0 then (none) else ((spinetref01_pow.f k ((a1) % 4294967296)).bind fun t135 => (some ((IntKind.u64.wrap ((IntKind.u64.wrap ((IntKind.u64.wrap (a0)) - (IntKind.u64.wrap ((IntKind.u64.wrap (t132)) * t133)))) + (IntKind.u64.wrap ((Int.tmod (IntKind.u64.wrap (a3)) t134) * t135)))) % 4294967296))))))) else (some a0)) = some r := H
  have A5 := Aside0.mk A50
  clear A50
  by_cases c6 : t131 = true
  · subst c6
    have H1 : ((spinetref01_Get.f k a0 a1 a2).bind fun t132 => ((spinetref01_pow.f k ((a1) % 4294967296)).bind fun t133 => ((spinetref01_pow.f k ((a2) % 4294967296)).bind fun t134 => (if t134 = 0 then (none) else ((spinetref01_pow.f k ((a1) % 4294967296)).bind fun t135 => (some ((IntKind.u64.wrap ((IntKind.u64.wrap ((IntKind.u64.wrap (a0)) - (IntKind.u64.wrap ((IntKind.u64.wrap (t132)) * t133)))) + (IntKind.u64.wrap ((Int.tmod (IntKind.u64.wrap (a3)) t134) * t135)))) % 4294967296))))))) = some r := by rw [if_pos rfl] at H; exact H
    clear H
    have H := H1
    clear H1
    replace H := Option.bind_eq_some_iff.mp H
    obtain ⟨t132, A70, H⟩ := H
    replace H : ((spinetref01_pow.f k ((a1) % 4294967296)).bind fun t133 => ((spinetref01_pow.f k ((a2) % 4294967296)).bind fun t134 => (if t134 = 0 then (none) else ((spinetref01_pow.f k ((a1) % 4294967296)).bind fun t135 => (some ((IntKind.u64.wrap ((IntKind.u64.wrap ((IntKind.u64.wrap (a0)) - (IntKind.u64.wrap ((IntKind.u64.wrap (t132)) * t133)))) + (IntKind.u64.wrap ((Int.tmod (IntKind.u64.wrap (a3)) t134) * t135)))) % 4294967296)))))) = some r := H
    have A7 := Aside0.mk A70
    clear A70
    replace H := Option.bind_eq_some_iff.mp H
    obtain ⟨t133, A80, H⟩ := H
    replace H : ((spinetref01_pow.f k ((a2) % 4294967296)).bind fun t134 => (if t134 = 0 then (none) else ((spinetref01_pow.f k ((a1) % 4294967296)).bind fun t135 => (some ((IntKind.u64.wrap ((IntKind.u64.wrap ((IntKind.u64.wrap (a0)) - (IntKind.u64.wrap ((IntKind.u64.wrap (t132)) * t133)))) + (IntKind.u64.wrap ((Int.tmod (IntKind.u64.wrap (a3)) t134) * t135)))) % 4294967296))))) = some r := H
    have A8 := Aside0.mk A80
    clear A80
    replace H := Option.bind_eq_some_iff.mp H
    obtain ⟨t134, A90, H⟩ := H
    replace H : (if t134 = 0 then (none) else ((spinetref01_pow.f k ((a1) % 4294967296)).bind fun t135 => (some ((IntKind.u64.wrap ((IntKind.u64.wrap ((IntKind.u64.wrap (a0)) - (IntKind.u64.wrap ((IntKind.u64.wrap (t132)) * t133)))) + (IntKind.u64.wrap ((Int.tmod (IntKind.u64.wrap (a3)) t134) * t135)))) % 4294967296)))) = some r := H
    have A9 := Aside0.mk A90
    clear A90
    by_cases c10 : t134 = 0
    · rw [if_pos c10] at H
      exact absurd H (by simp)
    · rw [if_neg c10] at H
      have c10b0 : (t134 == 0) = false := beq_eq_false_iff_ne.mpr c10
      have c10b1 : (t134 != 0) = true := bne_iff_ne.mpr c10
      replace H := Option.bind_eq_some_iff.mp H
      obtain ⟨t135, A110, H⟩ := H
      replace H : (some ((IntKind.u64.wrap ((IntKind.u64.wrap ((IntKind.u64.wrap (a0)) - (IntKind.u64.wrap ((IntKind.u64.wrap (t132)) * t133)))) + (IntKind.u64.wrap ((Int.tmod (IntKind.u64.wrap (a3)) t134) * t135)))) % 4294967296)) = some r := H
      have A11 := Aside0.mk A110
      obtain rfl : t133 = t135 := Option.some.inj (A8.out.symm.trans A110)
      clear A110
      obtain rfl := Option.some.inj H
      go_enter Try.func43, Try.ntmps43
      go_wp2_with (first | (go_at_call 80; (with_reducible refine (spinetref01_may.calls a1 a2 true _ A5.out).mono ?_); rintro e w' ⟨rfl, ⟨nd, rfl⟩⟩; (try first | exact ⟨rfl, _, World.drewN_drewN _ _ _⟩ | exact ⟨rfl, _, Eq.trans (World.drewN_drewN _ _ _) (congrArg (World.drewN _) (Nat.add_assoc _ _ _))⟩)) | (go_at_call 36; (with_reducible refine (spinetref01_Get.calls k a0 a1 a2 t132 _ A7.out).mono ?_); rintro e w' ⟨rfl, ⟨nd, rfl⟩⟩; (try first | exact ⟨rfl, _, World.drewN_drewN _ _ _⟩ | exact ⟨rfl, _, Eq.trans (World.drewN_drewN _ _ _) (congrArg (World.drewN _) (Nat.add_assoc _ _ _))⟩)) | (go_at_call 81; (with_reducible refine (spinetref01_pow.calls k ((a1) % 4294967296) t133 _ A8.out).mono ?_); rintro e w' ⟨rfl, ⟨nd, rfl⟩⟩; (try first | exact ⟨rfl, _, World.drewN_drewN _ _ _⟩ | exact ⟨rfl, _, Eq.trans (World.drewN_drewN _ _ _) (congrArg (World.drewN _) (Nat.add_assoc _ _ _))⟩)) | (go_at_call 81; (with_reducible refine (spinetref01_pow.calls k ((a2) % 4294967296) t134 _ A9.out).mono ?_); rintro e w' ⟨rfl, ⟨nd, rfl⟩⟩; (try first | exact ⟨rfl, _, World.drewN_drewN _ _ _⟩ | exact ⟨rfl, _, Eq.trans (World.drewN_drewN _ _ _) (congrArg (World.drewN _) (Nat.add_assoc _ _ _))⟩)) | (go_at_call 81; (with_reducible refine (spinetref01_pow.calls k ((a1) % 4294967296) t135 _ A11.out).mono ?_); rintro e w' ⟨rfl, ⟨nd, rfl⟩⟩; (try first | exact ⟨rfl, _, World.drewN_drewN _ _ _⟩ | exact ⟨rfl, _, Eq.trans (World.drewN_drewN _ _ _) (congrArg (World.drewN _) (Nat.add_assoc _ _ _))⟩)))
      repeat (go_quiet (first | (go_at_call 80; (with_reducible refine (spinetref01_may.calls a1 a2 true _ A5.out).mono ?_); rintro e w' ⟨rfl, ⟨nd, rfl⟩⟩; (try first | exact ⟨rfl, _, World.drewN_drewN _ _ _⟩ | exact ⟨rfl, _, Eq.trans (World.drewN_drewN _ _ _) (congrArg (World.drewN _) (Nat.add_assoc _ _ _))⟩)) | (go_at_call 36; (with_reducible refine (spinetref01_Get.calls k a0 a1 a2 t132 _ A7.out).mono ?_); rintro e w' ⟨rfl, ⟨nd, rfl⟩⟩; (try first | exact ⟨rfl, _, World.drewN_drewN _ _ _⟩ | exact ⟨rfl, _, Eq.trans (World.drewN_drewN _ _ _) (congrArg (World.drewN _) (Nat.add_assoc _ _ _))⟩)) | (go_at_call 81; (with_reducible refine (spinetref01_pow.calls k ((a1) % 4294967296) t133 _ A8.out).mono ?_); rintro e w' ⟨rfl, ⟨nd, rfl⟩⟩; (try first | exact ⟨rfl, _, World.drewN_drewN _ _ _⟩ | exact ⟨rfl, _, Eq.trans (World.drewN_drewN _ _ _) (congrArg (World.drewN _) (Nat.add_assoc _ _ _))⟩)) | (go_at_call 81; (with_reducible refine (spinetref01_pow.calls k ((a2) % 4294967296) t134 _ A9.out).mono ?_); rintro e w' ⟨rfl, ⟨nd, rfl⟩⟩; (try first | exact ⟨rfl, _, World.drewN_drewN _ _ _⟩ | exact ⟨rfl, _, Eq.trans (World.drewN_drewN _ _ _) (congrArg (World.drewN _) (Nat.add_assoc _ _ _))⟩)) | (go_at_call 81; (with_reducible refine (spinetref01_pow.calls k ((a1) % 4294967296) t135 _ A11.out).mono ?_); rintro e w' ⟨rfl, ⟨nd, rfl⟩⟩; (try first | exact ⟨rfl, _, World.drewN_drewN _ _ _⟩ | exact ⟨rfl, _, Eq.trans (World.drewN_drewN _ _ _) (congrArg (World.drewN _) (Nat.add_assoc _ _ _))⟩))); try go_wp2_with (first | (go_at_call 80; (with_reducible refine (spinetref01_may.calls a1 a2 true _ A5.out).mono ?_); rintro e w' ⟨rfl, ⟨nd, rfl⟩⟩; (try first | exact ⟨rfl, _, World.drewN_drewN _ _ _⟩ | exact ⟨rfl, _, Eq.trans (World.drewN_drewN _ _ _) (congrArg (World.drewN _) (Nat.add_assoc _ _ _))⟩)) | (go_at_call 36; (with_reducible refine (spinetref01_Get.calls k a0 a1 a2 t132 _ A7.out).mono ?_); rintro e w' ⟨rfl, ⟨nd, rfl⟩⟩; (try first | exact ⟨rfl, _, World.drewN_drewN _ _ _⟩ | exact ⟨rfl, _, Eq.trans (World.drewN_drewN _ _ _) (congrArg (World.drewN _) (Nat.add_assoc _ _ _))⟩)) | (go_at_call 81; (with_reducible refine (spinetref01_pow.calls k ((a1) % 4294967296) t133 _ A8.out).mono ?_); rintro e w' ⟨rfl, ⟨nd, rfl⟩⟩; (try first | exact ⟨rfl, _, World.drewN_drewN _ _ _⟩ | exact ⟨rfl, _, Eq.trans (World.drewN_drewN _ _ _) (congrArg (World.drewN _) (Nat.add_assoc _ _ _))⟩)) | (go_at_call 81; (with_reducible refine (spinetref01_pow.calls k ((a2) % 4294967296) t134 _ A9.out).mono ?_); rintro e w' ⟨rfl, ⟨nd, rfl⟩⟩; (try first | exact ⟨rfl, _, World.drewN_drewN _ _ _⟩ | exact ⟨rfl, _, Eq.trans (World.drewN_drewN _ _ _) (congrArg (World.drewN _) (Nat.add_assoc _ _ _))⟩)) | (go_at_call 81; (with_reducible refine (spinetref01_pow.calls k ((a1) % 4294967296) t135 _ A11.out).mono ?_); rintro e w' ⟨rfl, ⟨nd, rfl⟩⟩; (try first | exact ⟨rfl, _, World.drewN_drewN _ _ _⟩ | exact ⟨rfl, _, Eq.trans (World.drewN_drewN _ _ _) (congrArg (World.drewN _) (Nat.add_assoc _ _ _))⟩))))
      go_ret
      exact ⟨by first | rfl | (simp; done) | (simp [*]; done), by repeat (first | exact Drawn0.refl _ | apply Drawn0.step)⟩
  · replace c6 := Bool.eq_false_iff.mpr c6
    subst c6
    have H1 : (some a0) = some r := by rw [if_neg (show ¬ (false = true) by decide)] at H; exact H
    clear H
    have H := H1
    clear H1
    obtain rfl := Option.some.inj H
    go_enter Try.func43, Try.ntmps43
    go_wp2_with (first | (go_at_call 80; (with_reducible refine (spinetref01_may.calls a1 a2 false _ A5.out).mono ?_); rintro e w' ⟨rfl, ⟨nd, rfl⟩⟩; (try first | exact ⟨rfl, _, World.drewN_drewN _ _ _⟩ | exact ⟨rfl, _, Eq.trans (World.drewN_drewN _ _ _) (congrArg (World.drewN _) (Nat.add_assoc _ _ _))⟩)))
    repeat (go_quiet (first | (go_at_call 80; (with_reducible refine (spinetref01_may.calls a1 a2 false _ A5.out).mono ?_); rintro e w' ⟨rfl, ⟨nd, rfl⟩⟩; (try first | exact ⟨rfl, _, World.drewN_drewN _ _ _⟩ | exact ⟨rfl, _, Eq.trans (World.drewN_drewN _ _ _) (congrArg (World.drewN _) (Nat.add_assoc _ _ _))⟩))); try go_wp2_with (first | (go_at_call 80; (with_reducible refine (spinetref01_may.calls a1 a2 false _ A5.out).mono ?_); rintro e w' ⟨rfl, ⟨nd, rfl⟩⟩; (try first | exact ⟨rfl, _, World.drewN_drewN _ _ _⟩ | exact ⟨rfl, _, Eq.trans (World.drewN_drewN _ _ _) (congrArg (World.drewN _) (Nat.add_assoc _ _ _))⟩))))
    go_ret
    exact ⟨by first | rfl | (simp; done) | (simp [*]; done), by repeat (first | exact Drawn0.refl _ | apply Drawn0.step)⟩

-- NOT PRINTED: function 16 (spinetref12_Set)

-- NOT PRINTED: function 4 (spinetlaw12_ConstsSets)


end Go.Proofs.Ytjimcgmefpienaa.PConstsCalls
