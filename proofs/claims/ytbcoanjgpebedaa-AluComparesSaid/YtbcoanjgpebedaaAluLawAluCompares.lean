/- The law AluCompares, walked. -/
import Derived.Test.YtbcoanjgpebedaaAluHold
namespace Go.Proofs.Ytbcoanjgpebedaa.PAluDoes
open Go.RowKit Go.Proofs.YtbcoanjgpebedaaW.PrintWords Go.Proofs.YtbcoanjgpebedaaW.PrintLast Go.Proofs.YtbcoanjgpebedaaW.PrintMore
attribute [local go_sem] max2_int min2_int max_two min_two max_three min_three max_four min_four
set_option linter.unusedVariables false
set_option linter.unusedSimpArgs false

/-! ### spinetlaw03_AluCompares: function 5 -/
def spinetlaw03_AluCompares.f (k : Nat) (a0_0 : Int) (a0_1 : Bool) (a0_2 : Int) (a0_3 : Int) (a0_4 : Int) (a0_5 : Bool) (a0_6 : Bool) (a0_7 : Bool) (a0_8 : Bool) : Option (Bool) := (alu_Do.f k 9 false a0_2 a0_3 a0_4 a0_5 a0_6 a0_7 a0_8).bind fun bt133 => (if bt133.2.2.2.2.2.2 = true then ((alu_Holds.f k 5 bt133.2.2.1 bt133.2.2.2.1 bt133.2.2.2.2.1 bt133.2.2.2.2.2.1).bind fun t141 => (if (t141 == (decide ((wrap32 (a0_2)) < (wrap32 (a0_3))))) = true then ((alu_Holds.f k 2 bt133.2.2.1 bt133.2.2.2.1 bt133.2.2.2.2.1 bt133.2.2.2.2.2.1).bind fun t142 => (if (t142 == (decide (a0_2 < a0_3))) = true then ((alu_Holds.f k 1 bt133.2.2.1 bt133.2.2.2.1 bt133.2.2.2.2.1 bt133.2.2.2.2.2.1).bind fun t143 => (if (t143 == (a0_2 == a0_3)) = true then ((alu_Holds.f k 6 bt133.2.2.1 bt133.2.2.2.1 bt133.2.2.2.2.1 bt133.2.2.2.2.2.1).bind fun t144 => (if (t144 == (decide ((wrap32 (a0_2)) ≤ (wrap32 (a0_3))))) = true then ((alu_Holds.f k 4 bt133.2.2.1 bt133.2.2.2.1 bt133.2.2.2.2.1 bt133.2.2.2.2.2.1).bind fun t145 => (if (t145 == (decide (a0_2 ≤ a0_3))) = true then ((alu_Holds.f k 14 bt133.2.2.1 bt133.2.2.2.1 bt133.2.2.2.2.1 bt133.2.2.2.2.2.1).bind fun t146 => (if (t146 == (decide ((wrap32 (a0_2)) > (wrap32 (a0_3))))) = true then ((spinetlaw03_wakes.f k).bind fun t147 => (some t147)) else (some false))) else (some false))) else (some false))) else (some false))) else (some false))) else (some false))) else (some false))
theorem spinetlaw03_AluCompares.mono : ∀ a0 a1 a2 a3 a4 a5 a6 a7 a8 k, LeO (spinetlaw03_AluCompares.f k a0 a1 a2 a3 a4 a5 a6 a7 a8) (spinetlaw03_AluCompares.f (k + 1) a0 a1 a2 a3 a4 a5 a6 a7 a8) := by
  intro a0 a1 a2 a3 a4 a5 a6 a7 a8 k
  unfold spinetlaw03_AluCompares.f
  repeat' first
      | (with_reducible exact alu_Do.mono _ _ _ _ _ _ _ _ _ _)
      | (with_reducible exact alu_Holds.mono _ _ _ _ _ _)
      | (with_reducible exact spinetlaw03_wakes.mono _)
      | (with_reducible exact LeO.refl _)
      | (with_reducible exact LeO.none _)
      | (with_reducible refine LeO.ite ?_ ?_)
      | (with_reducible refine LeO.bind ?_ (fun _ => ?_))
      | exact alu_Do.mono _ _ _ _ _ _ _ _ _ _
      | exact alu_Holds.mono _ _ _ _ _ _
      | exact spinetlaw03_wakes.mono _
      | exact LeO.none _
      | refine LeO.ite ?_ ?_
      | refine LeO.bind ?_ (fun _ => ?_)
def spinetlaw03_AluCompares.T1 : Bool × List (List Nat × List Nat) := (true, [([], []), ([0], [0]), ([], []), ([2], [2]), ([], []), ([4], [4]), ([], []), ([6], [6]), ([], []), ([1, 0, 1, 8], [1]), ([3, 9, 0, 1, 2, 3, 8, 9], [3]), ([5, 10, 0, 1, 2, 3, 4, 5, 8, 9, 10], [5]), ([8, 7, 11, 0, 1, 2, 3, 4, 5, 6, 7, 8, 9, 10, 11], [7, 8])])
def spinetlaw03_AluCompares.B1 : List Nat := [0, 1, 0, 4, 0, 16, 0, 64, 0, 259, 783, 1855, 4095]
theorem spinetlaw03_AluCompares.tab1 : rtab .any (opsOf Try.f5 1) = spinetlaw03_AluCompares.T1 := by kernel_rfl
theorem spinetlaw03_AluCompares.bits1 : waitsOk spinetlaw03_AluCompares.T1.2 spinetlaw03_AluCompares.B1 = true := by kernel_rfl
set_option maxHeartbeats 8000000 in
set_option maxRecDepth 100000 in
theorem spinetlaw03_AluCompares.calls (k : Nat) (a0_0 : Int) (a0_1 : Bool) (a0_2 : Int) (a0_3 : Int) (a0_4 : Int) (a0_5 : Bool) (a0_6 : Bool) (a0_7 : Bool) (a0_8 : Bool) (r : Bool) (w : World) (h : spinetlaw03_AluCompares.f k a0_0 a0_1 a0_2 a0_3 a0_4 a0_5 a0_6 a0_7 a0_8 = some r) :
    Calls Try.prog 5 #[.agg #[.int .i64 a0_0, .bool a0_1, .int .u32 a0_2, .int .u32 a0_3, .int .u32 a0_4, .bool a0_5, .bool a0_6, .bool a0_7, .bool a0_8]] w fun e w' => e = .returned (.bool r) ∧ Below w.heap.size w w' := by
  have hu26 := Try.underlying26
  have hu24 := Try.underlying24
  have HB := Aside0.mk (Below.refl w.heap.size w)
  have H : ((alu_Do.f k 9 false a0_2 a0_3 a0_4 a0_5 a0_6 a0_7 a0_8).bind fun bt133 => (if bt133.2.2.2.2.2.2 = true then ((alu_Holds.f k 5 bt133.2.2.1 bt133.2.2.2.1 bt133.2.2.2.2.1 bt133.2.2.2.2.2.1).bind fun t141 => (if (t141 == (decide ((wrap32 (a0_2)) < (wrap32 (a0_3))))) = true then ((alu_Holds.f k 2 bt133.2.2.1 bt133.2.2.2.1 bt133.2.2.2.2.1 bt133.2.2.2.2.2.1).bind fun t142 => (if (t142 == (decide (a0_2 < a0_3))) = true then ((alu_Holds.f k 1 bt133.2.2.1 bt133.2.2.2.1 bt133.2.2.2.2.1 bt133.2.2.2.2.2.1).bind fun t143 => (if (t143 == (a0_2 == a0_3)) = true then ((alu_Holds.f k 6 bt133.2.2.1 bt133.2.2.2.1 bt133.2.2.2.2.1 bt133.2.2.2.2.2.1).bind fun t144 => (if (t144 == (decide ((wrap32 (a0_2)) ≤ (wrap32 (a0_3))))) = true then ((alu_Holds.f k 4 bt133.2.2.1 bt133.2.2.2.1 bt133.2.2.2.2.1 bt133.2.2.2.2.2.1).bind fun t145 => (if (t145 == (decide (a0_2 ≤ a0_3))) = true then ((alu_Holds.f k 14 bt133.2.2.1 bt133.2.2.2.1 bt133.2.2.2.2.1 bt133.2.2.2.2.2.1).bind fun t146 => (if (t146 == (decide ((wrap32 (a0_2)) > (wrap32 (a0_3))))) = true then ((spinetlaw03_wakes.f k).bind fun t147 => (some t147)) else (some false))) else (some false))) else (some false))) else (some false))) else (some false))) else (some false))) else (some false))) = some r := h
  clear h
  replace H := Option.bind_eq_some_iff.mp H
  obtain ⟨⟨t133, t134, t135, t136, t137, t138, t139⟩, A20, H⟩ := H
  replace H : (if t139 = true then ((alu_Holds.f k 5 t135 t136 t137 t138).bind fun t141 => (if (t141 == (decide ((wrap32 (a0_2)) < (wrap32 (a0_3))))) = true then ((alu_Holds.f k 2 t135 t136 t137 t138).bind fun t142 => (if (t142 == (decide (a0_2 < a0_3))) = true then ((alu_Holds.f k 1 t135 t136 t137 t138).bind fun t143 => (if (t143 == (a0_2 == a0_3)) = true then ((alu_Holds.f k 6 t135 t136 t137 t138).bind fun t144 => (if (t144 == (decide ((wrap32 (a0_2)) ≤ (wrap32 (a0_3))))) = true then ((alu_Holds.f k 4 t135 t136 t137 t138).bind fun t145 => (if (t145 == (decide (a0_2 ≤ a0_3))) = true then ((alu_Holds.f k 14 t135 t136 t137 t138).bind fun t146 => (if (t146 == (decide ((wrap32 (a0_2)) > (wrap32 (a0_3))))) = true then ((spinetlaw03_wakes.f k).bind fun t147 => (some t147)) else (some false))) else (some false))) else (some false))) else (some false))) else (some false))) else (some false))) else (some false)) = some r := H
  have A2 := Aside0.mk A20
  clear A20
  by_cases c3 : t139 = true
  · subst c3
    have H1 : ((alu_Holds.f k 5 t135 t136 t137 t138).bind fun t141 => (if (t141 == (decide ((wrap32 (a0_2)) < (wrap32 (a0_3))))) = true then ((alu_Holds.f k 2 t135 t136 t137 t138).bind fun t142 => (if (t142 == (decide (a0_2 < a0_3))) = true then ((alu_Holds.f k 1 t135 t136 t137 t138).bind fun t143 => (if (t143 == (a0_2 == a0_3)) = true then ((alu_Holds.f k 6 t135 t136 t137 t138).bind fun t144 => (if (t144 == (decide ((wrap32 (a0_2)) ≤ (wrap32 (a0_3))))) = true then ((alu_Holds.f k 4 t135 t136 t137 t138).bind fun t145 => (if (t145 == (decide (a0_2 ≤ a0_3))) = true then ((alu_Holds.f k 14 t135 t136 t137 t138).bind fun t146 => (if (t146 == (decide ((wrap32 (a0_2)) > (wrap32 (a0_3))))) = true then ((spinetlaw03_wakes.f k).bind fun t147 => (some t147)) else (some false))) else (some false))) else (some false))) else (some false))) else (some false))) else (some false))) = some r := by rw [if_pos rfl] at H; exact H
    clear H
    have H := H1
    clear H1
    replace H := Option.bind_eq_some_iff.mp H
    obtain ⟨t141, A40, H⟩ := H
    replace H : (if (t141 == (decide ((wrap32 (a0_2)) < (wrap32 (a0_3))))) = true then ((alu_Holds.f k 2 t135 t136 t137 t138).bind fun t142 => (if (t142 == (decide (a0_2 < a0_3))) = true then ((alu_Holds.f k 1 t135 t136 t137 t138).bind fun t143 => (if (t143 == (a0_2 == a0_3)) = true then ((alu_Holds.f k 6 t135 t136 t137 t138).bind fun t144 => (if (t144 == (decide ((wrap32 (a0_2)) ≤ (wrap32 (a0_3))))) = true then ((alu_Holds.f k 4 t135 t136 t137 t138).bind fun t145 => (if (t145 == (decide (a0_2 ≤ a0_3))) = true then ((alu_Holds.f k 14 t135 t136 t137 t138).bind fun t146 => (if (t146 == (decide ((wrap32 (a0_2)) > (wrap32 (a0_3))))) = true then ((spinetlaw03_wakes.f k).bind fun t147 => (some t147)) else (some false))) else (some false))) else (some false))) else (some false))) else (some false))) else (some false)) = some r := H
    have A4 := Aside0.mk A40
    clear A40
    by_cases c5 : (t141 == (decide ((wrap32 (a0_2)) < (wrap32 (a0_3))))) = true
    · rw [if_pos c5] at H
      have c5b0 : (t141 == (decide ((wrap32 (a0_2)) < (wrap32 (a0_3))))) = true := c5
      (try (have c5b1 : decide (t141 = (decide ((wrap32 (a0_2)) < (wrap32 (a0_3))))) = true := by simpa using c5))
      (try (have c5b2 : (t141 == (decide ((wrap32 (a0_2)) < (wrap32 (a0_3))))) = true := by simpa using c5))
      clear c5
      replace H := Option.bind_eq_some_iff.mp H
      obtain ⟨t142, A60, H⟩ := H
      replace H : (if (t142 == (decide (a0_2 < a0_3))) = true then ((alu_Holds.f k 1 t135 t136 t137 t138).bind fun t143 => (if (t143 == (a0_2 == a0_3)) = true then ((alu_Holds.f k 6 t135 t136 t137 t138).bind fun t144 => (if (t144 == (decide ((wrap32 (a0_2)) ≤ (wrap32 (a0_3))))) = true then ((alu_Holds.f k 4 t135 t136 t137 t138).bind fun t145 => (if (t145 == (decide (a0_2 ≤ a0_3))) = true then ((alu_Holds.f k 14 t135 t136 t137 t138).bind fun t146 => (if (t146 == (decide ((wrap32 (a0_2)) > (wrap32 (a0_3))))) = true then ((spinetlaw03_wakes.f k).bind fun t147 => (some t147)) else (some false))) else (some false))) else (some false))) else (some false))) else (some false)) = some r := H
      have A6 := Aside0.mk A60
      clear A60
      by_cases c7 : (t142 == (decide (a0_2 < a0_3))) = true
      · rw [if_pos c7] at H
        have c7b0 : (t142 == (decide (a0_2 < a0_3))) = true := c7
        (try (have c7b1 : decide (t142 = (decide (a0_2 < a0_3))) = true := by simpa using c7))
        (try (have c7b2 : (t142 == (decide (a0_2 < a0_3))) = true := by simpa using c7))
        clear c7
        replace H := Option.bind_eq_some_iff.mp H
        obtain ⟨t143, A80, H⟩ := H
        replace H : (if (t143 == (a0_2 == a0_3)) = true then ((alu_Holds.f k 6 t135 t136 t137 t138).bind fun t144 => (if (t144 == (decide ((wrap32 (a0_2)) ≤ (wrap32 (a0_3))))) = true then ((alu_Holds.f k 4 t135 t136 t137 t138).bind fun t145 => (if (t145 == (decide (a0_2 ≤ a0_3))) = true then ((alu_Holds.f k 14 t135 t136 t137 t138).bind fun t146 => (if (t146 == (decide ((wrap32 (a0_2)) > (wrap32 (a0_3))))) = true then ((spinetlaw03_wakes.f k).bind fun t147 => (some t147)) else (some false))) else (some false))) else (some false))) else (some false)) = some r := H
        have A8 := Aside0.mk A80
        clear A80
        by_cases c9 : (t143 == (a0_2 == a0_3)) = true
        · rw [if_pos c9] at H
          have c9b0 : (t143 == (a0_2 == a0_3)) = true := c9
          (try (have c9b1 : decide (t143 = (a0_2 == a0_3)) = true := by simpa using c9))
          (try (have c9b2 : (t143 == (a0_2 == a0_3)) = true := by simpa using c9))
          clear c9
          replace H := Option.bind_eq_some_iff.mp H
          obtain ⟨t144, A100, H⟩ := H
          replace H : (if (t144 == (decide ((wrap32 (a0_2)) ≤ (wrap32 (a0_3))))) = true then ((alu_Holds.f k 4 t135 t136 t137 t138).bind fun t145 => (if (t145 == (decide (a0_2 ≤ a0_3))) = true then ((alu_Holds.f k 14 t135 t136 t137 t138).bind fun t146 => (if (t146 == (decide ((wrap32 (a0_2)) > (wrap32 (a0_3))))) = true then ((spinetlaw03_wakes.f k).bind fun t147 => (some t147)) else (some false))) else (some false))) else (some false)) = some r := H
          have A10 := Aside0.mk A100
          clear A100
          by_cases c11 : (t144 == (decide ((wrap32 (a0_2)) ≤ (wrap32 (a0_3))))) = true
          · rw [if_pos c11] at H
            have c11b0 : (t144 == (decide ((wrap32 (a0_2)) ≤ (wrap32 (a0_3))))) = true := c11
            (try (have c11b1 : decide (t144 = (decide ((wrap32 (a0_2)) ≤ (wrap32 (a0_3))))) = true := by simpa using c11))
            (try (have c11b2 : (t144 == (decide ((wrap32 (a0_2)) ≤ (wrap32 (a0_3))))) = true := by simpa using c11))
            clear c11
            replace H := Option.bind_eq_some_iff.mp H
            obtain ⟨t145, A120, H⟩ := H
            replace H : (if (t145 == (decide (a0_2 ≤ a0_3))) = true then ((alu_Holds.f k 14 t135 t136 t137 t138).bind fun t146 => (if (t146 == (decide ((wrap32 (a0_2)) > (wrap32 (a0_3))))) = true then ((spinetlaw03_wakes.f k).bind fun t147 => (some t147)) else (some false))) else (some false)) = some r := H
            have A12 := Aside0.mk A120
            clear A120
            by_cases c13 : (t145 == (decide (a0_2 ≤ a0_3))) = true
            · rw [if_pos c13] at H
              have c13b0 : (t145 == (decide (a0_2 ≤ a0_3))) = true := c13
              (try (have c13b1 : decide (t145 = (decide (a0_2 ≤ a0_3))) = true := by simpa using c13))
              (try (have c13b2 : (t145 == (decide (a0_2 ≤ a0_3))) = true := by simpa using c13))
              clear c13
              replace H := Option.bind_eq_some_iff.mp H
              obtain ⟨t146, A140, H⟩ := H
              replace H : (if (t146 == (decide ((wrap32 (a0_2)) > (wrap32 (a0_3))))) = true then ((spinetlaw03_wakes.f k).bind fun t147 => (some t147)) else (some false)) = some r := H
              have A14 := Aside0.mk A140
              clear A140
              by_cases c15 : (t146 == (decide ((wrap32 (a0_2)) > (wrap32 (a0_3))))) = true
              · rw [if_pos c15] at H
                have c15b0 : (t146 == (decide ((wrap32 (a0_2)) > (wrap32 (a0_3))))) = true := c15
                (try (have c15b1 : decide (t146 = (decide ((wrap32 (a0_2)) > (wrap32 (a0_3))))) = true := by simpa using c15))
                (try (have c15b2 : (t146 == (decide ((wrap32 (a0_2)) > (wrap32 (a0_3))))) = true := by simpa using c15))
                clear c15
                replace H := Option.bind_eq_some_iff.mp H
                obtain ⟨t147, A160, H⟩ := H
                replace H : (some t147) = some r := H
                have A16 := Aside0.mk A160
                clear A160
                obtain rfl := Option.some.inj H
                go_enter Try.func5, Try.ntmps5
                try go_wp2_with (first | ((with_reducible refine gate_dst (N := 1) rfl ?_); refine box_event ?hg (N := 1) ?hd (cs := #[.int .i64 a0_0, .bool a0_1, .int .u32 a0_2, .int .u32 a0_3, .int .u32 a0_4, .bool a0_5, .bool a0_6, .bool a0_7, .bool a0_8]) (t := 26) ?hr ?_; (case hd => rfl); (case hg => rfl); (case hr => first | (go_simp; done) | (go_simp; rfl)); intro gb131 hg w17 hbox hb; have n0_ := Aside0.mk (below_step (by repeat (first | (with_reducible first | exact HB.out | apply below_alloc | apply pw_below_drewN | apply below_drew1) | exact HB.out)) hb); have n1_ := Aside0.mk (hbox); have n2_ := Aside0.mk ((by rw [hg]; exact (below_size (by repeat (first | (with_reducible first | exact HB.out | apply below_alloc | apply pw_below_drewN | apply below_drew1) | exact HB.out))) : w.heap.size ≤ gb131)); have n3_ := Aside0.mk ((by rw [hg]; exact (below_size (by repeat (first | (with_reducible first | exact HB.out | apply below_alloc | apply pw_below_drewN | apply below_drew1) | exact HB.out))) : w.heap.size ≤ gb131)); clear HB; have HB := n0_; have BK131 := n1_; have GW131 := n2_; have GE131 := n3_; clear n0_ n1_ n2_ n3_; clear hb hbox hg))
                have n0_ := Aside0.mk (blk_drew BK131.out)
                have n1_ := Aside0.mk (below_drew1 HB.out)
                clear BK131
                clear HB
                have BK131 := n0_
                have HB := n1_
                clear n0_ n1_
                refine start_ (n := 13) (S := fun w' => w'.cell? ⟨gb131, 0, none⟩ = some (.int .i64 a0_0) ∧ w'.cell? ⟨gb131, 1, none⟩ = some (.bool a0_1) ∧ w'.cell? ⟨gb131, 2, none⟩ = some (.int .u32 a0_2) ∧ w'.cell? ⟨gb131, 3, none⟩ = some (.int .u32 a0_3) ∧ w'.cell? ⟨gb131, 4, none⟩ = some (.int .u32 a0_4) ∧ w'.cell? ⟨gb131, 5, none⟩ = some (.bool a0_5) ∧ w'.cell? ⟨gb131, 6, none⟩ = some (.bool a0_6) ∧ w'.cell? ⟨gb131, 7, none⟩ = some (.bool a0_7) ∧ w'.cell? ⟨gb131, 8, none⟩ = some (.bool a0_8)) (ds := []) #[false, false, false, false, false, false, false, false, false, false, false, false, false] (by kernel_rfl) rfl rfl ⟨(blk_cell BK131.out 0).trans rfl, (blk_cell BK131.out 1).trans rfl, (blk_cell BK131.out 2).trans rfl, (blk_cell BK131.out 3).trans rfl, (blk_cell BK131.out 4).trans rfl, (blk_cell BK131.out 5).trans rfl, (blk_cell BK131.out 6).trans rfl, (blk_cell BK131.out 7).trans rfl, (blk_cell BK131.out 8).trans rfl⟩ (fun hHeld => ?_); refine with_tabW spinetlaw03_AluCompares.tab1 spinetlaw03_AluCompares.bits1 (fun HT_ HW_ => ?_)
                generalize w17.drew = w18 at BK131 HB hHeld ⊢
                refine pure_ (i := 0) (N := some 13) (v := ?_) (a' := ?_) #[true, false, false, false, false, false, false, false, false, false, false, false, false] rfl rfl (any_of HT_.out (by kernel_rfl)) (fun _ _ _ h => h) (Or.inl ⟨by rfl, ?_⟩) ?_ ?_
                rotate_left
                · intro w'
                  go_simp
                  with_reducible rfl
                rotate_left
                · simp only [Act.put, List.setIfInBounds_toArray, List.set_cons_zero, List.set_cons_succ, i64_w, i32_w]
                  rfl
                refine pure_ (i := 2) (N := some 15) (v := ?_) (a' := ?_) #[true, false, true, false, false, false, false, false, false, false, false, false, false] rfl rfl (any_of HT_.out (by kernel_rfl)) (fun _ _ _ h => h) (Or.inl ⟨by rfl, ?_⟩) ?_ ?_
                rotate_left
                · intro w'
                  go_simp
                  with_reducible rfl
                rotate_left
                · simp only [Act.put, List.setIfInBounds_toArray, List.set_cons_zero, List.set_cons_succ, i64_w, i32_w]
                  rfl
                refine pure_ (i := 4) (N := some 17) (v := ?_) (a' := ?_) #[true, false, true, false, true, false, false, false, false, false, false, false, false] rfl rfl (any_of HT_.out (by kernel_rfl)) (fun _ _ _ h => h) (Or.inl ⟨by rfl, ?_⟩) ?_ ?_
                rotate_left
                · intro w'
                  go_simp
                  with_reducible rfl
                rotate_left
                · simp only [Act.put, List.setIfInBounds_toArray, List.set_cons_zero, List.set_cons_succ, i64_w, i32_w]
                  rfl
                refine pure_ (i := 6) (N := some 19) (v := ?_) (a' := ?_) #[true, false, true, false, true, false, true, false, false, false, false, false, false] rfl rfl (any_of HT_.out (by kernel_rfl)) (fun _ _ _ h => h) (Or.inl ⟨by rfl, ?_⟩) ?_ ?_
                rotate_left
                · intro w'
                  go_simp
                  with_reducible rfl
                rotate_left
                · simp only [Act.put, List.setIfInBounds_toArray, List.set_cons_zero, List.set_cons_succ, i64_w, i32_w]
                  rfl
                refine take_ (i := 1) (N := some 14) (v := ?_) (a' := ?_) #[true, true, true, false, true, false, true, false, false, false, false, false, false] rfl rfl (take_ofW HT_.out HW_.out (by kernel_rfl)) (fun _ _ _ h => h) (Or.inl ⟨by rfl, ?_⟩) hHeld ?_ ?_
                rotate_left
                · rintro w' ⟨s0, s1, s2, s3, s4, s5, s6, s7, s8⟩
                  go_simp
                  with_reducible rfl
                rotate_left
                · simp only [Act.put, List.setIfInBounds_toArray, List.set_cons_zero, List.set_cons_succ, i64_w, i32_w]
                  rfl
                refine take_ (i := 3) (N := some 16) (v := ?_) (a' := ?_) #[true, true, true, true, true, false, true, false, false, false, false, false, false] rfl rfl (take_ofW HT_.out HW_.out (by kernel_rfl)) (fun _ _ _ h => h) (Or.inl ⟨by rfl, ?_⟩) hHeld ?_ ?_
                rotate_left
                · rintro w' ⟨s0, s1, s2, s3, s4, s5, s6, s7, s8⟩
                  go_simp
                  with_reducible rfl
                rotate_left
                · simp only [Act.put, List.setIfInBounds_toArray, List.set_cons_zero, List.set_cons_succ, i64_w, i32_w]
                  rfl
                refine take_ (i := 5) (N := some 18) (v := ?_) (a' := ?_) #[true, true, true, true, true, true, true, false, false, false, false, false, false] rfl rfl (take_ofW HT_.out HW_.out (by kernel_rfl)) (fun _ _ _ h => h) (Or.inl ⟨by rfl, ?_⟩) hHeld ?_ ?_
                rotate_left
                · rintro w' ⟨s0, s1, s2, s3, s4, s5, s6, s7, s8⟩
                  go_simp
                  with_reducible rfl
                rotate_left
                · simp only [Act.put, List.setIfInBounds_toArray, List.set_cons_zero, List.set_cons_succ, i64_w, i32_w]
                  rfl
                refine take_ (i := 7) (N := some 20) (v := ?_) (a' := ?_) #[true, true, true, true, true, true, true, true, false, false, false, false, false] rfl rfl (take_ofW HT_.out HW_.out (by kernel_rfl)) (fun _ _ _ h => h) (Or.inl ⟨by rfl, ?_⟩) hHeld ?_ ?_
                rotate_left
                · rintro w' ⟨s0, s1, s2, s3, s4, s5, s6, s7, s8⟩
                  go_simp
                  with_reducible rfl
                rotate_left
                · simp only [Act.put, List.setIfInBounds_toArray, List.set_cons_zero, List.set_cons_succ, i64_w, i32_w]
                  rfl
                refine one_ (i := 8) (N := some 6) #[true, true, true, true, true, true, true, true, true, false, false, false, false] rfl rfl (one_of HT_.out (by kernel_rfl)) (by decide) (fun K hK => ?_)
                refine box_step ?hg (N := 6) ?hd (cs := #[.bool false, .bool false, .bool false, .bool false]) (t := 24) ?hr ?_; (case hd => rfl); (case hg => rfl); (case hr => first | (go_simp; done) | (go_simp; rfl))
                intro gb132 hg w19 hbox hb
                have n0_ := Aside0.mk (blk_below (g := gb131) (o := .cells #[.int .i64 a0_0, .bool a0_1, .int .u32 a0_2, .int .u32 a0_3, .int .u32 a0_4, .bool a0_5, .bool a0_6, .bool a0_7, .bool a0_8] 26 (0, 0)) (by (with_reducible repeat (first | refine blk_drewN ?_ _ | refine blk_drew ?_ | refine blk_alloc ?_ _)); exact BK131.out) hb)
                have n1_ := Aside0.mk (below_step (by repeat (first | (with_reducible first | exact HB.out | apply below_alloc | apply pw_below_drewN | apply below_drew1 | refine below_set ?_ GE131.out) | exact HB.out)) hb)
                have n2_ := Aside0.mk (hbox)
                have n3_ := Aside0.mk ((by rw [hg]; exact (below_size (by repeat (first | (with_reducible first | exact HB.out | apply below_alloc | apply pw_below_drewN | apply below_drew1 | refine below_set ?_ GE131.out) | exact HB.out))) : w.heap.size ≤ gb132))
                have n4_ := Aside0.mk ((by rw [hg]; exact (below_size (by repeat (first | (with_reducible first | exact HB.out | apply below_alloc | apply pw_below_drewN | apply below_drew1 | refine below_set ?_ GE131.out) | exact HB.out))) : w.heap.size ≤ gb132))
                have n5_ := Aside0.mk ((by rw [hg]; exact Nat.ne_of_lt (blk_lt (g := gb131) (o := .cells #[.int .i64 a0_0, .bool a0_1, .int .u32 a0_2, .int .u32 a0_3, .int .u32 a0_4, .bool a0_5, .bool a0_6, .bool a0_7, .bool a0_8] 26 (0, 0)) (by (with_reducible repeat (first | refine blk_drewN ?_ _ | refine blk_drew ?_ | refine blk_alloc ?_ _)); exact BK131.out)) : gb131 ≠ gb132))
                have n6_ := Aside0.mk ((by rw [hg]; exact Nat.ne_of_gt (blk_lt (g := gb131) (o := .cells #[.int .i64 a0_0, .bool a0_1, .int .u32 a0_2, .int .u32 a0_3, .int .u32 a0_4, .bool a0_5, .bool a0_6, .bool a0_7, .bool a0_8] 26 (0, 0)) (by (with_reducible repeat (first | refine blk_drewN ?_ _ | refine blk_drew ?_ | refine blk_alloc ?_ _)); exact BK131.out)) : gb132 ≠ gb131))
                clear BK131
                clear HB
                have BK131 := n0_
                have HB := n1_
                have BK132 := n2_
                have GW132 := n3_
                have GE132 := n4_
                have NB131_132 := n5_
                have NB132_131 := n6_
                clear n0_ n1_ n2_ n3_ n4_ n5_ n6_
                clear hb hbox hg
                refine hK.out _ _ ⟨(blk_cell BK131.out 0).trans rfl, (blk_cell BK131.out 1).trans rfl, (blk_cell BK131.out 2).trans rfl, (blk_cell BK131.out 3).trans rfl, (blk_cell BK131.out 4).trans rfl, (blk_cell BK131.out 5).trans rfl, (blk_cell BK131.out 6).trans rfl, (blk_cell BK131.out 7).trans rfl, (blk_cell BK131.out 8).trans rfl⟩ (fun hHeld => ?_)
                clear hK K
                refine norm_ (a' := ?_) ?_ ?_
                rotate_left
                · show Act.put _ (some 6) _ = _
                  simp only [Act.put, List.setIfInBounds_toArray, List.set_cons_zero, List.set_cons_succ, i64_w, i32_w]
                  rfl
                refine pure_ (i := 9) (N := some 3) (v := ?_) (a' := ?_) #[true, true, true, true, true, true, true, true, true, true, false, false, false] rfl rfl (any_of HT_.out (by kernel_rfl)) (fun _ _ _ h => h) (Or.inl ⟨by rfl, ?_⟩) ?_ ?_
                rotate_left
                · intro w'
                  go_simp
                  with_reducible rfl
                rotate_left
                · simp only [Act.put, List.setIfInBounds_toArray, List.set_cons_zero, List.set_cons_succ, i64_w, i32_w]
                  rfl
                refine pure_ (i := 10) (N := some 4) (v := ?_) (a' := ?_) #[true, true, true, true, true, true, true, true, true, true, true, false, false] rfl rfl (any_of HT_.out (by kernel_rfl)) (fun _ _ _ h => h) (Or.inl ⟨by rfl, ?_⟩) ?_ ?_
                rotate_left
                · intro w'
                  go_simp
                  with_reducible rfl
                rotate_left
                · simp only [Act.put, List.setIfInBounds_toArray, List.set_cons_zero, List.set_cons_succ, i64_w, i32_w]
                  rfl
                refine pure_ (i := 11) (N := some 5) (v := ?_) (a' := ?_) #[true, true, true, true, true, true, true, true, true, true, true, true, false] rfl rfl (any_of HT_.out (by kernel_rfl)) (fun _ _ _ h => h) (Or.inl ⟨by rfl, ?_⟩) ?_ ?_
                rotate_left
                · intro w'
                  go_simp
                  with_reducible rfl
                rotate_left
                · simp only [Act.put, List.setIfInBounds_toArray, List.set_cons_zero, List.set_cons_succ, i64_w, i32_w]
                  rfl
                refine one_ (i := 12) (N := none) #[true, true, true, true, true, true, true, true, true, true, true, true, true] rfl rfl (one_of HT_.out (by kernel_rfl)) (by decide) (fun K hK => ?_)
                have hs20 : w19.cell? ⟨gb132, 0, none⟩ = some (.bool false) := (blk_cell BK132.out 0).trans rfl
                have hfs20 := blk_frozen BK132.out 0
                have hns20_0 := NB131_132.out
                have hms20_0 := NB132_131.out
                have hs21 : w19.cell? ⟨gb132, 1, none⟩ = some (.bool false) := (blk_cell BK132.out 1).trans rfl
                have hfs21 := blk_frozen BK132.out 1
                have hns21_0 := NB131_132.out
                have hms21_0 := NB132_131.out
                have hs22 : w19.cell? ⟨gb132, 2, none⟩ = some (.bool false) := (blk_cell BK132.out 2).trans rfl
                have hfs22 := blk_frozen BK132.out 2
                have hns22_0 := NB131_132.out
                have hms22_0 := NB132_131.out
                have hs23 : w19.cell? ⟨gb132, 3, none⟩ = some (.bool false) := (blk_cell BK132.out 3).trans rfl
                have hfs23 := blk_frozen BK132.out 3
                have hns23_0 := NB131_132.out
                have hms23_0 := NB132_131.out
                refine skip_ (w1 := ?_) (by rfl) rfl ?_ ?_
                rotate_left
                · go_simp
                  rfl
                refine hK.out _ _ ⟨((cell_far (p := ⟨gb132, _, none⟩) NB131_132.out _).trans (((cell_far (p := ⟨gb132, _, none⟩) NB131_132.out _).trans (((cell_far (p := ⟨gb132, _, none⟩) NB131_132.out _).trans (((cell_far (p := ⟨gb132, _, none⟩) NB131_132.out _).trans (hHeld.1)))))))), ((cell_far (p := ⟨gb132, _, none⟩) NB131_132.out _).trans (((cell_far (p := ⟨gb132, _, none⟩) NB131_132.out _).trans (((cell_far (p := ⟨gb132, _, none⟩) NB131_132.out _).trans (((cell_far (p := ⟨gb132, _, none⟩) NB131_132.out _).trans (hHeld.2.1)))))))), ((cell_far (p := ⟨gb132, _, none⟩) NB131_132.out _).trans (((cell_far (p := ⟨gb132, _, none⟩) NB131_132.out _).trans (((cell_far (p := ⟨gb132, _, none⟩) NB131_132.out _).trans (((cell_far (p := ⟨gb132, _, none⟩) NB131_132.out _).trans (hHeld.2.2.1)))))))), ((cell_far (p := ⟨gb132, _, none⟩) NB131_132.out _).trans (((cell_far (p := ⟨gb132, _, none⟩) NB131_132.out _).trans (((cell_far (p := ⟨gb132, _, none⟩) NB131_132.out _).trans (((cell_far (p := ⟨gb132, _, none⟩) NB131_132.out _).trans (hHeld.2.2.2.1)))))))), ((cell_far (p := ⟨gb132, _, none⟩) NB131_132.out _).trans (((cell_far (p := ⟨gb132, _, none⟩) NB131_132.out _).trans (((cell_far (p := ⟨gb132, _, none⟩) NB131_132.out _).trans (((cell_far (p := ⟨gb132, _, none⟩) NB131_132.out _).trans (hHeld.2.2.2.2.1)))))))), ((cell_far (p := ⟨gb132, _, none⟩) NB131_132.out _).trans (((cell_far (p := ⟨gb132, _, none⟩) NB131_132.out _).trans (((cell_far (p := ⟨gb132, _, none⟩) NB131_132.out _).trans (((cell_far (p := ⟨gb132, _, none⟩) NB131_132.out _).trans (hHeld.2.2.2.2.2.1)))))))), ((cell_far (p := ⟨gb132, _, none⟩) NB131_132.out _).trans (((cell_far (p := ⟨gb132, _, none⟩) NB131_132.out _).trans (((cell_far (p := ⟨gb132, _, none⟩) NB131_132.out _).trans (((cell_far (p := ⟨gb132, _, none⟩) NB131_132.out _).trans (hHeld.2.2.2.2.2.2.1)))))))), ((cell_far (p := ⟨gb132, _, none⟩) NB131_132.out _).trans (((cell_far (p := ⟨gb132, _, none⟩) NB131_132.out _).trans (((cell_far (p := ⟨gb132, _, none⟩) NB131_132.out _).trans (((cell_far (p := ⟨gb132, _, none⟩) NB131_132.out _).trans (hHeld.2.2.2.2.2.2.2.1)))))))), ((cell_far (p := ⟨gb132, _, none⟩) NB131_132.out _).trans (((cell_far (p := ⟨gb132, _, none⟩) NB131_132.out _).trans (((cell_far (p := ⟨gb132, _, none⟩) NB131_132.out _).trans (((cell_far (p := ⟨gb132, _, none⟩) NB131_132.out _).trans (hHeld.2.2.2.2.2.2.2.2))))))))⟩ (fun hHeld => ?_)
                clear hK K
                refine done_ (done_of HT_.out (by kernel_rfl)) ?_
                have hnb24 := NB132_131.out
                have hnc24 := NB131_132.out
                have hcz25_0 : w19.cell? ⟨gb132, 0, none⟩ = some (.bool false) := (blk_cell BK132.out 0).trans rfl
                have hcz25_1 : w19.cell? ⟨gb132, 1, none⟩ = some (.bool false) := (blk_cell BK132.out 1).trans rfl
                have hcz25_2 : w19.cell? ⟨gb132, 2, none⟩ = some (.bool false) := (blk_cell BK132.out 2).trans rfl
                have hcz25_3 : w19.cell? ⟨gb132, 3, none⟩ = some (.bool false) := (blk_cell BK132.out 3).trans rfl
                have hfz25_0 := blk_frozen BK132.out 0
                have hfz25_1 := blk_frozen BK132.out 1
                have hfz25_2 := blk_frozen BK132.out 2
                have hfz25_3 := blk_frozen BK132.out 3
                try go_wp2_with (first | ((with_reducible refine gate_callee (f := 9) rfl ?_); refine goesL_ (some 26) rfl rfl Try.func9 (by kernel_rfl) rfl #[.int .i64 9, .bool false, .int .u32 a0_2, .int .u32 a0_3, .int .u32 a0_4, .agg #[.bool a0_5, .bool a0_6, .bool a0_7, .bool a0_8]] rfl (by (try simp only [List.map_toArray, List.map_cons, List.map_nil]); first | done | rfl | (simp only [List.length_drop, List.length_take]; rfl)) ?_; (with_reducible refine (alu_Do.calls k 9 false a0_2 a0_3 a0_4 a0_5 a0_6 a0_7 a0_8 t133 t134 t135 t136 t137 t138 true _ A2.out).mono ?_); rintro e w26 ⟨rfl, hb⟩; refine ⟨_, rfl, ?_⟩; have n0_ := Aside0.mk (blk_below (g := gb131) (o := .cells #[.int .i64 a0_0, .bool a0_1, .int .u32 a0_2, .int .u32 a0_3, .int .u32 a0_4, .bool a0_5, .bool a0_6, .bool a0_7, .bool a0_8] 26 (0, 0)) (by (with_reducible repeat (first | refine blk_drewN ?_ _ | refine blk_drew ?_ | refine blk_alloc ?_ _)); refine blk_far ?_ NB131_132.out _; (with_reducible repeat (first | refine blk_drewN ?_ _ | refine blk_drew ?_ | refine blk_alloc ?_ _)); refine blk_far ?_ NB131_132.out _; (with_reducible repeat (first | refine blk_drewN ?_ _ | refine blk_drew ?_ | refine blk_alloc ?_ _)); refine blk_far ?_ NB131_132.out _; (with_reducible repeat (first | refine blk_drewN ?_ _ | refine blk_drew ?_ | refine blk_alloc ?_ _)); refine blk_far ?_ NB131_132.out _; (with_reducible repeat (first | refine blk_drewN ?_ _ | refine blk_drew ?_ | refine blk_alloc ?_ _)); exact BK131.out) hb); have n1_ := Aside0.mk (blk_below (g := gb132) (o := .cells #[.bool a0_5, .bool a0_6, .bool a0_7, .bool a0_8] 24 (0, 0)) (by (with_reducible repeat (first | refine blk_drewN ?_ _ | refine blk_drew ?_ | refine blk_alloc ?_ _)); refine blk_put (cs := #[.bool a0_5, .bool a0_6, .bool a0_7, .bool false]) ?_ 3 _ rfl; (with_reducible repeat (first | refine blk_drewN ?_ _ | refine blk_drew ?_ | refine blk_alloc ?_ _)); refine blk_put (cs := #[.bool a0_5, .bool a0_6, .bool false, .bool false]) ?_ 2 _ rfl; (with_reducible repeat (first | refine blk_drewN ?_ _ | refine blk_drew ?_ | refine blk_alloc ?_ _)); refine blk_put (cs := #[.bool a0_5, .bool false, .bool false, .bool false]) ?_ 1 _ rfl; (with_reducible repeat (first | refine blk_drewN ?_ _ | refine blk_drew ?_ | refine blk_alloc ?_ _)); refine blk_put (cs := #[.bool false, .bool false, .bool false, .bool false]) ?_ 0 _ rfl; (with_reducible repeat (first | refine blk_drewN ?_ _ | refine blk_drew ?_ | refine blk_alloc ?_ _)); exact BK132.out) hb); have n2_ := Aside0.mk (below_step (by repeat (first | (with_reducible first | exact HB.out | apply below_alloc | apply pw_below_drewN | apply below_drew1 | refine below_set ?_ GE131.out | refine below_set ?_ GE132.out) | exact HB.out)) hb); clear BK131; clear BK132; clear HB; have BK131 := n0_; have BK132 := n1_; have HB := n2_; clear n0_ n1_ n2_; (try clear hb); (try clear hb2); (try clear hk); (try clear hi)) | ((with_reducible refine gate_dst (N := 9) rfl ?_); refine box_event ?hg (N := 9) ?hd (cs := #[.bool false, .bool false, .bool false, .bool false]) (t := 24) ?hr ?_; (case hd => rfl); (case hg => rfl); (case hr => first | (go_simp; done) | (go_simp; rfl)); intro gb140 hg w27 hbox hb; have n0_ := Aside0.mk (blk_below (g := gb131) (o := .cells #[.int .i64 a0_0, .bool a0_1, .int .u32 a0_2, .int .u32 a0_3, .int .u32 a0_4, .bool a0_5, .bool a0_6, .bool a0_7, .bool a0_8] 26 (0, 0)) (by (with_reducible repeat (first | refine blk_drewN ?_ _ | refine blk_drew ?_ | refine blk_alloc ?_ _)); exact BK131.out) hb); have n1_ := Aside0.mk (blk_below (g := gb132) (o := .cells #[.bool a0_5, .bool a0_6, .bool a0_7, .bool a0_8] 24 (0, 0)) (by (with_reducible repeat (first | refine blk_drewN ?_ _ | refine blk_drew ?_ | refine blk_alloc ?_ _)); exact BK132.out) hb); have n2_ := Aside0.mk (below_step (by repeat (first | (with_reducible first | exact HB.out | apply below_alloc | apply pw_below_drewN | apply below_drew1 | refine below_set ?_ GE131.out | refine below_set ?_ GE132.out) | exact HB.out)) hb); have n3_ := Aside0.mk (hbox); have n4_ := Aside0.mk ((by rw [hg]; exact (below_size (by repeat (first | (with_reducible first | exact HB.out | apply below_alloc | apply pw_below_drewN | apply below_drew1 | refine below_set ?_ GE131.out | refine below_set ?_ GE132.out) | exact HB.out))) : w.heap.size ≤ gb140)); have n5_ := Aside0.mk ((by rw [hg]; exact (below_size (by repeat (first | (with_reducible first | exact HB.out | apply below_alloc | apply pw_below_drewN | apply below_drew1 | refine below_set ?_ GE131.out | refine below_set ?_ GE132.out) | exact HB.out))) : w.heap.size ≤ gb140)); have n6_ := Aside0.mk ((by rw [hg]; exact Nat.ne_of_lt (blk_lt (g := gb131) (o := .cells #[.int .i64 a0_0, .bool a0_1, .int .u32 a0_2, .int .u32 a0_3, .int .u32 a0_4, .bool a0_5, .bool a0_6, .bool a0_7, .bool a0_8] 26 (0, 0)) (by (with_reducible repeat (first | refine blk_drewN ?_ _ | refine blk_drew ?_ | refine blk_alloc ?_ _)); exact BK131.out)) : gb131 ≠ gb140)); have n7_ := Aside0.mk ((by rw [hg]; exact Nat.ne_of_gt (blk_lt (g := gb131) (o := .cells #[.int .i64 a0_0, .bool a0_1, .int .u32 a0_2, .int .u32 a0_3, .int .u32 a0_4, .bool a0_5, .bool a0_6, .bool a0_7, .bool a0_8] 26 (0, 0)) (by (with_reducible repeat (first | refine blk_drewN ?_ _ | refine blk_drew ?_ | refine blk_alloc ?_ _)); exact BK131.out)) : gb140 ≠ gb131)); have n8_ := Aside0.mk ((by rw [hg]; exact Nat.ne_of_lt (blk_lt (g := gb132) (o := .cells #[.bool a0_5, .bool a0_6, .bool a0_7, .bool a0_8] 24 (0, 0)) (by (with_reducible repeat (first | refine blk_drewN ?_ _ | refine blk_drew ?_ | refine blk_alloc ?_ _)); exact BK132.out)) : gb132 ≠ gb140)); have n9_ := Aside0.mk ((by rw [hg]; exact Nat.ne_of_gt (blk_lt (g := gb132) (o := .cells #[.bool a0_5, .bool a0_6, .bool a0_7, .bool a0_8] 24 (0, 0)) (by (with_reducible repeat (first | refine blk_drewN ?_ _ | refine blk_drew ?_ | refine blk_alloc ?_ _)); exact BK132.out)) : gb140 ≠ gb132)); clear BK131; clear BK132; clear HB; have BK131 := n0_; have BK132 := n1_; have HB := n2_; have BK140 := n3_; have GW140 := n4_; have GE140 := n5_; have NB131_140 := n6_; have NB140_131 := n7_; have NB132_140 := n8_; have NB140_132 := n9_; clear n0_ n1_ n2_ n3_ n4_ n5_ n6_ n7_ n8_ n9_; clear hb hbox hg; have hnb28 := NB140_131.out; have hnc28 := NB131_140.out; have hnb29 := NB140_132.out; have hnc29 := NB132_140.out; have hcz30_0 : w27.cell? ⟨gb140, 0, none⟩ = some (.bool false) := (blk_cell BK140.out 0).trans rfl; have hcz30_1 : w27.cell? ⟨gb140, 1, none⟩ = some (.bool false) := (blk_cell BK140.out 1).trans rfl; have hcz30_2 : w27.cell? ⟨gb140, 2, none⟩ = some (.bool false) := (blk_cell BK140.out 2).trans rfl; have hcz30_3 : w27.cell? ⟨gb140, 3, none⟩ = some (.bool false) := (blk_cell BK140.out 3).trans rfl; have hfz30_0 := blk_frozen BK140.out 0; have hfz30_1 := blk_frozen BK140.out 1; have hfz30_2 := blk_frozen BK140.out 2; have hfz30_3 := blk_frozen BK140.out 3) | (go_at_call 13; (with_reducible refine (alu_Holds.calls k 5 t135 t136 t137 t138 t141 _ A4.out).mono ?_); rintro e w31 ⟨rfl, hb⟩; have n0_ := Aside0.mk (blk_below (g := gb131) (o := .cells #[.int .i64 a0_0, .bool a0_1, .int .u32 a0_2, .int .u32 a0_3, .int .u32 a0_4, .bool a0_5, .bool a0_6, .bool a0_7, .bool a0_8] 26 (0, 0)) (by (with_reducible repeat (first | refine blk_drewN ?_ _ | refine blk_drew ?_ | refine blk_alloc ?_ _)); refine blk_far ?_ NB131_140.out _; (with_reducible repeat (first | refine blk_drewN ?_ _ | refine blk_drew ?_ | refine blk_alloc ?_ _)); refine blk_far ?_ NB131_140.out _; (with_reducible repeat (first | refine blk_drewN ?_ _ | refine blk_drew ?_ | refine blk_alloc ?_ _)); refine blk_far ?_ NB131_140.out _; (with_reducible repeat (first | refine blk_drewN ?_ _ | refine blk_drew ?_ | refine blk_alloc ?_ _)); refine blk_far ?_ NB131_140.out _; (with_reducible repeat (first | refine blk_drewN ?_ _ | refine blk_drew ?_ | refine blk_alloc ?_ _)); exact BK131.out) hb); have n1_ := Aside0.mk (blk_below (g := gb132) (o := .cells #[.bool a0_5, .bool a0_6, .bool a0_7, .bool a0_8] 24 (0, 0)) (by (with_reducible repeat (first | refine blk_drewN ?_ _ | refine blk_drew ?_ | refine blk_alloc ?_ _)); refine blk_far ?_ NB132_140.out _; (with_reducible repeat (first | refine blk_drewN ?_ _ | refine blk_drew ?_ | refine blk_alloc ?_ _)); refine blk_far ?_ NB132_140.out _; (with_reducible repeat (first | refine blk_drewN ?_ _ | refine blk_drew ?_ | refine blk_alloc ?_ _)); refine blk_far ?_ NB132_140.out _; (with_reducible repeat (first | refine blk_drewN ?_ _ | refine blk_drew ?_ | refine blk_alloc ?_ _)); refine blk_far ?_ NB132_140.out _; (with_reducible repeat (first | refine blk_drewN ?_ _ | refine blk_drew ?_ | refine blk_alloc ?_ _)); exact BK132.out) hb); have n2_ := Aside0.mk (blk_below (g := gb140) (o := .cells #[.bool t135, .bool t136, .bool t137, .bool t138] 24 (0, 0)) (by (with_reducible repeat (first | refine blk_drewN ?_ _ | refine blk_drew ?_ | refine blk_alloc ?_ _)); refine blk_put (cs := #[.bool t135, .bool t136, .bool t137, .bool false]) ?_ 3 _ rfl; (with_reducible repeat (first | refine blk_drewN ?_ _ | refine blk_drew ?_ | refine blk_alloc ?_ _)); refine blk_put (cs := #[.bool t135, .bool t136, .bool false, .bool false]) ?_ 2 _ rfl; (with_reducible repeat (first | refine blk_drewN ?_ _ | refine blk_drew ?_ | refine blk_alloc ?_ _)); refine blk_put (cs := #[.bool t135, .bool false, .bool false, .bool false]) ?_ 1 _ rfl; (with_reducible repeat (first | refine blk_drewN ?_ _ | refine blk_drew ?_ | refine blk_alloc ?_ _)); refine blk_put (cs := #[.bool false, .bool false, .bool false, .bool false]) ?_ 0 _ rfl; (with_reducible repeat (first | refine blk_drewN ?_ _ | refine blk_drew ?_ | refine blk_alloc ?_ _)); exact BK140.out) hb); have n3_ := Aside0.mk (below_step (by repeat (first | (with_reducible first | exact HB.out | apply below_alloc | apply pw_below_drewN | apply below_drew1 | refine below_set ?_ GE131.out | refine below_set ?_ GE132.out | refine below_set ?_ GE140.out) | exact HB.out)) hb); clear BK131; clear BK132; clear BK140; clear HB; have BK131 := n0_; have BK132 := n1_; have BK140 := n2_; have HB := n3_; clear n0_ n1_ n2_ n3_; (try clear hb); (try clear hb2); (try clear hk); (try clear hi); have hcz32_0 : w31.cell? ⟨gb140, 0, none⟩ = some (.bool t135) := (blk_cell BK140.out 0).trans rfl; have hcz32_1 : w31.cell? ⟨gb140, 1, none⟩ = some (.bool t136) := (blk_cell BK140.out 1).trans rfl; have hcz32_2 : w31.cell? ⟨gb140, 2, none⟩ = some (.bool t137) := (blk_cell BK140.out 2).trans rfl; have hcz32_3 : w31.cell? ⟨gb140, 3, none⟩ = some (.bool t138) := (blk_cell BK140.out 3).trans rfl; have hfz32_0 := blk_frozen BK140.out 0; have hfz32_1 := blk_frozen BK140.out 1; have hfz32_2 := blk_frozen BK140.out 2; have hfz32_3 := blk_frozen BK140.out 3) | (go_at_call 13; (with_reducible refine (alu_Holds.calls k 2 t135 t136 t137 t138 t142 _ A6.out).mono ?_); rintro e w33 ⟨rfl, hb⟩; have n0_ := Aside0.mk (blk_below (g := gb131) (o := .cells #[.int .i64 a0_0, .bool a0_1, .int .u32 a0_2, .int .u32 a0_3, .int .u32 a0_4, .bool a0_5, .bool a0_6, .bool a0_7, .bool a0_8] 26 (0, 0)) (by (with_reducible repeat (first | refine blk_drewN ?_ _ | refine blk_drew ?_ | refine blk_alloc ?_ _)); exact BK131.out) hb); have n1_ := Aside0.mk (blk_below (g := gb132) (o := .cells #[.bool a0_5, .bool a0_6, .bool a0_7, .bool a0_8] 24 (0, 0)) (by (with_reducible repeat (first | refine blk_drewN ?_ _ | refine blk_drew ?_ | refine blk_alloc ?_ _)); exact BK132.out) hb); have n2_ := Aside0.mk (blk_below (g := gb140) (o := .cells #[.bool t135, .bool t136, .bool t137, .bool t138] 24 (0, 0)) (by (with_reducible repeat (first | refine blk_drewN ?_ _ | refine blk_drew ?_ | refine blk_alloc ?_ _)); exact BK140.out) hb); have n3_ := Aside0.mk (below_step (by repeat (first | (with_reducible first | exact HB.out | apply below_alloc | apply pw_below_drewN | apply below_drew1 | refine below_set ?_ GE131.out | refine below_set ?_ GE132.out | refine below_set ?_ GE140.out) | exact HB.out)) hb); clear BK131; clear BK132; clear BK140; clear HB; have BK131 := n0_; have BK132 := n1_; have BK140 := n2_; have HB := n3_; clear n0_ n1_ n2_ n3_; (try clear hb); (try clear hb2); (try clear hk); (try clear hi); have hcz34_0 : w33.cell? ⟨gb140, 0, none⟩ = some (.bool t135) := (blk_cell BK140.out 0).trans rfl; have hcz34_1 : w33.cell? ⟨gb140, 1, none⟩ = some (.bool t136) := (blk_cell BK140.out 1).trans rfl; have hcz34_2 : w33.cell? ⟨gb140, 2, none⟩ = some (.bool t137) := (blk_cell BK140.out 2).trans rfl; have hcz34_3 : w33.cell? ⟨gb140, 3, none⟩ = some (.bool t138) := (blk_cell BK140.out 3).trans rfl; have hfz34_0 := blk_frozen BK140.out 0; have hfz34_1 := blk_frozen BK140.out 1; have hfz34_2 := blk_frozen BK140.out 2; have hfz34_3 := blk_frozen BK140.out 3) | (go_at_call 13; (with_reducible refine (alu_Holds.calls k 1 t135 t136 t137 t138 t143 _ A8.out).mono ?_); rintro e w35 ⟨rfl, hb⟩; have n0_ := Aside0.mk (blk_below (g := gb131) (o := .cells #[.int .i64 a0_0, .bool a0_1, .int .u32 a0_2, .int .u32 a0_3, .int .u32 a0_4, .bool a0_5, .bool a0_6, .bool a0_7, .bool a0_8] 26 (0, 0)) (by (with_reducible repeat (first | refine blk_drewN ?_ _ | refine blk_drew ?_ | refine blk_alloc ?_ _)); exact BK131.out) hb); have n1_ := Aside0.mk (blk_below (g := gb132) (o := .cells #[.bool a0_5, .bool a0_6, .bool a0_7, .bool a0_8] 24 (0, 0)) (by (with_reducible repeat (first | refine blk_drewN ?_ _ | refine blk_drew ?_ | refine blk_alloc ?_ _)); exact BK132.out) hb); have n2_ := Aside0.mk (blk_below (g := gb140) (o := .cells #[.bool t135, .bool t136, .bool t137, .bool t138] 24 (0, 0)) (by (with_reducible repeat (first | refine blk_drewN ?_ _ | refine blk_drew ?_ | refine blk_alloc ?_ _)); exact BK140.out) hb); have n3_ := Aside0.mk (below_step (by repeat (first | (with_reducible first | exact HB.out | apply below_alloc | apply pw_below_drewN | apply below_drew1 | refine below_set ?_ GE131.out | refine below_set ?_ GE132.out | refine below_set ?_ GE140.out) | exact HB.out)) hb); clear BK131; clear BK132; clear BK140; clear HB; have BK131 := n0_; have BK132 := n1_; have BK140 := n2_; have HB := n3_; clear n0_ n1_ n2_ n3_; (try clear hb); (try clear hb2); (try clear hk); (try clear hi); have hcz36_0 : w35.cell? ⟨gb140, 0, none⟩ = some (.bool t135) := (blk_cell BK140.out 0).trans rfl; have hcz36_1 : w35.cell? ⟨gb140, 1, none⟩ = some (.bool t136) := (blk_cell BK140.out 1).trans rfl; have hcz36_2 : w35.cell? ⟨gb140, 2, none⟩ = some (.bool t137) := (blk_cell BK140.out 2).trans rfl; have hcz36_3 : w35.cell? ⟨gb140, 3, none⟩ = some (.bool t138) := (blk_cell BK140.out 3).trans rfl; have hfz36_0 := blk_frozen BK140.out 0; have hfz36_1 := blk_frozen BK140.out 1; have hfz36_2 := blk_frozen BK140.out 2; have hfz36_3 := blk_frozen BK140.out 3) | (go_at_call 13; (with_reducible refine (alu_Holds.calls k 6 t135 t136 t137 t138 t144 _ A10.out).mono ?_); rintro e w37 ⟨rfl, hb⟩; have n0_ := Aside0.mk (blk_below (g := gb131) (o := .cells #[.int .i64 a0_0, .bool a0_1, .int .u32 a0_2, .int .u32 a0_3, .int .u32 a0_4, .bool a0_5, .bool a0_6, .bool a0_7, .bool a0_8] 26 (0, 0)) (by (with_reducible repeat (first | refine blk_drewN ?_ _ | refine blk_drew ?_ | refine blk_alloc ?_ _)); exact BK131.out) hb); have n1_ := Aside0.mk (blk_below (g := gb132) (o := .cells #[.bool a0_5, .bool a0_6, .bool a0_7, .bool a0_8] 24 (0, 0)) (by (with_reducible repeat (first | refine blk_drewN ?_ _ | refine blk_drew ?_ | refine blk_alloc ?_ _)); exact BK132.out) hb); have n2_ := Aside0.mk (blk_below (g := gb140) (o := .cells #[.bool t135, .bool t136, .bool t137, .bool t138] 24 (0, 0)) (by (with_reducible repeat (first | refine blk_drewN ?_ _ | refine blk_drew ?_ | refine blk_alloc ?_ _)); exact BK140.out) hb); have n3_ := Aside0.mk (below_step (by repeat (first | (with_reducible first | exact HB.out | apply below_alloc | apply pw_below_drewN | apply below_drew1 | refine below_set ?_ GE131.out | refine below_set ?_ GE132.out | refine below_set ?_ GE140.out) | exact HB.out)) hb); clear BK131; clear BK132; clear BK140; clear HB; have BK131 := n0_; have BK132 := n1_; have BK140 := n2_; have HB := n3_; clear n0_ n1_ n2_ n3_; (try clear hb); (try clear hb2); (try clear hk); (try clear hi); have hcz38_0 : w37.cell? ⟨gb140, 0, none⟩ = some (.bool t135) := (blk_cell BK140.out 0).trans rfl; have hcz38_1 : w37.cell? ⟨gb140, 1, none⟩ = some (.bool t136) := (blk_cell BK140.out 1).trans rfl; have hcz38_2 : w37.cell? ⟨gb140, 2, none⟩ = some (.bool t137) := (blk_cell BK140.out 2).trans rfl; have hcz38_3 : w37.cell? ⟨gb140, 3, none⟩ = some (.bool t138) := (blk_cell BK140.out 3).trans rfl; have hfz38_0 := blk_frozen BK140.out 0; have hfz38_1 := blk_frozen BK140.out 1; have hfz38_2 := blk_frozen BK140.out 2; have hfz38_3 := blk_frozen BK140.out 3) | (go_at_call 13; (with_reducible refine (alu_Holds.calls k 4 t135 t136 t137 t138 t145 _ A12.out).mono ?_); rintro e w39 ⟨rfl, hb⟩; have n0_ := Aside0.mk (blk_below (g := gb131) (o := .cells #[.int .i64 a0_0, .bool a0_1, .int .u32 a0_2, .int .u32 a0_3, .int .u32 a0_4, .bool a0_5, .bool a0_6, .bool a0_7, .bool a0_8] 26 (0, 0)) (by (with_reducible repeat (first | refine blk_drewN ?_ _ | refine blk_drew ?_ | refine blk_alloc ?_ _)); exact BK131.out) hb); have n1_ := Aside0.mk (blk_below (g := gb132) (o := .cells #[.bool a0_5, .bool a0_6, .bool a0_7, .bool a0_8] 24 (0, 0)) (by (with_reducible repeat (first | refine blk_drewN ?_ _ | refine blk_drew ?_ | refine blk_alloc ?_ _)); exact BK132.out) hb); have n2_ := Aside0.mk (blk_below (g := gb140) (o := .cells #[.bool t135, .bool t136, .bool t137, .bool t138] 24 (0, 0)) (by (with_reducible repeat (first | refine blk_drewN ?_ _ | refine blk_drew ?_ | refine blk_alloc ?_ _)); exact BK140.out) hb); have n3_ := Aside0.mk (below_step (by repeat (first | (with_reducible first | exact HB.out | apply below_alloc | apply pw_below_drewN | apply below_drew1 | refine below_set ?_ GE131.out | refine below_set ?_ GE132.out | refine below_set ?_ GE140.out) | exact HB.out)) hb); clear BK131; clear BK132; clear BK140; clear HB; have BK131 := n0_; have BK132 := n1_; have BK140 := n2_; have HB := n3_; clear n0_ n1_ n2_ n3_; (try clear hb); (try clear hb2); (try clear hk); (try clear hi); have hcz40_0 : w39.cell? ⟨gb140, 0, none⟩ = some (.bool t135) := (blk_cell BK140.out 0).trans rfl; have hcz40_1 : w39.cell? ⟨gb140, 1, none⟩ = some (.bool t136) := (blk_cell BK140.out 1).trans rfl; have hcz40_2 : w39.cell? ⟨gb140, 2, none⟩ = some (.bool t137) := (blk_cell BK140.out 2).trans rfl; have hcz40_3 : w39.cell? ⟨gb140, 3, none⟩ = some (.bool t138) := (blk_cell BK140.out 3).trans rfl; have hfz40_0 := blk_frozen BK140.out 0; have hfz40_1 := blk_frozen BK140.out 1; have hfz40_2 := blk_frozen BK140.out 2; have hfz40_3 := blk_frozen BK140.out 3) | (go_at_call 13; (with_reducible refine (alu_Holds.calls k 14 t135 t136 t137 t138 t146 _ A14.out).mono ?_); rintro e w41 ⟨rfl, hb⟩; have n0_ := Aside0.mk (blk_below (g := gb131) (o := .cells #[.int .i64 a0_0, .bool a0_1, .int .u32 a0_2, .int .u32 a0_3, .int .u32 a0_4, .bool a0_5, .bool a0_6, .bool a0_7, .bool a0_8] 26 (0, 0)) (by (with_reducible repeat (first | refine blk_drewN ?_ _ | refine blk_drew ?_ | refine blk_alloc ?_ _)); exact BK131.out) hb); have n1_ := Aside0.mk (blk_below (g := gb132) (o := .cells #[.bool a0_5, .bool a0_6, .bool a0_7, .bool a0_8] 24 (0, 0)) (by (with_reducible repeat (first | refine blk_drewN ?_ _ | refine blk_drew ?_ | refine blk_alloc ?_ _)); exact BK132.out) hb); have n2_ := Aside0.mk (blk_below (g := gb140) (o := .cells #[.bool t135, .bool t136, .bool t137, .bool t138] 24 (0, 0)) (by (with_reducible repeat (first | refine blk_drewN ?_ _ | refine blk_drew ?_ | refine blk_alloc ?_ _)); exact BK140.out) hb); have n3_ := Aside0.mk (below_step (by repeat (first | (with_reducible first | exact HB.out | apply below_alloc | apply pw_below_drewN | apply below_drew1 | refine below_set ?_ GE131.out | refine below_set ?_ GE132.out | refine below_set ?_ GE140.out) | exact HB.out)) hb); clear BK131; clear BK132; clear BK140; clear HB; have BK131 := n0_; have BK132 := n1_; have BK140 := n2_; have HB := n3_; clear n0_ n1_ n2_ n3_; (try clear hb); (try clear hb2); (try clear hk); (try clear hi)) | (go_at_call 12; (with_reducible refine (spinetlaw03_wakes.calls k  t147 _ A16.out).mono ?_); rintro e w42 ⟨rfl, hb⟩; have n0_ := Aside0.mk (blk_below (g := gb131) (o := .cells #[.int .i64 a0_0, .bool a0_1, .int .u32 a0_2, .int .u32 a0_3, .int .u32 a0_4, .bool a0_5, .bool a0_6, .bool a0_7, .bool a0_8] 26 (0, 0)) (by (with_reducible repeat (first | refine blk_drewN ?_ _ | refine blk_drew ?_ | refine blk_alloc ?_ _)); exact BK131.out) hb); have n1_ := Aside0.mk (blk_below (g := gb132) (o := .cells #[.bool a0_5, .bool a0_6, .bool a0_7, .bool a0_8] 24 (0, 0)) (by (with_reducible repeat (first | refine blk_drewN ?_ _ | refine blk_drew ?_ | refine blk_alloc ?_ _)); exact BK132.out) hb); have n2_ := Aside0.mk (blk_below (g := gb140) (o := .cells #[.bool t135, .bool t136, .bool t137, .bool t138] 24 (0, 0)) (by (with_reducible repeat (first | refine blk_drewN ?_ _ | refine blk_drew ?_ | refine blk_alloc ?_ _)); exact BK140.out) hb); have n3_ := Aside0.mk (below_step (by repeat (first | (with_reducible first | exact HB.out | apply below_alloc | apply pw_below_drewN | apply below_drew1 | refine below_set ?_ GE131.out | refine below_set ?_ GE132.out | refine below_set ?_ GE140.out) | exact HB.out)) hb); clear BK131; clear BK132; clear BK140; clear HB; have BK131 := n0_; have BK132 := n1_; have BK140 := n2_; have HB := n3_; clear n0_ n1_ n2_ n3_; (try clear hb); (try clear hb2); (try clear hk); (try clear hi)))
                go_ret
                exact ⟨by first | rfl | (simp [errW_none, errW_some] <;> rfl) | (simp [*, errW_none, errW_some] <;> rfl), by repeat (first | (with_reducible first | exact HB.out | apply below_alloc | apply pw_below_drewN | apply below_drew1 | refine below_set ?_ GE131.out | refine below_set ?_ GE132.out | refine below_set ?_ GE140.out) | exact HB.out)⟩
              · rw [if_neg c15] at H
                have c15b0 : (t146 == (decide ((wrap32 (a0_2)) > (wrap32 (a0_3))))) = false := by simpa using c15
                (try (have c15b1 : decide (t146 = (decide ((wrap32 (a0_2)) > (wrap32 (a0_3))))) = false := by simpa using c15))
                (try (have c15b2 : (t146 == (decide ((wrap32 (a0_2)) > (wrap32 (a0_3))))) = false := by simpa using c15))
                (try (have c15b3 : ¬ (t146 = (decide ((wrap32 (a0_2)) > (wrap32 (a0_3))))) := by simpa using c15))
                clear c15
                obtain rfl := Option.some.inj H
                go_enter Try.func5, Try.ntmps5
                try go_wp2_with (first | ((with_reducible refine gate_dst (N := 1) rfl ?_); refine box_event ?hg (N := 1) ?hd (cs := #[.int .i64 a0_0, .bool a0_1, .int .u32 a0_2, .int .u32 a0_3, .int .u32 a0_4, .bool a0_5, .bool a0_6, .bool a0_7, .bool a0_8]) (t := 26) ?hr ?_; (case hd => rfl); (case hg => rfl); (case hr => first | (go_simp; done) | (go_simp; rfl)); intro gb131 hg w43 hbox hb; have n0_ := Aside0.mk (below_step (by repeat (first | (with_reducible first | exact HB.out | apply below_alloc | apply pw_below_drewN | apply below_drew1) | exact HB.out)) hb); have n1_ := Aside0.mk (hbox); have n2_ := Aside0.mk ((by rw [hg]; exact (below_size (by repeat (first | (with_reducible first | exact HB.out | apply below_alloc | apply pw_below_drewN | apply below_drew1) | exact HB.out))) : w.heap.size ≤ gb131)); have n3_ := Aside0.mk ((by rw [hg]; exact (below_size (by repeat (first | (with_reducible first | exact HB.out | apply below_alloc | apply pw_below_drewN | apply below_drew1) | exact HB.out))) : w.heap.size ≤ gb131)); clear HB; have HB := n0_; have BK131 := n1_; have GW131 := n2_; have GE131 := n3_; clear n0_ n1_ n2_ n3_; clear hb hbox hg))
                have n0_ := Aside0.mk (blk_drew BK131.out)
                have n1_ := Aside0.mk (below_drew1 HB.out)
                clear BK131
                clear HB
                have BK131 := n0_
                have HB := n1_
                clear n0_ n1_
                refine start_ (n := 13) (S := fun w' => w'.cell? ⟨gb131, 0, none⟩ = some (.int .i64 a0_0) ∧ w'.cell? ⟨gb131, 1, none⟩ = some (.bool a0_1) ∧ w'.cell? ⟨gb131, 2, none⟩ = some (.int .u32 a0_2) ∧ w'.cell? ⟨gb131, 3, none⟩ = some (.int .u32 a0_3) ∧ w'.cell? ⟨gb131, 4, none⟩ = some (.int .u32 a0_4) ∧ w'.cell? ⟨gb131, 5, none⟩ = some (.bool a0_5) ∧ w'.cell? ⟨gb131, 6, none⟩ = some (.bool a0_6) ∧ w'.cell? ⟨gb131, 7, none⟩ = some (.bool a0_7) ∧ w'.cell? ⟨gb131, 8, none⟩ = some (.bool a0_8)) (ds := []) #[false, false, false, false, false, false, false, false, false, false, false, false, false] (by kernel_rfl) rfl rfl ⟨(blk_cell BK131.out 0).trans rfl, (blk_cell BK131.out 1).trans rfl, (blk_cell BK131.out 2).trans rfl, (blk_cell BK131.out 3).trans rfl, (blk_cell BK131.out 4).trans rfl, (blk_cell BK131.out 5).trans rfl, (blk_cell BK131.out 6).trans rfl, (blk_cell BK131.out 7).trans rfl, (blk_cell BK131.out 8).trans rfl⟩ (fun hHeld => ?_); refine with_tabW spinetlaw03_AluCompares.tab1 spinetlaw03_AluCompares.bits1 (fun HT_ HW_ => ?_)
                generalize w43.drew = w44 at BK131 HB hHeld ⊢
                refine pure_ (i := 0) (N := some 13) (v := ?_) (a' := ?_) #[true, false, false, false, false, false, false, false, false, false, false, false, false] rfl rfl (any_of HT_.out (by kernel_rfl)) (fun _ _ _ h => h) (Or.inl ⟨by rfl, ?_⟩) ?_ ?_
                rotate_left
                · intro w'
                  go_simp
                  with_reducible rfl
                rotate_left
                · simp only [Act.put, List.setIfInBounds_toArray, List.set_cons_zero, List.set_cons_succ, i64_w, i32_w]
                  rfl
                refine pure_ (i := 2) (N := some 15) (v := ?_) (a' := ?_) #[true, false, true, false, false, false, false, false, false, false, false, false, false] rfl rfl (any_of HT_.out (by kernel_rfl)) (fun _ _ _ h => h) (Or.inl ⟨by rfl, ?_⟩) ?_ ?_
                rotate_left
                · intro w'
                  go_simp
                  with_reducible rfl
                rotate_left
                · simp only [Act.put, List.setIfInBounds_toArray, List.set_cons_zero, List.set_cons_succ, i64_w, i32_w]
                  rfl
                refine pure_ (i := 4) (N := some 17) (v := ?_) (a' := ?_) #[true, false, true, false, true, false, false, false, false, false, false, false, false] rfl rfl (any_of HT_.out (by kernel_rfl)) (fun _ _ _ h => h) (Or.inl ⟨by rfl, ?_⟩) ?_ ?_
                rotate_left
                · intro w'
                  go_simp
                  with_reducible rfl
                rotate_left
                · simp only [Act.put, List.setIfInBounds_toArray, List.set_cons_zero, List.set_cons_succ, i64_w, i32_w]
                  rfl
                refine pure_ (i := 6) (N := some 19) (v := ?_) (a' := ?_) #[true, false, true, false, true, false, true, false, false, false, false, false, false] rfl rfl (any_of HT_.out (by kernel_rfl)) (fun _ _ _ h => h) (Or.inl ⟨by rfl, ?_⟩) ?_ ?_
                rotate_left
                · intro w'
                  go_simp
                  with_reducible rfl
                rotate_left
                · simp only [Act.put, List.setIfInBounds_toArray, List.set_cons_zero, List.set_cons_succ, i64_w, i32_w]
                  rfl
                refine take_ (i := 1) (N := some 14) (v := ?_) (a' := ?_) #[true, true, true, false, true, false, true, false, false, false, false, false, false] rfl rfl (take_ofW HT_.out HW_.out (by kernel_rfl)) (fun _ _ _ h => h) (Or.inl ⟨by rfl, ?_⟩) hHeld ?_ ?_
                rotate_left
                · rintro w' ⟨s0, s1, s2, s3, s4, s5, s6, s7, s8⟩
                  go_simp
                  with_reducible rfl
                rotate_left
                · simp only [Act.put, List.setIfInBounds_toArray, List.set_cons_zero, List.set_cons_succ, i64_w, i32_w]
                  rfl
                refine take_ (i := 3) (N := some 16) (v := ?_) (a' := ?_) #[true, true, true, true, true, false, true, false, false, false, false, false, false] rfl rfl (take_ofW HT_.out HW_.out (by kernel_rfl)) (fun _ _ _ h => h) (Or.inl ⟨by rfl, ?_⟩) hHeld ?_ ?_
                rotate_left
                · rintro w' ⟨s0, s1, s2, s3, s4, s5, s6, s7, s8⟩
                  go_simp
                  with_reducible rfl
                rotate_left
                · simp only [Act.put, List.setIfInBounds_toArray, List.set_cons_zero, List.set_cons_succ, i64_w, i32_w]
                  rfl
                refine take_ (i := 5) (N := some 18) (v := ?_) (a' := ?_) #[true, true, true, true, true, true, true, false, false, false, false, false, false] rfl rfl (take_ofW HT_.out HW_.out (by kernel_rfl)) (fun _ _ _ h => h) (Or.inl ⟨by rfl, ?_⟩) hHeld ?_ ?_
                rotate_left
                · rintro w' ⟨s0, s1, s2, s3, s4, s5, s6, s7, s8⟩
                  go_simp
                  with_reducible rfl
                rotate_left
                · simp only [Act.put, List.setIfInBounds_toArray, List.set_cons_zero, List.set_cons_succ, i64_w, i32_w]
                  rfl
                refine take_ (i := 7) (N := some 20) (v := ?_) (a' := ?_) #[true, true, true, true, true, true, true, true, false, false, false, false, false] rfl rfl (take_ofW HT_.out HW_.out (by kernel_rfl)) (fun _ _ _ h => h) (Or.inl ⟨by rfl, ?_⟩) hHeld ?_ ?_
                rotate_left
                · rintro w' ⟨s0, s1, s2, s3, s4, s5, s6, s7, s8⟩
                  go_simp
                  with_reducible rfl
                rotate_left
                · simp only [Act.put, List.setIfInBounds_toArray, List.set_cons_zero, List.set_cons_succ, i64_w, i32_w]
                  rfl
                refine one_ (i := 8) (N := some 6) #[true, true, true, true, true, true, true, true, true, false, false, false, false] rfl rfl (one_of HT_.out (by kernel_rfl)) (by decide) (fun K hK => ?_)
                refine box_step ?hg (N := 6) ?hd (cs := #[.bool false, .bool false, .bool false, .bool false]) (t := 24) ?hr ?_; (case hd => rfl); (case hg => rfl); (case hr => first | (go_simp; done) | (go_simp; rfl))
                intro gb132 hg w45 hbox hb
                have n0_ := Aside0.mk (blk_below (g := gb131) (o := .cells #[.int .i64 a0_0, .bool a0_1, .int .u32 a0_2, .int .u32 a0_3, .int .u32 a0_4, .bool a0_5, .bool a0_6, .bool a0_7, .bool a0_8] 26 (0, 0)) (by (with_reducible repeat (first | refine blk_drewN ?_ _ | refine blk_drew ?_ | refine blk_alloc ?_ _)); exact BK131.out) hb)
                have n1_ := Aside0.mk (below_step (by repeat (first | (with_reducible first | exact HB.out | apply below_alloc | apply pw_below_drewN | apply below_drew1 | refine below_set ?_ GE131.out) | exact HB.out)) hb)
                have n2_ := Aside0.mk (hbox)
                have n3_ := Aside0.mk ((by rw [hg]; exact (below_size (by repeat (first | (with_reducible first | exact HB.out | apply below_alloc | apply pw_below_drewN | apply below_drew1 | refine below_set ?_ GE131.out) | exact HB.out))) : w.heap.size ≤ gb132))
                have n4_ := Aside0.mk ((by rw [hg]; exact (below_size (by repeat (first | (with_reducible first | exact HB.out | apply below_alloc | apply pw_below_drewN | apply below_drew1 | refine below_set ?_ GE131.out) | exact HB.out))) : w.heap.size ≤ gb132))
                have n5_ := Aside0.mk ((by rw [hg]; exact Nat.ne_of_lt (blk_lt (g := gb131) (o := .cells #[.int .i64 a0_0, .bool a0_1, .int .u32 a0_2, .int .u32 a0_3, .int .u32 a0_4, .bool a0_5, .bool a0_6, .bool a0_7, .bool a0_8] 26 (0, 0)) (by (with_reducible repeat (first | refine blk_drewN ?_ _ | refine blk_drew ?_ | refine blk_alloc ?_ _)); exact BK131.out)) : gb131 ≠ gb132))
                have n6_ := Aside0.mk ((by rw [hg]; exact Nat.ne_of_gt (blk_lt (g := gb131) (o := .cells #[.int .i64 a0_0, .bool a0_1, .int .u32 a0_2, .int .u32 a0_3, .int .u32 a0_4, .bool a0_5, .bool a0_6, .bool a0_7, .bool a0_8] 26 (0, 0)) (by (with_reducible repeat (first | refine blk_drewN ?_ _ | refine blk_drew ?_ | refine blk_alloc ?_ _)); exact BK131.out)) : gb132 ≠ gb131))
                clear BK131
                clear HB
                have BK131 := n0_
                have HB := n1_
                have BK132 := n2_
                have GW132 := n3_
                have GE132 := n4_
                have NB131_132 := n5_
                have NB132_131 := n6_
                clear n0_ n1_ n2_ n3_ n4_ n5_ n6_
                clear hb hbox hg
                refine hK.out _ _ ⟨(blk_cell BK131.out 0).trans rfl, (blk_cell BK131.out 1).trans rfl, (blk_cell BK131.out 2).trans rfl, (blk_cell BK131.out 3).trans rfl, (blk_cell BK131.out 4).trans rfl, (blk_cell BK131.out 5).trans rfl, (blk_cell BK131.out 6).trans rfl, (blk_cell BK131.out 7).trans rfl, (blk_cell BK131.out 8).trans rfl⟩ (fun hHeld => ?_)
                clear hK K
                refine norm_ (a' := ?_) ?_ ?_
                rotate_left
                · show Act.put _ (some 6) _ = _
                  simp only [Act.put, List.setIfInBounds_toArray, List.set_cons_zero, List.set_cons_succ, i64_w, i32_w]
                  rfl
                refine pure_ (i := 9) (N := some 3) (v := ?_) (a' := ?_) #[true, true, true, true, true, true, true, true, true, true, false, false, false] rfl rfl (any_of HT_.out (by kernel_rfl)) (fun _ _ _ h => h) (Or.inl ⟨by rfl, ?_⟩) ?_ ?_
                rotate_left
                · intro w'
                  go_simp
                  with_reducible rfl
                rotate_left
                · simp only [Act.put, List.setIfInBounds_toArray, List.set_cons_zero, List.set_cons_succ, i64_w, i32_w]
                  rfl
                refine pure_ (i := 10) (N := some 4) (v := ?_) (a' := ?_) #[true, true, true, true, true, true, true, true, true, true, true, false, false] rfl rfl (any_of HT_.out (by kernel_rfl)) (fun _ _ _ h => h) (Or.inl ⟨by rfl, ?_⟩) ?_ ?_
                rotate_left
                · intro w'
                  go_simp
                  with_reducible rfl
                rotate_left
                · simp only [Act.put, List.setIfInBounds_toArray, List.set_cons_zero, List.set_cons_succ, i64_w, i32_w]
                  rfl
                refine pure_ (i := 11) (N := some 5) (v := ?_) (a' := ?_) #[true, true, true, true, true, true, true, true, true, true, true, true, false] rfl rfl (any_of HT_.out (by kernel_rfl)) (fun _ _ _ h => h) (Or.inl ⟨by rfl, ?_⟩) ?_ ?_
                rotate_left
                · intro w'
                  go_simp
                  with_reducible rfl
                rotate_left
                · simp only [Act.put, List.setIfInBounds_toArray, List.set_cons_zero, List.set_cons_succ, i64_w, i32_w]
                  rfl
                refine one_ (i := 12) (N := none) #[true, true, true, true, true, true, true, true, true, true, true, true, true] rfl rfl (one_of HT_.out (by kernel_rfl)) (by decide) (fun K hK => ?_)
                have hs46 : w45.cell? ⟨gb132, 0, none⟩ = some (.bool false) := (blk_cell BK132.out 0).trans rfl
                have hfs46 := blk_frozen BK132.out 0
                have hns46_0 := NB131_132.out
                have hms46_0 := NB132_131.out
                have hs47 : w45.cell? ⟨gb132, 1, none⟩ = some (.bool false) := (blk_cell BK132.out 1).trans rfl
                have hfs47 := blk_frozen BK132.out 1
                have hns47_0 := NB131_132.out
                have hms47_0 := NB132_131.out
                have hs48 : w45.cell? ⟨gb132, 2, none⟩ = some (.bool false) := (blk_cell BK132.out 2).trans rfl
                have hfs48 := blk_frozen BK132.out 2
                have hns48_0 := NB131_132.out
                have hms48_0 := NB132_131.out
                have hs49 : w45.cell? ⟨gb132, 3, none⟩ = some (.bool false) := (blk_cell BK132.out 3).trans rfl
                have hfs49 := blk_frozen BK132.out 3
                have hns49_0 := NB131_132.out
                have hms49_0 := NB132_131.out
                refine skip_ (w1 := ?_) (by rfl) rfl ?_ ?_
                rotate_left
                · go_simp
                  rfl
                refine hK.out _ _ ⟨((cell_far (p := ⟨gb132, _, none⟩) NB131_132.out _).trans (((cell_far (p := ⟨gb132, _, none⟩) NB131_132.out _).trans (((cell_far (p := ⟨gb132, _, none⟩) NB131_132.out _).trans (((cell_far (p := ⟨gb132, _, none⟩) NB131_132.out _).trans (hHeld.1)))))))), ((cell_far (p := ⟨gb132, _, none⟩) NB131_132.out _).trans (((cell_far (p := ⟨gb132, _, none⟩) NB131_132.out _).trans (((cell_far (p := ⟨gb132, _, none⟩) NB131_132.out _).trans (((cell_far (p := ⟨gb132, _, none⟩) NB131_132.out _).trans (hHeld.2.1)))))))), ((cell_far (p := ⟨gb132, _, none⟩) NB131_132.out _).trans (((cell_far (p := ⟨gb132, _, none⟩) NB131_132.out _).trans (((cell_far (p := ⟨gb132, _, none⟩) NB131_132.out _).trans (((cell_far (p := ⟨gb132, _, none⟩) NB131_132.out _).trans (hHeld.2.2.1)))))))), ((cell_far (p := ⟨gb132, _, none⟩) NB131_132.out _).trans (((cell_far (p := ⟨gb132, _, none⟩) NB131_132.out _).trans (((cell_far (p := ⟨gb132, _, none⟩) NB131_132.out _).trans (((cell_far (p := ⟨gb132, _, none⟩) NB131_132.out _).trans (hHeld.2.2.2.1)))))))), ((cell_far (p := ⟨gb132, _, none⟩) NB131_132.out _).trans (((cell_far (p := ⟨gb132, _, none⟩) NB131_132.out _).trans (((cell_far (p := ⟨gb132, _, none⟩) NB131_132.out _).trans (((cell_far (p := ⟨gb132, _, none⟩) NB131_132.out _).trans (hHeld.2.2.2.2.1)))))))), ((cell_far (p := ⟨gb132, _, none⟩) NB131_132.out _).trans (((cell_far (p := ⟨gb132, _, none⟩) NB131_132.out _).trans (((cell_far (p := ⟨gb132, _, none⟩) NB131_132.out _).trans (((cell_far (p := ⟨gb132, _, none⟩) NB131_132.out _).trans (hHeld.2.2.2.2.2.1)))))))), ((cell_far (p := ⟨gb132, _, none⟩) NB131_132.out _).trans (((cell_far (p := ⟨gb132, _, none⟩) NB131_132.out _).trans (((cell_far (p := ⟨gb132, _, none⟩) NB131_132.out _).trans (((cell_far (p := ⟨gb132, _, none⟩) NB131_132.out _).trans (hHeld.2.2.2.2.2.2.1)))))))), ((cell_far (p := ⟨gb132, _, none⟩) NB131_132.out _).trans (((cell_far (p := ⟨gb132, _, none⟩) NB131_132.out _).trans (((cell_far (p := ⟨gb132, _, none⟩) NB131_132.out _).trans (((cell_far (p := ⟨gb132, _, none⟩) NB131_132.out _).trans (hHeld.2.2.2.2.2.2.2.1)))))))), ((cell_far (p := ⟨gb132, _, none⟩) NB131_132.out _).trans (((cell_far (p := ⟨gb132, _, none⟩) NB131_132.out _).trans (((cell_far (p := ⟨gb132, _, none⟩) NB131_132.out _).trans (((cell_far (p := ⟨gb132, _, none⟩) NB131_132.out _).trans (hHeld.2.2.2.2.2.2.2.2))))))))⟩ (fun hHeld => ?_)
                clear hK K
                refine done_ (done_of HT_.out (by kernel_rfl)) ?_
                have hnb50 := NB132_131.out
                have hnc50 := NB131_132.out
                have hcz51_0 : w45.cell? ⟨gb132, 0, none⟩ = some (.bool false) := (blk_cell BK132.out 0).trans rfl
                have hcz51_1 : w45.cell? ⟨gb132, 1, none⟩ = some (.bool false) := (blk_cell BK132.out 1).trans rfl
                have hcz51_2 : w45.cell? ⟨gb132, 2, none⟩ = some (.bool false) := (blk_cell BK132.out 2).trans rfl
                have hcz51_3 : w45.cell? ⟨gb132, 3, none⟩ = some (.bool false) := (blk_cell BK132.out 3).trans rfl
                have hfz51_0 := blk_frozen BK132.out 0
                have hfz51_1 := blk_frozen BK132.out 1
                have hfz51_2 := blk_frozen BK132.out 2
                have hfz51_3 := blk_frozen BK132.out 3
                try go_wp2_with (first | ((with_reducible refine gate_callee (f := 9) rfl ?_); refine goesL_ (some 26) rfl rfl Try.func9 (by kernel_rfl) rfl #[.int .i64 9, .bool false, .int .u32 a0_2, .int .u32 a0_3, .int .u32 a0_4, .agg #[.bool a0_5, .bool a0_6, .bool a0_7, .bool a0_8]] rfl (by (try simp only [List.map_toArray, List.map_cons, List.map_nil]); first | done | rfl | (simp only [List.length_drop, List.length_take]; rfl)) ?_; (with_reducible refine (alu_Do.calls k 9 false a0_2 a0_3 a0_4 a0_5 a0_6 a0_7 a0_8 t133 t134 t135 t136 t137 t138 true _ A2.out).mono ?_); rintro e w52 ⟨rfl, hb⟩; refine ⟨_, rfl, ?_⟩; have n0_ := Aside0.mk (blk_below (g := gb131) (o := .cells #[.int .i64 a0_0, .bool a0_1, .int .u32 a0_2, .int .u32 a0_3, .int .u32 a0_4, .bool a0_5, .bool a0_6, .bool a0_7, .bool a0_8] 26 (0, 0)) (by (with_reducible repeat (first | refine blk_drewN ?_ _ | refine blk_drew ?_ | refine blk_alloc ?_ _)); refine blk_far ?_ NB131_132.out _; (with_reducible repeat (first | refine blk_drewN ?_ _ | refine blk_drew ?_ | refine blk_alloc ?_ _)); refine blk_far ?_ NB131_132.out _; (with_reducible repeat (first | refine blk_drewN ?_ _ | refine blk_drew ?_ | refine blk_alloc ?_ _)); refine blk_far ?_ NB131_132.out _; (with_reducible repeat (first | refine blk_drewN ?_ _ | refine blk_drew ?_ | refine blk_alloc ?_ _)); refine blk_far ?_ NB131_132.out _; (with_reducible repeat (first | refine blk_drewN ?_ _ | refine blk_drew ?_ | refine blk_alloc ?_ _)); exact BK131.out) hb); have n1_ := Aside0.mk (blk_below (g := gb132) (o := .cells #[.bool a0_5, .bool a0_6, .bool a0_7, .bool a0_8] 24 (0, 0)) (by (with_reducible repeat (first | refine blk_drewN ?_ _ | refine blk_drew ?_ | refine blk_alloc ?_ _)); refine blk_put (cs := #[.bool a0_5, .bool a0_6, .bool a0_7, .bool false]) ?_ 3 _ rfl; (with_reducible repeat (first | refine blk_drewN ?_ _ | refine blk_drew ?_ | refine blk_alloc ?_ _)); refine blk_put (cs := #[.bool a0_5, .bool a0_6, .bool false, .bool false]) ?_ 2 _ rfl; (with_reducible repeat (first | refine blk_drewN ?_ _ | refine blk_drew ?_ | refine blk_alloc ?_ _)); refine blk_put (cs := #[.bool a0_5, .bool false, .bool false, .bool false]) ?_ 1 _ rfl; (with_reducible repeat (first | refine blk_drewN ?_ _ | refine blk_drew ?_ | refine blk_alloc ?_ _)); refine blk_put (cs := #[.bool false, .bool false, .bool false, .bool false]) ?_ 0 _ rfl; (with_reducible repeat (first | refine blk_drewN ?_ _ | refine blk_drew ?_ | refine blk_alloc ?_ _)); exact BK132.out) hb); have n2_ := Aside0.mk (below_step (by repeat (first | (with_reducible first | exact HB.out | apply below_alloc | apply pw_below_drewN | apply below_drew1 | refine below_set ?_ GE131.out | refine below_set ?_ GE132.out) | exact HB.out)) hb); clear BK131; clear BK132; clear HB; have BK131 := n0_; have BK132 := n1_; have HB := n2_; clear n0_ n1_ n2_; (try clear hb); (try clear hb2); (try clear hk); (try clear hi)) | ((with_reducible refine gate_dst (N := 9) rfl ?_); refine box_event ?hg (N := 9) ?hd (cs := #[.bool false, .bool false, .bool false, .bool false]) (t := 24) ?hr ?_; (case hd => rfl); (case hg => rfl); (case hr => first | (go_simp; done) | (go_simp; rfl)); intro gb140 hg w53 hbox hb; have n0_ := Aside0.mk (blk_below (g := gb131) (o := .cells #[.int .i64 a0_0, .bool a0_1, .int .u32 a0_2, .int .u32 a0_3, .int .u32 a0_4, .bool a0_5, .bool a0_6, .bool a0_7, .bool a0_8] 26 (0, 0)) (by (with_reducible repeat (first | refine blk_drewN ?_ _ | refine blk_drew ?_ | refine blk_alloc ?_ _)); exact BK131.out) hb); have n1_ := Aside0.mk (blk_below (g := gb132) (o := .cells #[.bool a0_5, .bool a0_6, .bool a0_7, .bool a0_8] 24 (0, 0)) (by (with_reducible repeat (first | refine blk_drewN ?_ _ | refine blk_drew ?_ | refine blk_alloc ?_ _)); exact BK132.out) hb); have n2_ := Aside0.mk (below_step (by repeat (first | (with_reducible first | exact HB.out | apply below_alloc | apply pw_below_drewN | apply below_drew1 | refine below_set ?_ GE131.out | refine below_set ?_ GE132.out) | exact HB.out)) hb); have n3_ := Aside0.mk (hbox); have n4_ := Aside0.mk ((by rw [hg]; exact (below_size (by repeat (first | (with_reducible first | exact HB.out | apply below_alloc | apply pw_below_drewN | apply below_drew1 | refine below_set ?_ GE131.out | refine below_set ?_ GE132.out) | exact HB.out))) : w.heap.size ≤ gb140)); have n5_ := Aside0.mk ((by rw [hg]; exact (below_size (by repeat (first | (with_reducible first | exact HB.out | apply below_alloc | apply pw_below_drewN | apply below_drew1 | refine below_set ?_ GE131.out | refine below_set ?_ GE132.out) | exact HB.out))) : w.heap.size ≤ gb140)); have n6_ := Aside0.mk ((by rw [hg]; exact Nat.ne_of_lt (blk_lt (g := gb131) (o := .cells #[.int .i64 a0_0, .bool a0_1, .int .u32 a0_2, .int .u32 a0_3, .int .u32 a0_4, .bool a0_5, .bool a0_6, .bool a0_7, .bool a0_8] 26 (0, 0)) (by (with_reducible repeat (first | refine blk_drewN ?_ _ | refine blk_drew ?_ | refine blk_alloc ?_ _)); exact BK131.out)) : gb131 ≠ gb140)); have n7_ := Aside0.mk ((by rw [hg]; exact Nat.ne_of_gt (blk_lt (g := gb131) (o := .cells #[.int .i64 a0_0, .bool a0_1, .int .u32 a0_2, .int .u32 a0_3, .int .u32 a0_4, .bool a0_5, .bool a0_6, .bool a0_7, .bool a0_8] 26 (0, 0)) (by (with_reducible repeat (first | refine blk_drewN ?_ _ | refine blk_drew ?_ | refine blk_alloc ?_ _)); exact BK131.out)) : gb140 ≠ gb131)); have n8_ := Aside0.mk ((by rw [hg]; exact Nat.ne_of_lt (blk_lt (g := gb132) (o := .cells #[.bool a0_5, .bool a0_6, .bool a0_7, .bool a0_8] 24 (0, 0)) (by (with_reducible repeat (first | refine blk_drewN ?_ _ | refine blk_drew ?_ | refine blk_alloc ?_ _)); exact BK132.out)) : gb132 ≠ gb140)); have n9_ := Aside0.mk ((by rw [hg]; exact Nat.ne_of_gt (blk_lt (g := gb132) (o := .cells #[.bool a0_5, .bool a0_6, .bool a0_7, .bool a0_8] 24 (0, 0)) (by (with_reducible repeat (first | refine blk_drewN ?_ _ | refine blk_drew ?_ | refine blk_alloc ?_ _)); exact BK132.out)) : gb140 ≠ gb132)); clear BK131; clear BK132; clear HB; have BK131 := n0_; have BK132 := n1_; have HB := n2_; have BK140 := n3_; have GW140 := n4_; have GE140 := n5_; have NB131_140 := n6_; have NB140_131 := n7_; have NB132_140 := n8_; have NB140_132 := n9_; clear n0_ n1_ n2_ n3_ n4_ n5_ n6_ n7_ n8_ n9_; clear hb hbox hg; have hnb54 := NB140_131.out; have hnc54 := NB131_140.out; have hnb55 := NB140_132.out; have hnc55 := NB132_140.out; have hcz56_0 : w53.cell? ⟨gb140, 0, none⟩ = some (.bool false) := (blk_cell BK140.out 0).trans rfl; have hcz56_1 : w53.cell? ⟨gb140, 1, none⟩ = some (.bool false) := (blk_cell BK140.out 1).trans rfl; have hcz56_2 : w53.cell? ⟨gb140, 2, none⟩ = some (.bool false) := (blk_cell BK140.out 2).trans rfl; have hcz56_3 : w53.cell? ⟨gb140, 3, none⟩ = some (.bool false) := (blk_cell BK140.out 3).trans rfl; have hfz56_0 := blk_frozen BK140.out 0; have hfz56_1 := blk_frozen BK140.out 1; have hfz56_2 := blk_frozen BK140.out 2; have hfz56_3 := blk_frozen BK140.out 3) | (go_at_call 13; (with_reducible refine (alu_Holds.calls k 5 t135 t136 t137 t138 t141 _ A4.out).mono ?_); rintro e w57 ⟨rfl, hb⟩; have n0_ := Aside0.mk (blk_below (g := gb131) (o := .cells #[.int .i64 a0_0, .bool a0_1, .int .u32 a0_2, .int .u32 a0_3, .int .u32 a0_4, .bool a0_5, .bool a0_6, .bool a0_7, .bool a0_8] 26 (0, 0)) (by (with_reducible repeat (first | refine blk_drewN ?_ _ | refine blk_drew ?_ | refine blk_alloc ?_ _)); refine blk_far ?_ NB131_140.out _; (with_reducible repeat (first | refine blk_drewN ?_ _ | refine blk_drew ?_ | refine blk_alloc ?_ _)); refine blk_far ?_ NB131_140.out _; (with_reducible repeat (first | refine blk_drewN ?_ _ | refine blk_drew ?_ | refine blk_alloc ?_ _)); refine blk_far ?_ NB131_140.out _; (with_reducible repeat (first | refine blk_drewN ?_ _ | refine blk_drew ?_ | refine blk_alloc ?_ _)); refine blk_far ?_ NB131_140.out _; (with_reducible repeat (first | refine blk_drewN ?_ _ | refine blk_drew ?_ | refine blk_alloc ?_ _)); exact BK131.out) hb); have n1_ := Aside0.mk (blk_below (g := gb132) (o := .cells #[.bool a0_5, .bool a0_6, .bool a0_7, .bool a0_8] 24 (0, 0)) (by (with_reducible repeat (first | refine blk_drewN ?_ _ | refine blk_drew ?_ | refine blk_alloc ?_ _)); refine blk_far ?_ NB132_140.out _; (with_reducible repeat (first | refine blk_drewN ?_ _ | refine blk_drew ?_ | refine blk_alloc ?_ _)); refine blk_far ?_ NB132_140.out _; (with_reducible repeat (first | refine blk_drewN ?_ _ | refine blk_drew ?_ | refine blk_alloc ?_ _)); refine blk_far ?_ NB132_140.out _; (with_reducible repeat (first | refine blk_drewN ?_ _ | refine blk_drew ?_ | refine blk_alloc ?_ _)); refine blk_far ?_ NB132_140.out _; (with_reducible repeat (first | refine blk_drewN ?_ _ | refine blk_drew ?_ | refine blk_alloc ?_ _)); exact BK132.out) hb); have n2_ := Aside0.mk (blk_below (g := gb140) (o := .cells #[.bool t135, .bool t136, .bool t137, .bool t138] 24 (0, 0)) (by (with_reducible repeat (first | refine blk_drewN ?_ _ | refine blk_drew ?_ | refine blk_alloc ?_ _)); refine blk_put (cs := #[.bool t135, .bool t136, .bool t137, .bool false]) ?_ 3 _ rfl; (with_reducible repeat (first | refine blk_drewN ?_ _ | refine blk_drew ?_ | refine blk_alloc ?_ _)); refine blk_put (cs := #[.bool t135, .bool t136, .bool false, .bool false]) ?_ 2 _ rfl; (with_reducible repeat (first | refine blk_drewN ?_ _ | refine blk_drew ?_ | refine blk_alloc ?_ _)); refine blk_put (cs := #[.bool t135, .bool false, .bool false, .bool false]) ?_ 1 _ rfl; (with_reducible repeat (first | refine blk_drewN ?_ _ | refine blk_drew ?_ | refine blk_alloc ?_ _)); refine blk_put (cs := #[.bool false, .bool false, .bool false, .bool false]) ?_ 0 _ rfl; (with_reducible repeat (first | refine blk_drewN ?_ _ | refine blk_drew ?_ | refine blk_alloc ?_ _)); exact BK140.out) hb); have n3_ := Aside0.mk (below_step (by repeat (first | (with_reducible first | exact HB.out | apply below_alloc | apply pw_below_drewN | apply below_drew1 | refine below_set ?_ GE131.out | refine below_set ?_ GE132.out | refine below_set ?_ GE140.out) | exact HB.out)) hb); clear BK131; clear BK132; clear BK140; clear HB; have BK131 := n0_; have BK132 := n1_; have BK140 := n2_; have HB := n3_; clear n0_ n1_ n2_ n3_; (try clear hb); (try clear hb2); (try clear hk); (try clear hi); have hcz58_0 : w57.cell? ⟨gb140, 0, none⟩ = some (.bool t135) := (blk_cell BK140.out 0).trans rfl; have hcz58_1 : w57.cell? ⟨gb140, 1, none⟩ = some (.bool t136) := (blk_cell BK140.out 1).trans rfl; have hcz58_2 : w57.cell? ⟨gb140, 2, none⟩ = some (.bool t137) := (blk_cell BK140.out 2).trans rfl; have hcz58_3 : w57.cell? ⟨gb140, 3, none⟩ = some (.bool t138) := (blk_cell BK140.out 3).trans rfl; have hfz58_0 := blk_frozen BK140.out 0; have hfz58_1 := blk_frozen BK140.out 1; have hfz58_2 := blk_frozen BK140.out 2; have hfz58_3 := blk_frozen BK140.out 3) | (go_at_call 13; (with_reducible refine (alu_Holds.calls k 2 t135 t136 t137 t138 t142 _ A6.out).mono ?_); rintro e w59 ⟨rfl, hb⟩; have n0_ := Aside0.mk (blk_below (g := gb131) (o := .cells #[.int .i64 a0_0, .bool a0_1, .int .u32 a0_2, .int .u32 a0_3, .int .u32 a0_4, .bool a0_5, .bool a0_6, .bool a0_7, .bool a0_8] 26 (0, 0)) (by (with_reducible repeat (first | refine blk_drewN ?_ _ | refine blk_drew ?_ | refine blk_alloc ?_ _)); exact BK131.out) hb); have n1_ := Aside0.mk (blk_below (g := gb132) (o := .cells #[.bool a0_5, .bool a0_6, .bool a0_7, .bool a0_8] 24 (0, 0)) (by (with_reducible repeat (first | refine blk_drewN ?_ _ | refine blk_drew ?_ | refine blk_alloc ?_ _)); exact BK132.out) hb); have n2_ := Aside0.mk (blk_below (g := gb140) (o := .cells #[.bool t135, .bool t136, .bool t137, .bool t138] 24 (0, 0)) (by (with_reducible repeat (first | refine blk_drewN ?_ _ | refine blk_drew ?_ | refine blk_alloc ?_ _)); exact BK140.out) hb); have n3_ := Aside0.mk (below_step (by repeat (first | (with_reducible first | exact HB.out | apply below_alloc | apply pw_below_drewN | apply below_drew1 | refine below_set ?_ GE131.out | refine below_set ?_ GE132.out | refine below_set ?_ GE140.out) | exact HB.out)) hb); clear BK131; clear BK132; clear BK140; clear HB; have BK131 := n0_; have BK132 := n1_; have BK140 := n2_; have HB := n3_; clear n0_ n1_ n2_ n3_; (try clear hb); (try clear hb2); (try clear hk); (try clear hi); have hcz60_0 : w59.cell? ⟨gb140, 0, none⟩ = some (.bool t135) := (blk_cell BK140.out 0).trans rfl; have hcz60_1 : w59.cell? ⟨gb140, 1, none⟩ = some (.bool t136) := (blk_cell BK140.out 1).trans rfl; have hcz60_2 : w59.cell? ⟨gb140, 2, none⟩ = some (.bool t137) := (blk_cell BK140.out 2).trans rfl; have hcz60_3 : w59.cell? ⟨gb140, 3, none⟩ = some (.bool t138) := (blk_cell BK140.out 3).trans rfl; have hfz60_0 := blk_frozen BK140.out 0; have hfz60_1 := blk_frozen BK140.out 1; have hfz60_2 := blk_frozen BK140.out 2; have hfz60_3 := blk_frozen BK140.out 3) | (go_at_call 13; (with_reducible refine (alu_Holds.calls k 1 t135 t136 t137 t138 t143 _ A8.out).mono ?_); rintro e w61 ⟨rfl, hb⟩; have n0_ := Aside0.mk (blk_below (g := gb131) (o := .cells #[.int .i64 a0_0, .bool a0_1, .int .u32 a0_2, .int .u32 a0_3, .int .u32 a0_4, .bool a0_5, .bool a0_6, .bool a0_7, .bool a0_8] 26 (0, 0)) (by (with_reducible repeat (first | refine blk_drewN ?_ _ | refine blk_drew ?_ | refine blk_alloc ?_ _)); exact BK131.out) hb); have n1_ := Aside0.mk (blk_below (g := gb132) (o := .cells #[.bool a0_5, .bool a0_6, .bool a0_7, .bool a0_8] 24 (0, 0)) (by (with_reducible repeat (first | refine blk_drewN ?_ _ | refine blk_drew ?_ | refine blk_alloc ?_ _)); exact BK132.out) hb); have n2_ := Aside0.mk (blk_below (g := gb140) (o := .cells #[.bool t135, .bool t136, .bool t137, .bool t138] 24 (0, 0)) (by (with_reducible repeat (first | refine blk_drewN ?_ _ | refine blk_drew ?_ | refine blk_alloc ?_ _)); exact BK140.out) hb); have n3_ := Aside0.mk (below_step (by repeat (first | (with_reducible first | exact HB.out | apply below_alloc | apply pw_below_drewN | apply below_drew1 | refine below_set ?_ GE131.out | refine below_set ?_ GE132.out | refine below_set ?_ GE140.out) | exact HB.out)) hb); clear BK131; clear BK132; clear BK140; clear HB; have BK131 := n0_; have BK132 := n1_; have BK140 := n2_; have HB := n3_; clear n0_ n1_ n2_ n3_; (try clear hb); (try clear hb2); (try clear hk); (try clear hi); have hcz62_0 : w61.cell? ⟨gb140, 0, none⟩ = some (.bool t135) := (blk_cell BK140.out 0).trans rfl; have hcz62_1 : w61.cell? ⟨gb140, 1, none⟩ = some (.bool t136) := (blk_cell BK140.out 1).trans rfl; have hcz62_2 : w61.cell? ⟨gb140, 2, none⟩ = some (.bool t137) := (blk_cell BK140.out 2).trans rfl; have hcz62_3 : w61.cell? ⟨gb140, 3, none⟩ = some (.bool t138) := (blk_cell BK140.out 3).trans rfl; have hfz62_0 := blk_frozen BK140.out 0; have hfz62_1 := blk_frozen BK140.out 1; have hfz62_2 := blk_frozen BK140.out 2; have hfz62_3 := blk_frozen BK140.out 3) | (go_at_call 13; (with_reducible refine (alu_Holds.calls k 6 t135 t136 t137 t138 t144 _ A10.out).mono ?_); rintro e w63 ⟨rfl, hb⟩; have n0_ := Aside0.mk (blk_below (g := gb131) (o := .cells #[.int .i64 a0_0, .bool a0_1, .int .u32 a0_2, .int .u32 a0_3, .int .u32 a0_4, .bool a0_5, .bool a0_6, .bool a0_7, .bool a0_8] 26 (0, 0)) (by (with_reducible repeat (first | refine blk_drewN ?_ _ | refine blk_drew ?_ | refine blk_alloc ?_ _)); exact BK131.out) hb); have n1_ := Aside0.mk (blk_below (g := gb132) (o := .cells #[.bool a0_5, .bool a0_6, .bool a0_7, .bool a0_8] 24 (0, 0)) (by (with_reducible repeat (first | refine blk_drewN ?_ _ | refine blk_drew ?_ | refine blk_alloc ?_ _)); exact BK132.out) hb); have n2_ := Aside0.mk (blk_below (g := gb140) (o := .cells #[.bool t135, .bool t136, .bool t137, .bool t138] 24 (0, 0)) (by (with_reducible repeat (first | refine blk_drewN ?_ _ | refine blk_drew ?_ | refine blk_alloc ?_ _)); exact BK140.out) hb); have n3_ := Aside0.mk (below_step (by repeat (first | (with_reducible first | exact HB.out | apply below_alloc | apply pw_below_drewN | apply below_drew1 | refine below_set ?_ GE131.out | refine below_set ?_ GE132.out | refine below_set ?_ GE140.out) | exact HB.out)) hb); clear BK131; clear BK132; clear BK140; clear HB; have BK131 := n0_; have BK132 := n1_; have BK140 := n2_; have HB := n3_; clear n0_ n1_ n2_ n3_; (try clear hb); (try clear hb2); (try clear hk); (try clear hi); have hcz64_0 : w63.cell? ⟨gb140, 0, none⟩ = some (.bool t135) := (blk_cell BK140.out 0).trans rfl; have hcz64_1 : w63.cell? ⟨gb140, 1, none⟩ = some (.bool t136) := (blk_cell BK140.out 1).trans rfl; have hcz64_2 : w63.cell? ⟨gb140, 2, none⟩ = some (.bool t137) := (blk_cell BK140.out 2).trans rfl; have hcz64_3 : w63.cell? ⟨gb140, 3, none⟩ = some (.bool t138) := (blk_cell BK140.out 3).trans rfl; have hfz64_0 := blk_frozen BK140.out 0; have hfz64_1 := blk_frozen BK140.out 1; have hfz64_2 := blk_frozen BK140.out 2; have hfz64_3 := blk_frozen BK140.out 3) | (go_at_call 13; (with_reducible refine (alu_Holds.calls k 4 t135 t136 t137 t138 t145 _ A12.out).mono ?_); rintro e w65 ⟨rfl, hb⟩; have n0_ := Aside0.mk (blk_below (g := gb131) (o := .cells #[.int .i64 a0_0, .bool a0_1, .int .u32 a0_2, .int .u32 a0_3, .int .u32 a0_4, .bool a0_5, .bool a0_6, .bool a0_7, .bool a0_8] 26 (0, 0)) (by (with_reducible repeat (first | refine blk_drewN ?_ _ | refine blk_drew ?_ | refine blk_alloc ?_ _)); exact BK131.out) hb); have n1_ := Aside0.mk (blk_below (g := gb132) (o := .cells #[.bool a0_5, .bool a0_6, .bool a0_7, .bool a0_8] 24 (0, 0)) (by (with_reducible repeat (first | refine blk_drewN ?_ _ | refine blk_drew ?_ | refine blk_alloc ?_ _)); exact BK132.out) hb); have n2_ := Aside0.mk (blk_below (g := gb140) (o := .cells #[.bool t135, .bool t136, .bool t137, .bool t138] 24 (0, 0)) (by (with_reducible repeat (first | refine blk_drewN ?_ _ | refine blk_drew ?_ | refine blk_alloc ?_ _)); exact BK140.out) hb); have n3_ := Aside0.mk (below_step (by repeat (first | (with_reducible first | exact HB.out | apply below_alloc | apply pw_below_drewN | apply below_drew1 | refine below_set ?_ GE131.out | refine below_set ?_ GE132.out | refine below_set ?_ GE140.out) | exact HB.out)) hb); clear BK131; clear BK132; clear BK140; clear HB; have BK131 := n0_; have BK132 := n1_; have BK140 := n2_; have HB := n3_; clear n0_ n1_ n2_ n3_; (try clear hb); (try clear hb2); (try clear hk); (try clear hi); have hcz66_0 : w65.cell? ⟨gb140, 0, none⟩ = some (.bool t135) := (blk_cell BK140.out 0).trans rfl; have hcz66_1 : w65.cell? ⟨gb140, 1, none⟩ = some (.bool t136) := (blk_cell BK140.out 1).trans rfl; have hcz66_2 : w65.cell? ⟨gb140, 2, none⟩ = some (.bool t137) := (blk_cell BK140.out 2).trans rfl; have hcz66_3 : w65.cell? ⟨gb140, 3, none⟩ = some (.bool t138) := (blk_cell BK140.out 3).trans rfl; have hfz66_0 := blk_frozen BK140.out 0; have hfz66_1 := blk_frozen BK140.out 1; have hfz66_2 := blk_frozen BK140.out 2; have hfz66_3 := blk_frozen BK140.out 3) | (go_at_call 13; (with_reducible refine (alu_Holds.calls k 14 t135 t136 t137 t138 t146 _ A14.out).mono ?_); rintro e w67 ⟨rfl, hb⟩; have n0_ := Aside0.mk (blk_below (g := gb131) (o := .cells #[.int .i64 a0_0, .bool a0_1, .int .u32 a0_2, .int .u32 a0_3, .int .u32 a0_4, .bool a0_5, .bool a0_6, .bool a0_7, .bool a0_8] 26 (0, 0)) (by (with_reducible repeat (first | refine blk_drewN ?_ _ | refine blk_drew ?_ | refine blk_alloc ?_ _)); exact BK131.out) hb); have n1_ := Aside0.mk (blk_below (g := gb132) (o := .cells #[.bool a0_5, .bool a0_6, .bool a0_7, .bool a0_8] 24 (0, 0)) (by (with_reducible repeat (first | refine blk_drewN ?_ _ | refine blk_drew ?_ | refine blk_alloc ?_ _)); exact BK132.out) hb); have n2_ := Aside0.mk (blk_below (g := gb140) (o := .cells #[.bool t135, .bool t136, .bool t137, .bool t138] 24 (0, 0)) (by (with_reducible repeat (first | refine blk_drewN ?_ _ | refine blk_drew ?_ | refine blk_alloc ?_ _)); exact BK140.out) hb); have n3_ := Aside0.mk (below_step (by repeat (first | (with_reducible first | exact HB.out | apply below_alloc | apply pw_below_drewN | apply below_drew1 | refine below_set ?_ GE131.out | refine below_set ?_ GE132.out | refine below_set ?_ GE140.out) | exact HB.out)) hb); clear BK131; clear BK132; clear BK140; clear HB; have BK131 := n0_; have BK132 := n1_; have BK140 := n2_; have HB := n3_; clear n0_ n1_ n2_ n3_; (try clear hb); (try clear hb2); (try clear hk); (try clear hi)))
                go_ret
                exact ⟨by first | rfl | (simp [errW_none, errW_some] <;> rfl) | (simp [*, errW_none, errW_some] <;> rfl), by repeat (first | (with_reducible first | exact HB.out | apply below_alloc | apply pw_below_drewN | apply below_drew1 | refine below_set ?_ GE131.out | refine below_set ?_ GE132.out | refine below_set ?_ GE140.out) | exact HB.out)⟩
            · rw [if_neg c13] at H
              have c13b0 : (t145 == (decide (a0_2 ≤ a0_3))) = false := by simpa using c13
              (try (have c13b1 : decide (t145 = (decide (a0_2 ≤ a0_3))) = false := by simpa using c13))
              (try (have c13b2 : (t145 == (decide (a0_2 ≤ a0_3))) = false := by simpa using c13))
              (try (have c13b3 : ¬ (t145 = (decide (a0_2 ≤ a0_3))) := by simpa using c13))
              clear c13
              obtain rfl := Option.some.inj H
              go_enter Try.func5, Try.ntmps5
              try go_wp2_with (first | ((with_reducible refine gate_dst (N := 1) rfl ?_); refine box_event ?hg (N := 1) ?hd (cs := #[.int .i64 a0_0, .bool a0_1, .int .u32 a0_2, .int .u32 a0_3, .int .u32 a0_4, .bool a0_5, .bool a0_6, .bool a0_7, .bool a0_8]) (t := 26) ?hr ?_; (case hd => rfl); (case hg => rfl); (case hr => first | (go_simp; done) | (go_simp; rfl)); intro gb131 hg w68 hbox hb; have n0_ := Aside0.mk (below_step (by repeat (first | (with_reducible first | exact HB.out | apply below_alloc | apply pw_below_drewN | apply below_drew1) | exact HB.out)) hb); have n1_ := Aside0.mk (hbox); have n2_ := Aside0.mk ((by rw [hg]; exact (below_size (by repeat (first | (with_reducible first | exact HB.out | apply below_alloc | apply pw_below_drewN | apply below_drew1) | exact HB.out))) : w.heap.size ≤ gb131)); have n3_ := Aside0.mk ((by rw [hg]; exact (below_size (by repeat (first | (with_reducible first | exact HB.out | apply below_alloc | apply pw_below_drewN | apply below_drew1) | exact HB.out))) : w.heap.size ≤ gb131)); clear HB; have HB := n0_; have BK131 := n1_; have GW131 := n2_; have GE131 := n3_; clear n0_ n1_ n2_ n3_; clear hb hbox hg))
              have n0_ := Aside0.mk (blk_drew BK131.out)
              have n1_ := Aside0.mk (below_drew1 HB.out)
              clear BK131
              clear HB
              have BK131 := n0_
              have HB := n1_
              clear n0_ n1_
              refine start_ (n := 13) (S := fun w' => w'.cell? ⟨gb131, 0, none⟩ = some (.int .i64 a0_0) ∧ w'.cell? ⟨gb131, 1, none⟩ = some (.bool a0_1) ∧ w'.cell? ⟨gb131, 2, none⟩ = some (.int .u32 a0_2) ∧ w'.cell? ⟨gb131, 3, none⟩ = some (.int .u32 a0_3) ∧ w'.cell? ⟨gb131, 4, none⟩ = some (.int .u32 a0_4) ∧ w'.cell? ⟨gb131, 5, none⟩ = some (.bool a0_5) ∧ w'.cell? ⟨gb131, 6, none⟩ = some (.bool a0_6) ∧ w'.cell? ⟨gb131, 7, none⟩ = some (.bool a0_7) ∧ w'.cell? ⟨gb131, 8, none⟩ = some (.bool a0_8)) (ds := []) #[false, false, false, false, false, false, false, false, false, false, false, false, false] (by kernel_rfl) rfl rfl ⟨(blk_cell BK131.out 0).trans rfl, (blk_cell BK131.out 1).trans rfl, (blk_cell BK131.out 2).trans rfl, (blk_cell BK131.out 3).trans rfl, (blk_cell BK131.out 4).trans rfl, (blk_cell BK131.out 5).trans rfl, (blk_cell BK131.out 6).trans rfl, (blk_cell BK131.out 7).trans rfl, (blk_cell BK131.out 8).trans rfl⟩ (fun hHeld => ?_); refine with_tabW spinetlaw03_AluCompares.tab1 spinetlaw03_AluCompares.bits1 (fun HT_ HW_ => ?_)
              generalize w68.drew = w69 at BK131 HB hHeld ⊢
              refine pure_ (i := 0) (N := some 13) (v := ?_) (a' := ?_) #[true, false, false, false, false, false, false, false, false, false, false, false, false] rfl rfl (any_of HT_.out (by kernel_rfl)) (fun _ _ _ h => h) (Or.inl ⟨by rfl, ?_⟩) ?_ ?_
              rotate_left
              · intro w'
                go_simp
                with_reducible rfl
              rotate_left
              · simp only [Act.put, List.setIfInBounds_toArray, List.set_cons_zero, List.set_cons_succ, i64_w, i32_w]
                rfl
              refine pure_ (i := 2) (N := some 15) (v := ?_) (a' := ?_) #[true, false, true, false, false, false, false, false, false, false, false, false, false] rfl rfl (any_of HT_.out (by kernel_rfl)) (fun _ _ _ h => h) (Or.inl ⟨by rfl, ?_⟩) ?_ ?_
              rotate_left
              · intro w'
                go_simp
                with_reducible rfl
              rotate_left
              · simp only [Act.put, List.setIfInBounds_toArray, List.set_cons_zero, List.set_cons_succ, i64_w, i32_w]
                rfl
              refine pure_ (i := 4) (N := some 17) (v := ?_) (a' := ?_) #[true, false, true, false, true, false, false, false, false, false, false, false, false] rfl rfl (any_of HT_.out (by kernel_rfl)) (fun _ _ _ h => h) (Or.inl ⟨by rfl, ?_⟩) ?_ ?_
              rotate_left
              · intro w'
                go_simp
                with_reducible rfl
              rotate_left
              · simp only [Act.put, List.setIfInBounds_toArray, List.set_cons_zero, List.set_cons_succ, i64_w, i32_w]
                rfl
              refine pure_ (i := 6) (N := some 19) (v := ?_) (a' := ?_) #[true, false, true, false, true, false, true, false, false, false, false, false, false] rfl rfl (any_of HT_.out (by kernel_rfl)) (fun _ _ _ h => h) (Or.inl ⟨by rfl, ?_⟩) ?_ ?_
              rotate_left
              · intro w'
                go_simp
                with_reducible rfl
              rotate_left
              · simp only [Act.put, List.setIfInBounds_toArray, List.set_cons_zero, List.set_cons_succ, i64_w, i32_w]
                rfl
              refine take_ (i := 1) (N := some 14) (v := ?_) (a' := ?_) #[true, true, true, false, true, false, true, false, false, false, false, false, false] rfl rfl (take_ofW HT_.out HW_.out (by kernel_rfl)) (fun _ _ _ h => h) (Or.inl ⟨by rfl, ?_⟩) hHeld ?_ ?_
              rotate_left
              · rintro w' ⟨s0, s1, s2, s3, s4, s5, s6, s7, s8⟩
                go_simp
                with_reducible rfl
              rotate_left
              · simp only [Act.put, List.setIfInBounds_toArray, List.set_cons_zero, List.set_cons_succ, i64_w, i32_w]
                rfl
              refine take_ (i := 3) (N := some 16) (v := ?_) (a' := ?_) #[true, true, true, true, true, false, true, false, false, false, false, false, false] rfl rfl (take_ofW HT_.out HW_.out (by kernel_rfl)) (fun _ _ _ h => h) (Or.inl ⟨by rfl, ?_⟩) hHeld ?_ ?_
              rotate_left
              · rintro w' ⟨s0, s1, s2, s3, s4, s5, s6, s7, s8⟩
                go_simp
                with_reducible rfl
              rotate_left
              · simp only [Act.put, List.setIfInBounds_toArray, List.set_cons_zero, List.set_cons_succ, i64_w, i32_w]
                rfl
              refine take_ (i := 5) (N := some 18) (v := ?_) (a' := ?_) #[true, true, true, true, true, true, true, false, false, false, false, false, false] rfl rfl (take_ofW HT_.out HW_.out (by kernel_rfl)) (fun _ _ _ h => h) (Or.inl ⟨by rfl, ?_⟩) hHeld ?_ ?_
              rotate_left
              · rintro w' ⟨s0, s1, s2, s3, s4, s5, s6, s7, s8⟩
                go_simp
                with_reducible rfl
              rotate_left
              · simp only [Act.put, List.setIfInBounds_toArray, List.set_cons_zero, List.set_cons_succ, i64_w, i32_w]
                rfl
              refine take_ (i := 7) (N := some 20) (v := ?_) (a' := ?_) #[true, true, true, true, true, true, true, true, false, false, false, false, false] rfl rfl (take_ofW HT_.out HW_.out (by kernel_rfl)) (fun _ _ _ h => h) (Or.inl ⟨by rfl, ?_⟩) hHeld ?_ ?_
              rotate_left
              · rintro w' ⟨s0, s1, s2, s3, s4, s5, s6, s7, s8⟩
                go_simp
                with_reducible rfl
              rotate_left
              · simp only [Act.put, List.setIfInBounds_toArray, List.set_cons_zero, List.set_cons_succ, i64_w, i32_w]
                rfl
              refine one_ (i := 8) (N := some 6) #[true, true, true, true, true, true, true, true, true, false, false, false, false] rfl rfl (one_of HT_.out (by kernel_rfl)) (by decide) (fun K hK => ?_)
              refine box_step ?hg (N := 6) ?hd (cs := #[.bool false, .bool false, .bool false, .bool false]) (t := 24) ?hr ?_; (case hd => rfl); (case hg => rfl); (case hr => first | (go_simp; done) | (go_simp; rfl))
              intro gb132 hg w70 hbox hb
              have n0_ := Aside0.mk (blk_below (g := gb131) (o := .cells #[.int .i64 a0_0, .bool a0_1, .int .u32 a0_2, .int .u32 a0_3, .int .u32 a0_4, .bool a0_5, .bool a0_6, .bool a0_7, .bool a0_8] 26 (0, 0)) (by (with_reducible repeat (first | refine blk_drewN ?_ _ | refine blk_drew ?_ | refine blk_alloc ?_ _)); exact BK131.out) hb)
              have n1_ := Aside0.mk (below_step (by repeat (first | (with_reducible first | exact HB.out | apply below_alloc | apply pw_below_drewN | apply below_drew1 | refine below_set ?_ GE131.out) | exact HB.out)) hb)
              have n2_ := Aside0.mk (hbox)
              have n3_ := Aside0.mk ((by rw [hg]; exact (below_size (by repeat (first | (with_reducible first | exact HB.out | apply below_alloc | apply pw_below_drewN | apply below_drew1 | refine below_set ?_ GE131.out) | exact HB.out))) : w.heap.size ≤ gb132))
              have n4_ := Aside0.mk ((by rw [hg]; exact (below_size (by repeat (first | (with_reducible first | exact HB.out | apply below_alloc | apply pw_below_drewN | apply below_drew1 | refine below_set ?_ GE131.out) | exact HB.out))) : w.heap.size ≤ gb132))
              have n5_ := Aside0.mk ((by rw [hg]; exact Nat.ne_of_lt (blk_lt (g := gb131) (o := .cells #[.int .i64 a0_0, .bool a0_1, .int .u32 a0_2, .int .u32 a0_3, .int .u32 a0_4, .bool a0_5, .bool a0_6, .bool a0_7, .bool a0_8] 26 (0, 0)) (by (with_reducible repeat (first | refine blk_drewN ?_ _ | refine blk_drew ?_ | refine blk_alloc ?_ _)); exact BK131.out)) : gb131 ≠ gb132))
              have n6_ := Aside0.mk ((by rw [hg]; exact Nat.ne_of_gt (blk_lt (g := gb131) (o := .cells #[.int .i64 a0_0, .bool a0_1, .int .u32 a0_2, .int .u32 a0_3, .int .u32 a0_4, .bool a0_5, .bool a0_6, .bool a0_7, .bool a0_8] 26 (0, 0)) (by (with_reducible repeat (first | refine blk_drewN ?_ _ | refine blk_drew ?_ | refine blk_alloc ?_ _)); exact BK131.out)) : gb132 ≠ gb131))
              clear BK131
              clear HB
              have BK131 := n0_
              have HB := n1_
              have BK132 := n2_
              have GW132 := n3_
              have GE132 := n4_
              have NB131_132 := n5_
              have NB132_131 := n6_
              clear n0_ n1_ n2_ n3_ n4_ n5_ n6_
              clear hb hbox hg
              refine hK.out _ _ ⟨(blk_cell BK131.out 0).trans rfl, (blk_cell BK131.out 1).trans rfl, (blk_cell BK131.out 2).trans rfl, (blk_cell BK131.out 3).trans rfl, (blk_cell BK131.out 4).trans rfl, (blk_cell BK131.out 5).trans rfl, (blk_cell BK131.out 6).trans rfl, (blk_cell BK131.out 7).trans rfl, (blk_cell BK131.out 8).trans rfl⟩ (fun hHeld => ?_)
              clear hK K
              refine norm_ (a' := ?_) ?_ ?_
              rotate_left
              · show Act.put _ (some 6) _ = _
                simp only [Act.put, List.setIfInBounds_toArray, List.set_cons_zero, List.set_cons_succ, i64_w, i32_w]
                rfl
              refine pure_ (i := 9) (N := some 3) (v := ?_) (a' := ?_) #[true, true, true, true, true, true, true, true, true, true, false, false, false] rfl rfl (any_of HT_.out (by kernel_rfl)) (fun _ _ _ h => h) (Or.inl ⟨by rfl, ?_⟩) ?_ ?_
              rotate_left
              · intro w'
                go_simp
                with_reducible rfl
              rotate_left
              · simp only [Act.put, List.setIfInBounds_toArray, List.set_cons_zero, List.set_cons_succ, i64_w, i32_w]
                rfl
              refine pure_ (i := 10) (N := some 4) (v := ?_) (a' := ?_) #[true, true, true, true, true, true, true, true, true, true, true, false, false] rfl rfl (any_of HT_.out (by kernel_rfl)) (fun _ _ _ h => h) (Or.inl ⟨by rfl, ?_⟩) ?_ ?_
              rotate_left
              · intro w'
                go_simp
                with_reducible rfl
              rotate_left
              · simp only [Act.put, List.setIfInBounds_toArray, List.set_cons_zero, List.set_cons_succ, i64_w, i32_w]
                rfl
              refine pure_ (i := 11) (N := some 5) (v := ?_) (a' := ?_) #[true, true, true, true, true, true, true, true, true, true, true, true, false] rfl rfl (any_of HT_.out (by kernel_rfl)) (fun _ _ _ h => h) (Or.inl ⟨by rfl, ?_⟩) ?_ ?_
              rotate_left
              · intro w'
                go_simp
                with_reducible rfl
              rotate_left
              · simp only [Act.put, List.setIfInBounds_toArray, List.set_cons_zero, List.set_cons_succ, i64_w, i32_w]
                rfl
              refine one_ (i := 12) (N := none) #[true, true, true, true, true, true, true, true, true, true, true, true, true] rfl rfl (one_of HT_.out (by kernel_rfl)) (by decide) (fun K hK => ?_)
              have hs71 : w70.cell? ⟨gb132, 0, none⟩ = some (.bool false) := (blk_cell BK132.out 0).trans rfl
              have hfs71 := blk_frozen BK132.out 0
              have hns71_0 := NB131_132.out
              have hms71_0 := NB132_131.out
              have hs72 : w70.cell? ⟨gb132, 1, none⟩ = some (.bool false) := (blk_cell BK132.out 1).trans rfl
              have hfs72 := blk_frozen BK132.out 1
              have hns72_0 := NB131_132.out
              have hms72_0 := NB132_131.out
              have hs73 : w70.cell? ⟨gb132, 2, none⟩ = some (.bool false) := (blk_cell BK132.out 2).trans rfl
              have hfs73 := blk_frozen BK132.out 2
              have hns73_0 := NB131_132.out
              have hms73_0 := NB132_131.out
              have hs74 : w70.cell? ⟨gb132, 3, none⟩ = some (.bool false) := (blk_cell BK132.out 3).trans rfl
              have hfs74 := blk_frozen BK132.out 3
              have hns74_0 := NB131_132.out
              have hms74_0 := NB132_131.out
              refine skip_ (w1 := ?_) (by rfl) rfl ?_ ?_
              rotate_left
              · go_simp
                rfl
              refine hK.out _ _ ⟨((cell_far (p := ⟨gb132, _, none⟩) NB131_132.out _).trans (((cell_far (p := ⟨gb132, _, none⟩) NB131_132.out _).trans (((cell_far (p := ⟨gb132, _, none⟩) NB131_132.out _).trans (((cell_far (p := ⟨gb132, _, none⟩) NB131_132.out _).trans (hHeld.1)))))))), ((cell_far (p := ⟨gb132, _, none⟩) NB131_132.out _).trans (((cell_far (p := ⟨gb132, _, none⟩) NB131_132.out _).trans (((cell_far (p := ⟨gb132, _, none⟩) NB131_132.out _).trans (((cell_far (p := ⟨gb132, _, none⟩) NB131_132.out _).trans (hHeld.2.1)))))))), ((cell_far (p := ⟨gb132, _, none⟩) NB131_132.out _).trans (((cell_far (p := ⟨gb132, _, none⟩) NB131_132.out _).trans (((cell_far (p := ⟨gb132, _, none⟩) NB131_132.out _).trans (((cell_far (p := ⟨gb132, _, none⟩) NB131_132.out _).trans (hHeld.2.2.1)))))))), ((cell_far (p := ⟨gb132, _, none⟩) NB131_132.out _).trans (((cell_far (p := ⟨gb132, _, none⟩) NB131_132.out _).trans (((cell_far (p := ⟨gb132, _, none⟩) NB131_132.out _).trans (((cell_far (p := ⟨gb132, _, none⟩) NB131_132.out _).trans (hHeld.2.2.2.1)))))))), ((cell_far (p := ⟨gb132, _, none⟩) NB131_132.out _).trans (((cell_far (p := ⟨gb132, _, none⟩) NB131_132.out _).trans (((cell_far (p := ⟨gb132, _, none⟩) NB131_132.out _).trans (((cell_far (p := ⟨gb132, _, none⟩) NB131_132.out _).trans (hHeld.2.2.2.2.1)))))))), ((cell_far (p := ⟨gb132, _, none⟩) NB131_132.out _).trans (((cell_far (p := ⟨gb132, _, none⟩) NB131_132.out _).trans (((cell_far (p := ⟨gb132, _, none⟩) NB131_132.out _).trans (((cell_far (p := ⟨gb132, _, none⟩) NB131_132.out _).trans (hHeld.2.2.2.2.2.1)))))))), ((cell_far (p := ⟨gb132, _, none⟩) NB131_132.out _).trans (((cell_far (p := ⟨gb132, _, none⟩) NB131_132.out _).trans (((cell_far (p := ⟨gb132, _, none⟩) NB131_132.out _).trans (((cell_far (p := ⟨gb132, _, none⟩) NB131_132.out _).trans (hHeld.2.2.2.2.2.2.1)))))))), ((cell_far (p := ⟨gb132, _, none⟩) NB131_132.out _).trans (((cell_far (p := ⟨gb132, _, none⟩) NB131_132.out _).trans (((cell_far (p := ⟨gb132, _, none⟩) NB131_132.out _).trans (((cell_far (p := ⟨gb132, _, none⟩) NB131_132.out _).trans (hHeld.2.2.2.2.2.2.2.1)))))))), ((cell_far (p := ⟨gb132, _, none⟩) NB131_132.out _).trans (((cell_far (p := ⟨gb132, _, none⟩) NB131_132.out _).trans (((cell_far (p := ⟨gb132, _, none⟩) NB131_132.out _).trans (((cell_far (p := ⟨gb132, _, none⟩) NB131_132.out _).trans (hHeld.2.2.2.2.2.2.2.2))))))))⟩ (fun hHeld => ?_)
              clear hK K
              refine done_ (done_of HT_.out (by kernel_rfl)) ?_
              have hnb75 := NB132_131.out
              have hnc75 := NB131_132.out
              have hcz76_0 : w70.cell? ⟨gb132, 0, none⟩ = some (.bool false) := (blk_cell BK132.out 0).trans rfl
              have hcz76_1 : w70.cell? ⟨gb132, 1, none⟩ = some (.bool false) := (blk_cell BK132.out 1).trans rfl
              have hcz76_2 : w70.cell? ⟨gb132, 2, none⟩ = some (.bool false) := (blk_cell BK132.out 2).trans rfl
              have hcz76_3 : w70.cell? ⟨gb132, 3, none⟩ = some (.bool false) := (blk_cell BK132.out 3).trans rfl
              have hfz76_0 := blk_frozen BK132.out 0
              have hfz76_1 := blk_frozen BK132.out 1
              have hfz76_2 := blk_frozen BK132.out 2
              have hfz76_3 := blk_frozen BK132.out 3
              try go_wp2_with (first | ((with_reducible refine gate_callee (f := 9) rfl ?_); refine goesL_ (some 26) rfl rfl Try.func9 (by kernel_rfl) rfl #[.int .i64 9, .bool false, .int .u32 a0_2, .int .u32 a0_3, .int .u32 a0_4, .agg #[.bool a0_5, .bool a0_6, .bool a0_7, .bool a0_8]] rfl (by (try simp only [List.map_toArray, List.map_cons, List.map_nil]); first | done | rfl | (simp only [List.length_drop, List.length_take]; rfl)) ?_; (with_reducible refine (alu_Do.calls k 9 false a0_2 a0_3 a0_4 a0_5 a0_6 a0_7 a0_8 t133 t134 t135 t136 t137 t138 true _ A2.out).mono ?_); rintro e w77 ⟨rfl, hb⟩; refine ⟨_, rfl, ?_⟩; have n0_ := Aside0.mk (blk_below (g := gb131) (o := .cells #[.int .i64 a0_0, .bool a0_1, .int .u32 a0_2, .int .u32 a0_3, .int .u32 a0_4, .bool a0_5, .bool a0_6, .bool a0_7, .bool a0_8] 26 (0, 0)) (by (with_reducible repeat (first | refine blk_drewN ?_ _ | refine blk_drew ?_ | refine blk_alloc ?_ _)); refine blk_far ?_ NB131_132.out _; (with_reducible repeat (first | refine blk_drewN ?_ _ | refine blk_drew ?_ | refine blk_alloc ?_ _)); refine blk_far ?_ NB131_132.out _; (with_reducible repeat (first | refine blk_drewN ?_ _ | refine blk_drew ?_ | refine blk_alloc ?_ _)); refine blk_far ?_ NB131_132.out _; (with_reducible repeat (first | refine blk_drewN ?_ _ | refine blk_drew ?_ | refine blk_alloc ?_ _)); refine blk_far ?_ NB131_132.out _; (with_reducible repeat (first | refine blk_drewN ?_ _ | refine blk_drew ?_ | refine blk_alloc ?_ _)); exact BK131.out) hb); have n1_ := Aside0.mk (blk_below (g := gb132) (o := .cells #[.bool a0_5, .bool a0_6, .bool a0_7, .bool a0_8] 24 (0, 0)) (by (with_reducible repeat (first | refine blk_drewN ?_ _ | refine blk_drew ?_ | refine blk_alloc ?_ _)); refine blk_put (cs := #[.bool a0_5, .bool a0_6, .bool a0_7, .bool false]) ?_ 3 _ rfl; (with_reducible repeat (first | refine blk_drewN ?_ _ | refine blk_drew ?_ | refine blk_alloc ?_ _)); refine blk_put (cs := #[.bool a0_5, .bool a0_6, .bool false, .bool false]) ?_ 2 _ rfl; (with_reducible repeat (first | refine blk_drewN ?_ _ | refine blk_drew ?_ | refine blk_alloc ?_ _)); refine blk_put (cs := #[.bool a0_5, .bool false, .bool false, .bool false]) ?_ 1 _ rfl; (with_reducible repeat (first | refine blk_drewN ?_ _ | refine blk_drew ?_ | refine blk_alloc ?_ _)); refine blk_put (cs := #[.bool false, .bool false, .bool false, .bool false]) ?_ 0 _ rfl; (with_reducible repeat (first | refine blk_drewN ?_ _ | refine blk_drew ?_ | refine blk_alloc ?_ _)); exact BK132.out) hb); have n2_ := Aside0.mk (below_step (by repeat (first | (with_reducible first | exact HB.out | apply below_alloc | apply pw_below_drewN | apply below_drew1 | refine below_set ?_ GE131.out | refine below_set ?_ GE132.out) | exact HB.out)) hb); clear BK131; clear BK132; clear HB; have BK131 := n0_; have BK132 := n1_; have HB := n2_; clear n0_ n1_ n2_; (try clear hb); (try clear hb2); (try clear hk); (try clear hi)) | ((with_reducible refine gate_dst (N := 9) rfl ?_); refine box_event ?hg (N := 9) ?hd (cs := #[.bool false, .bool false, .bool false, .bool false]) (t := 24) ?hr ?_; (case hd => rfl); (case hg => rfl); (case hr => first | (go_simp; done) | (go_simp; rfl)); intro gb140 hg w78 hbox hb; have n0_ := Aside0.mk (blk_below (g := gb131) (o := .cells #[.int .i64 a0_0, .bool a0_1, .int .u32 a0_2, .int .u32 a0_3, .int .u32 a0_4, .bool a0_5, .bool a0_6, .bool a0_7, .bool a0_8] 26 (0, 0)) (by (with_reducible repeat (first | refine blk_drewN ?_ _ | refine blk_drew ?_ | refine blk_alloc ?_ _)); exact BK131.out) hb); have n1_ := Aside0.mk (blk_below (g := gb132) (o := .cells #[.bool a0_5, .bool a0_6, .bool a0_7, .bool a0_8] 24 (0, 0)) (by (with_reducible repeat (first | refine blk_drewN ?_ _ | refine blk_drew ?_ | refine blk_alloc ?_ _)); exact BK132.out) hb); have n2_ := Aside0.mk (below_step (by repeat (first | (with_reducible first | exact HB.out | apply below_alloc | apply pw_below_drewN | apply below_drew1 | refine below_set ?_ GE131.out | refine below_set ?_ GE132.out) | exact HB.out)) hb); have n3_ := Aside0.mk (hbox); have n4_ := Aside0.mk ((by rw [hg]; exact (below_size (by repeat (first | (with_reducible first | exact HB.out | apply below_alloc | apply pw_below_drewN | apply below_drew1 | refine below_set ?_ GE131.out | refine below_set ?_ GE132.out) | exact HB.out))) : w.heap.size ≤ gb140)); have n5_ := Aside0.mk ((by rw [hg]; exact (below_size (by repeat (first | (with_reducible first | exact HB.out | apply below_alloc | apply pw_below_drewN | apply below_drew1 | refine below_set ?_ GE131.out | refine below_set ?_ GE132.out) | exact HB.out))) : w.heap.size ≤ gb140)); have n6_ := Aside0.mk ((by rw [hg]; exact Nat.ne_of_lt (blk_lt (g := gb131) (o := .cells #[.int .i64 a0_0, .bool a0_1, .int .u32 a0_2, .int .u32 a0_3, .int .u32 a0_4, .bool a0_5, .bool a0_6, .bool a0_7, .bool a0_8] 26 (0, 0)) (by (with_reducible repeat (first | refine blk_drewN ?_ _ | refine blk_drew ?_ | refine blk_alloc ?_ _)); exact BK131.out)) : gb131 ≠ gb140)); have n7_ := Aside0.mk ((by rw [hg]; exact Nat.ne_of_gt (blk_lt (g := gb131) (o := .cells #[.int .i64 a0_0, .bool a0_1, .int .u32 a0_2, .int .u32 a0_3, .int .u32 a0_4, .bool a0_5, .bool a0_6, .bool a0_7, .bool a0_8] 26 (0, 0)) (by (with_reducible repeat (first | refine blk_drewN ?_ _ | refine blk_drew ?_ | refine blk_alloc ?_ _)); exact BK131.out)) : gb140 ≠ gb131)); have n8_ := Aside0.mk ((by rw [hg]; exact Nat.ne_of_lt (blk_lt (g := gb132) (o := .cells #[.bool a0_5, .bool a0_6, .bool a0_7, .bool a0_8] 24 (0, 0)) (by (with_reducible repeat (first | refine blk_drewN ?_ _ | refine blk_drew ?_ | refine blk_alloc ?_ _)); exact BK132.out)) : gb132 ≠ gb140)); have n9_ := Aside0.mk ((by rw [hg]; exact Nat.ne_of_gt (blk_lt (g := gb132) (o := .cells #[.bool a0_5, .bool a0_6, .bool a0_7, .bool a0_8] 24 (0, 0)) (by (with_reducible repeat (first | refine blk_drewN ?_ _ | refine blk_drew ?_ | refine blk_alloc ?_ _)); exact BK132.out)) : gb140 ≠ gb132)); clear BK131; clear BK132; clear HB; have BK131 := n0_; have BK132 := n1_; have HB := n2_; have BK140 := n3_; have GW140 := n4_; have GE140 := n5_; have NB131_140 := n6_; have NB140_131 := n7_; have NB132_140 := n8_; have NB140_132 := n9_; clear n0_ n1_ n2_ n3_ n4_ n5_ n6_ n7_ n8_ n9_; clear hb hbox hg; have hnb79 := NB140_131.out; have hnc79 := NB131_140.out; have hnb80 := NB140_132.out; have hnc80 := NB132_140.out; have hcz81_0 : w78.cell? ⟨gb140, 0, none⟩ = some (.bool false) := (blk_cell BK140.out 0).trans rfl; have hcz81_1 : w78.cell? ⟨gb140, 1, none⟩ = some (.bool false) := (blk_cell BK140.out 1).trans rfl; have hcz81_2 : w78.cell? ⟨gb140, 2, none⟩ = some (.bool false) := (blk_cell BK140.out 2).trans rfl; have hcz81_3 : w78.cell? ⟨gb140, 3, none⟩ = some (.bool false) := (blk_cell BK140.out 3).trans rfl; have hfz81_0 := blk_frozen BK140.out 0; have hfz81_1 := blk_frozen BK140.out 1; have hfz81_2 := blk_frozen BK140.out 2; have hfz81_3 := blk_frozen BK140.out 3) | (go_at_call 13; (with_reducible refine (alu_Holds.calls k 5 t135 t136 t137 t138 t141 _ A4.out).mono ?_); rintro e w82 ⟨rfl, hb⟩; have n0_ := Aside0.mk (blk_below (g := gb131) (o := .cells #[.int .i64 a0_0, .bool a0_1, .int .u32 a0_2, .int .u32 a0_3, .int .u32 a0_4, .bool a0_5, .bool a0_6, .bool a0_7, .bool a0_8] 26 (0, 0)) (by (with_reducible repeat (first | refine blk_drewN ?_ _ | refine blk_drew ?_ | refine blk_alloc ?_ _)); refine blk_far ?_ NB131_140.out _; (with_reducible repeat (first | refine blk_drewN ?_ _ | refine blk_drew ?_ | refine blk_alloc ?_ _)); refine blk_far ?_ NB131_140.out _; (with_reducible repeat (first | refine blk_drewN ?_ _ | refine blk_drew ?_ | refine blk_alloc ?_ _)); refine blk_far ?_ NB131_140.out _; (with_reducible repeat (first | refine blk_drewN ?_ _ | refine blk_drew ?_ | refine blk_alloc ?_ _)); refine blk_far ?_ NB131_140.out _; (with_reducible repeat (first | refine blk_drewN ?_ _ | refine blk_drew ?_ | refine blk_alloc ?_ _)); exact BK131.out) hb); have n1_ := Aside0.mk (blk_below (g := gb132) (o := .cells #[.bool a0_5, .bool a0_6, .bool a0_7, .bool a0_8] 24 (0, 0)) (by (with_reducible repeat (first | refine blk_drewN ?_ _ | refine blk_drew ?_ | refine blk_alloc ?_ _)); refine blk_far ?_ NB132_140.out _; (with_reducible repeat (first | refine blk_drewN ?_ _ | refine blk_drew ?_ | refine blk_alloc ?_ _)); refine blk_far ?_ NB132_140.out _; (with_reducible repeat (first | refine blk_drewN ?_ _ | refine blk_drew ?_ | refine blk_alloc ?_ _)); refine blk_far ?_ NB132_140.out _; (with_reducible repeat (first | refine blk_drewN ?_ _ | refine blk_drew ?_ | refine blk_alloc ?_ _)); refine blk_far ?_ NB132_140.out _; (with_reducible repeat (first | refine blk_drewN ?_ _ | refine blk_drew ?_ | refine blk_alloc ?_ _)); exact BK132.out) hb); have n2_ := Aside0.mk (blk_below (g := gb140) (o := .cells #[.bool t135, .bool t136, .bool t137, .bool t138] 24 (0, 0)) (by (with_reducible repeat (first | refine blk_drewN ?_ _ | refine blk_drew ?_ | refine blk_alloc ?_ _)); refine blk_put (cs := #[.bool t135, .bool t136, .bool t137, .bool false]) ?_ 3 _ rfl; (with_reducible repeat (first | refine blk_drewN ?_ _ | refine blk_drew ?_ | refine blk_alloc ?_ _)); refine blk_put (cs := #[.bool t135, .bool t136, .bool false, .bool false]) ?_ 2 _ rfl; (with_reducible repeat (first | refine blk_drewN ?_ _ | refine blk_drew ?_ | refine blk_alloc ?_ _)); refine blk_put (cs := #[.bool t135, .bool false, .bool false, .bool false]) ?_ 1 _ rfl; (with_reducible repeat (first | refine blk_drewN ?_ _ | refine blk_drew ?_ | refine blk_alloc ?_ _)); refine blk_put (cs := #[.bool false, .bool false, .bool false, .bool false]) ?_ 0 _ rfl; (with_reducible repeat (first | refine blk_drewN ?_ _ | refine blk_drew ?_ | refine blk_alloc ?_ _)); exact BK140.out) hb); have n3_ := Aside0.mk (below_step (by repeat (first | (with_reducible first | exact HB.out | apply below_alloc | apply pw_below_drewN | apply below_drew1 | refine below_set ?_ GE131.out | refine below_set ?_ GE132.out | refine below_set ?_ GE140.out) | exact HB.out)) hb); clear BK131; clear BK132; clear BK140; clear HB; have BK131 := n0_; have BK132 := n1_; have BK140 := n2_; have HB := n3_; clear n0_ n1_ n2_ n3_; (try clear hb); (try clear hb2); (try clear hk); (try clear hi); have hcz83_0 : w82.cell? ⟨gb140, 0, none⟩ = some (.bool t135) := (blk_cell BK140.out 0).trans rfl; have hcz83_1 : w82.cell? ⟨gb140, 1, none⟩ = some (.bool t136) := (blk_cell BK140.out 1).trans rfl; have hcz83_2 : w82.cell? ⟨gb140, 2, none⟩ = some (.bool t137) := (blk_cell BK140.out 2).trans rfl; have hcz83_3 : w82.cell? ⟨gb140, 3, none⟩ = some (.bool t138) := (blk_cell BK140.out 3).trans rfl; have hfz83_0 := blk_frozen BK140.out 0; have hfz83_1 := blk_frozen BK140.out 1; have hfz83_2 := blk_frozen BK140.out 2; have hfz83_3 := blk_frozen BK140.out 3) | (go_at_call 13; (with_reducible refine (alu_Holds.calls k 2 t135 t136 t137 t138 t142 _ A6.out).mono ?_); rintro e w84 ⟨rfl, hb⟩; have n0_ := Aside0.mk (blk_below (g := gb131) (o := .cells #[.int .i64 a0_0, .bool a0_1, .int .u32 a0_2, .int .u32 a0_3, .int .u32 a0_4, .bool a0_5, .bool a0_6, .bool a0_7, .bool a0_8] 26 (0, 0)) (by (with_reducible repeat (first | refine blk_drewN ?_ _ | refine blk_drew ?_ | refine blk_alloc ?_ _)); exact BK131.out) hb); have n1_ := Aside0.mk (blk_below (g := gb132) (o := .cells #[.bool a0_5, .bool a0_6, .bool a0_7, .bool a0_8] 24 (0, 0)) (by (with_reducible repeat (first | refine blk_drewN ?_ _ | refine blk_drew ?_ | refine blk_alloc ?_ _)); exact BK132.out) hb); have n2_ := Aside0.mk (blk_below (g := gb140) (o := .cells #[.bool t135, .bool t136, .bool t137, .bool t138] 24 (0, 0)) (by (with_reducible repeat (first | refine blk_drewN ?_ _ | refine blk_drew ?_ | refine blk_alloc ?_ _)); exact BK140.out) hb); have n3_ := Aside0.mk (below_step (by repeat (first | (with_reducible first | exact HB.out | apply below_alloc | apply pw_below_drewN | apply below_drew1 | refine below_set ?_ GE131.out | refine below_set ?_ GE132.out | refine below_set ?_ GE140.out) | exact HB.out)) hb); clear BK131; clear BK132; clear BK140; clear HB; have BK131 := n0_; have BK132 := n1_; have BK140 := n2_; have HB := n3_; clear n0_ n1_ n2_ n3_; (try clear hb); (try clear hb2); (try clear hk); (try clear hi); have hcz85_0 : w84.cell? ⟨gb140, 0, none⟩ = some (.bool t135) := (blk_cell BK140.out 0).trans rfl; have hcz85_1 : w84.cell? ⟨gb140, 1, none⟩ = some (.bool t136) := (blk_cell BK140.out 1).trans rfl; have hcz85_2 : w84.cell? ⟨gb140, 2, none⟩ = some (.bool t137) := (blk_cell BK140.out 2).trans rfl; have hcz85_3 : w84.cell? ⟨gb140, 3, none⟩ = some (.bool t138) := (blk_cell BK140.out 3).trans rfl; have hfz85_0 := blk_frozen BK140.out 0; have hfz85_1 := blk_frozen BK140.out 1; have hfz85_2 := blk_frozen BK140.out 2; have hfz85_3 := blk_frozen BK140.out 3) | (go_at_call 13; (with_reducible refine (alu_Holds.calls k 1 t135 t136 t137 t138 t143 _ A8.out).mono ?_); rintro e w86 ⟨rfl, hb⟩; have n0_ := Aside0.mk (blk_below (g := gb131) (o := .cells #[.int .i64 a0_0, .bool a0_1, .int .u32 a0_2, .int .u32 a0_3, .int .u32 a0_4, .bool a0_5, .bool a0_6, .bool a0_7, .bool a0_8] 26 (0, 0)) (by (with_reducible repeat (first | refine blk_drewN ?_ _ | refine blk_drew ?_ | refine blk_alloc ?_ _)); exact BK131.out) hb); have n1_ := Aside0.mk (blk_below (g := gb132) (o := .cells #[.bool a0_5, .bool a0_6, .bool a0_7, .bool a0_8] 24 (0, 0)) (by (with_reducible repeat (first | refine blk_drewN ?_ _ | refine blk_drew ?_ | refine blk_alloc ?_ _)); exact BK132.out) hb); have n2_ := Aside0.mk (blk_below (g := gb140) (o := .cells #[.bool t135, .bool t136, .bool t137, .bool t138] 24 (0, 0)) (by (with_reducible repeat (first | refine blk_drewN ?_ _ | refine blk_drew ?_ | refine blk_alloc ?_ _)); exact BK140.out) hb); have n3_ := Aside0.mk (below_step (by repeat (first | (with_reducible first | exact HB.out | apply below_alloc | apply pw_below_drewN | apply below_drew1 | refine below_set ?_ GE131.out | refine below_set ?_ GE132.out | refine below_set ?_ GE140.out) | exact HB.out)) hb); clear BK131; clear BK132; clear BK140; clear HB; have BK131 := n0_; have BK132 := n1_; have BK140 := n2_; have HB := n3_; clear n0_ n1_ n2_ n3_; (try clear hb); (try clear hb2); (try clear hk); (try clear hi); have hcz87_0 : w86.cell? ⟨gb140, 0, none⟩ = some (.bool t135) := (blk_cell BK140.out 0).trans rfl; have hcz87_1 : w86.cell? ⟨gb140, 1, none⟩ = some (.bool t136) := (blk_cell BK140.out 1).trans rfl; have hcz87_2 : w86.cell? ⟨gb140, 2, none⟩ = some (.bool t137) := (blk_cell BK140.out 2).trans rfl; have hcz87_3 : w86.cell? ⟨gb140, 3, none⟩ = some (.bool t138) := (blk_cell BK140.out 3).trans rfl; have hfz87_0 := blk_frozen BK140.out 0; have hfz87_1 := blk_frozen BK140.out 1; have hfz87_2 := blk_frozen BK140.out 2; have hfz87_3 := blk_frozen BK140.out 3) | (go_at_call 13; (with_reducible refine (alu_Holds.calls k 6 t135 t136 t137 t138 t144 _ A10.out).mono ?_); rintro e w88 ⟨rfl, hb⟩; have n0_ := Aside0.mk (blk_below (g := gb131) (o := .cells #[.int .i64 a0_0, .bool a0_1, .int .u32 a0_2, .int .u32 a0_3, .int .u32 a0_4, .bool a0_5, .bool a0_6, .bool a0_7, .bool a0_8] 26 (0, 0)) (by (with_reducible repeat (first | refine blk_drewN ?_ _ | refine blk_drew ?_ | refine blk_alloc ?_ _)); exact BK131.out) hb); have n1_ := Aside0.mk (blk_below (g := gb132) (o := .cells #[.bool a0_5, .bool a0_6, .bool a0_7, .bool a0_8] 24 (0, 0)) (by (with_reducible repeat (first | refine blk_drewN ?_ _ | refine blk_drew ?_ | refine blk_alloc ?_ _)); exact BK132.out) hb); have n2_ := Aside0.mk (blk_below (g := gb140) (o := .cells #[.bool t135, .bool t136, .bool t137, .bool t138] 24 (0, 0)) (by (with_reducible repeat (first | refine blk_drewN ?_ _ | refine blk_drew ?_ | refine blk_alloc ?_ _)); exact BK140.out) hb); have n3_ := Aside0.mk (below_step (by repeat (first | (with_reducible first | exact HB.out | apply below_alloc | apply pw_below_drewN | apply below_drew1 | refine below_set ?_ GE131.out | refine below_set ?_ GE132.out | refine below_set ?_ GE140.out) | exact HB.out)) hb); clear BK131; clear BK132; clear BK140; clear HB; have BK131 := n0_; have BK132 := n1_; have BK140 := n2_; have HB := n3_; clear n0_ n1_ n2_ n3_; (try clear hb); (try clear hb2); (try clear hk); (try clear hi); have hcz89_0 : w88.cell? ⟨gb140, 0, none⟩ = some (.bool t135) := (blk_cell BK140.out 0).trans rfl; have hcz89_1 : w88.cell? ⟨gb140, 1, none⟩ = some (.bool t136) := (blk_cell BK140.out 1).trans rfl; have hcz89_2 : w88.cell? ⟨gb140, 2, none⟩ = some (.bool t137) := (blk_cell BK140.out 2).trans rfl; have hcz89_3 : w88.cell? ⟨gb140, 3, none⟩ = some (.bool t138) := (blk_cell BK140.out 3).trans rfl; have hfz89_0 := blk_frozen BK140.out 0; have hfz89_1 := blk_frozen BK140.out 1; have hfz89_2 := blk_frozen BK140.out 2; have hfz89_3 := blk_frozen BK140.out 3) | (go_at_call 13; (with_reducible refine (alu_Holds.calls k 4 t135 t136 t137 t138 t145 _ A12.out).mono ?_); rintro e w90 ⟨rfl, hb⟩; have n0_ := Aside0.mk (blk_below (g := gb131) (o := .cells #[.int .i64 a0_0, .bool a0_1, .int .u32 a0_2, .int .u32 a0_3, .int .u32 a0_4, .bool a0_5, .bool a0_6, .bool a0_7, .bool a0_8] 26 (0, 0)) (by (with_reducible repeat (first | refine blk_drewN ?_ _ | refine blk_drew ?_ | refine blk_alloc ?_ _)); exact BK131.out) hb); have n1_ := Aside0.mk (blk_below (g := gb132) (o := .cells #[.bool a0_5, .bool a0_6, .bool a0_7, .bool a0_8] 24 (0, 0)) (by (with_reducible repeat (first | refine blk_drewN ?_ _ | refine blk_drew ?_ | refine blk_alloc ?_ _)); exact BK132.out) hb); have n2_ := Aside0.mk (blk_below (g := gb140) (o := .cells #[.bool t135, .bool t136, .bool t137, .bool t138] 24 (0, 0)) (by (with_reducible repeat (first | refine blk_drewN ?_ _ | refine blk_drew ?_ | refine blk_alloc ?_ _)); exact BK140.out) hb); have n3_ := Aside0.mk (below_step (by repeat (first | (with_reducible first | exact HB.out | apply below_alloc | apply pw_below_drewN | apply below_drew1 | refine below_set ?_ GE131.out | refine below_set ?_ GE132.out | refine below_set ?_ GE140.out) | exact HB.out)) hb); clear BK131; clear BK132; clear BK140; clear HB; have BK131 := n0_; have BK132 := n1_; have BK140 := n2_; have HB := n3_; clear n0_ n1_ n2_ n3_; (try clear hb); (try clear hb2); (try clear hk); (try clear hi)))
              go_ret
              exact ⟨by first | rfl | (simp [errW_none, errW_some] <;> rfl) | (simp [*, errW_none, errW_some] <;> rfl), by repeat (first | (with_reducible first | exact HB.out | apply below_alloc | apply pw_below_drewN | apply below_drew1 | refine below_set ?_ GE131.out | refine below_set ?_ GE132.out | refine below_set ?_ GE140.out) | exact HB.out)⟩
          · rw [if_neg c11] at H
            have c11b0 : (t144 == (decide ((wrap32 (a0_2)) ≤ (wrap32 (a0_3))))) = false := by simpa using c11
            (try (have c11b1 : decide (t144 = (decide ((wrap32 (a0_2)) ≤ (wrap32 (a0_3))))) = false := by simpa using c11))
            (try (have c11b2 : (t144 == (decide ((wrap32 (a0_2)) ≤ (wrap32 (a0_3))))) = false := by simpa using c11))
            (try (have c11b3 : ¬ (t144 = (decide ((wrap32 (a0_2)) ≤ (wrap32 (a0_3))))) := by simpa using c11))
            clear c11
            obtain rfl := Option.some.inj H
            go_enter Try.func5, Try.ntmps5
            try go_wp2_with (first | ((with_reducible refine gate_dst (N := 1) rfl ?_); refine box_event ?hg (N := 1) ?hd (cs := #[.int .i64 a0_0, .bool a0_1, .int .u32 a0_2, .int .u32 a0_3, .int .u32 a0_4, .bool a0_5, .bool a0_6, .bool a0_7, .bool a0_8]) (t := 26) ?hr ?_; (case hd => rfl); (case hg => rfl); (case hr => first | (go_simp; done) | (go_simp; rfl)); intro gb131 hg w91 hbox hb; have n0_ := Aside0.mk (below_step (by repeat (first | (with_reducible first | exact HB.out | apply below_alloc | apply pw_below_drewN | apply below_drew1) | exact HB.out)) hb); have n1_ := Aside0.mk (hbox); have n2_ := Aside0.mk ((by rw [hg]; exact (below_size (by repeat (first | (with_reducible first | exact HB.out | apply below_alloc | apply pw_below_drewN | apply below_drew1) | exact HB.out))) : w.heap.size ≤ gb131)); have n3_ := Aside0.mk ((by rw [hg]; exact (below_size (by repeat (first | (with_reducible first | exact HB.out | apply below_alloc | apply pw_below_drewN | apply below_drew1) | exact HB.out))) : w.heap.size ≤ gb131)); clear HB; have HB := n0_; have BK131 := n1_; have GW131 := n2_; have GE131 := n3_; clear n0_ n1_ n2_ n3_; clear hb hbox hg))
            have n0_ := Aside0.mk (blk_drew BK131.out)
            have n1_ := Aside0.mk (below_drew1 HB.out)
            clear BK131
            clear HB
            have BK131 := n0_
            have HB := n1_
            clear n0_ n1_
            refine start_ (n := 13) (S := fun w' => w'.cell? ⟨gb131, 0, none⟩ = some (.int .i64 a0_0) ∧ w'.cell? ⟨gb131, 1, none⟩ = some (.bool a0_1) ∧ w'.cell? ⟨gb131, 2, none⟩ = some (.int .u32 a0_2) ∧ w'.cell? ⟨gb131, 3, none⟩ = some (.int .u32 a0_3) ∧ w'.cell? ⟨gb131, 4, none⟩ = some (.int .u32 a0_4) ∧ w'.cell? ⟨gb131, 5, none⟩ = some (.bool a0_5) ∧ w'.cell? ⟨gb131, 6, none⟩ = some (.bool a0_6) ∧ w'.cell? ⟨gb131, 7, none⟩ = some (.bool a0_7) ∧ w'.cell? ⟨gb131, 8, none⟩ = some (.bool a0_8)) (ds := []) #[false, false, false, false, false, false, false, false, false, false, false, false, false] (by kernel_rfl) rfl rfl ⟨(blk_cell BK131.out 0).trans rfl, (blk_cell BK131.out 1).trans rfl, (blk_cell BK131.out 2).trans rfl, (blk_cell BK131.out 3).trans rfl, (blk_cell BK131.out 4).trans rfl, (blk_cell BK131.out 5).trans rfl, (blk_cell BK131.out 6).trans rfl, (blk_cell BK131.out 7).trans rfl, (blk_cell BK131.out 8).trans rfl⟩ (fun hHeld => ?_); refine with_tabW spinetlaw03_AluCompares.tab1 spinetlaw03_AluCompares.bits1 (fun HT_ HW_ => ?_)
            generalize w91.drew = w92 at BK131 HB hHeld ⊢
            refine pure_ (i := 0) (N := some 13) (v := ?_) (a' := ?_) #[true, false, false, false, false, false, false, false, false, false, false, false, false] rfl rfl (any_of HT_.out (by kernel_rfl)) (fun _ _ _ h => h) (Or.inl ⟨by rfl, ?_⟩) ?_ ?_
            rotate_left
            · intro w'
              go_simp
              with_reducible rfl
            rotate_left
            · simp only [Act.put, List.setIfInBounds_toArray, List.set_cons_zero, List.set_cons_succ, i64_w, i32_w]
              rfl
            refine pure_ (i := 2) (N := some 15) (v := ?_) (a' := ?_) #[true, false, true, false, false, false, false, false, false, false, false, false, false] rfl rfl (any_of HT_.out (by kernel_rfl)) (fun _ _ _ h => h) (Or.inl ⟨by rfl, ?_⟩) ?_ ?_
            rotate_left
            · intro w'
              go_simp
              with_reducible rfl
            rotate_left
            · simp only [Act.put, List.setIfInBounds_toArray, List.set_cons_zero, List.set_cons_succ, i64_w, i32_w]
              rfl
            refine pure_ (i := 4) (N := some 17) (v := ?_) (a' := ?_) #[true, false, true, false, true, false, false, false, false, false, false, false, false] rfl rfl (any_of HT_.out (by kernel_rfl)) (fun _ _ _ h => h) (Or.inl ⟨by rfl, ?_⟩) ?_ ?_
            rotate_left
            · intro w'
              go_simp
              with_reducible rfl
            rotate_left
            · simp only [Act.put, List.setIfInBounds_toArray, List.set_cons_zero, List.set_cons_succ, i64_w, i32_w]
              rfl
            refine pure_ (i := 6) (N := some 19) (v := ?_) (a' := ?_) #[true, false, true, false, true, false, true, false, false, false, false, false, false] rfl rfl (any_of HT_.out (by kernel_rfl)) (fun _ _ _ h => h) (Or.inl ⟨by rfl, ?_⟩) ?_ ?_
            rotate_left
            · intro w'
              go_simp
              with_reducible rfl
            rotate_left
            · simp only [Act.put, List.setIfInBounds_toArray, List.set_cons_zero, List.set_cons_succ, i64_w, i32_w]
              rfl
            refine take_ (i := 1) (N := some 14) (v := ?_) (a' := ?_) #[true, true, true, false, true, false, true, false, false, false, false, false, false] rfl rfl (take_ofW HT_.out HW_.out (by kernel_rfl)) (fun _ _ _ h => h) (Or.inl ⟨by rfl, ?_⟩) hHeld ?_ ?_
            rotate_left
            · rintro w' ⟨s0, s1, s2, s3, s4, s5, s6, s7, s8⟩
              go_simp
              with_reducible rfl
            rotate_left
            · simp only [Act.put, List.setIfInBounds_toArray, List.set_cons_zero, List.set_cons_succ, i64_w, i32_w]
              rfl
            refine take_ (i := 3) (N := some 16) (v := ?_) (a' := ?_) #[true, true, true, true, true, false, true, false, false, false, false, false, false] rfl rfl (take_ofW HT_.out HW_.out (by kernel_rfl)) (fun _ _ _ h => h) (Or.inl ⟨by rfl, ?_⟩) hHeld ?_ ?_
            rotate_left
            · rintro w' ⟨s0, s1, s2, s3, s4, s5, s6, s7, s8⟩
              go_simp
              with_reducible rfl
            rotate_left
            · simp only [Act.put, List.setIfInBounds_toArray, List.set_cons_zero, List.set_cons_succ, i64_w, i32_w]
              rfl
            refine take_ (i := 5) (N := some 18) (v := ?_) (a' := ?_) #[true, true, true, true, true, true, true, false, false, false, false, false, false] rfl rfl (take_ofW HT_.out HW_.out (by kernel_rfl)) (fun _ _ _ h => h) (Or.inl ⟨by rfl, ?_⟩) hHeld ?_ ?_
            rotate_left
            · rintro w' ⟨s0, s1, s2, s3, s4, s5, s6, s7, s8⟩
              go_simp
              with_reducible rfl
            rotate_left
            · simp only [Act.put, List.setIfInBounds_toArray, List.set_cons_zero, List.set_cons_succ, i64_w, i32_w]
              rfl
            refine take_ (i := 7) (N := some 20) (v := ?_) (a' := ?_) #[true, true, true, true, true, true, true, true, false, false, false, false, false] rfl rfl (take_ofW HT_.out HW_.out (by kernel_rfl)) (fun _ _ _ h => h) (Or.inl ⟨by rfl, ?_⟩) hHeld ?_ ?_
            rotate_left
            · rintro w' ⟨s0, s1, s2, s3, s4, s5, s6, s7, s8⟩
              go_simp
              with_reducible rfl
            rotate_left
            · simp only [Act.put, List.setIfInBounds_toArray, List.set_cons_zero, List.set_cons_succ, i64_w, i32_w]
              rfl
            refine one_ (i := 8) (N := some 6) #[true, true, true, true, true, true, true, true, true, false, false, false, false] rfl rfl (one_of HT_.out (by kernel_rfl)) (by decide) (fun K hK => ?_)
            refine box_step ?hg (N := 6) ?hd (cs := #[.bool false, .bool false, .bool false, .bool false]) (t := 24) ?hr ?_; (case hd => rfl); (case hg => rfl); (case hr => first | (go_simp; done) | (go_simp; rfl))
            intro gb132 hg w93 hbox hb
            have n0_ := Aside0.mk (blk_below (g := gb131) (o := .cells #[.int .i64 a0_0, .bool a0_1, .int .u32 a0_2, .int .u32 a0_3, .int .u32 a0_4, .bool a0_5, .bool a0_6, .bool a0_7, .bool a0_8] 26 (0, 0)) (by (with_reducible repeat (first | refine blk_drewN ?_ _ | refine blk_drew ?_ | refine blk_alloc ?_ _)); exact BK131.out) hb)
            have n1_ := Aside0.mk (below_step (by repeat (first | (with_reducible first | exact HB.out | apply below_alloc | apply pw_below_drewN | apply below_drew1 | refine below_set ?_ GE131.out) | exact HB.out)) hb)
            have n2_ := Aside0.mk (hbox)
            have n3_ := Aside0.mk ((by rw [hg]; exact (below_size (by repeat (first | (with_reducible first | exact HB.out | apply below_alloc | apply pw_below_drewN | apply below_drew1 | refine below_set ?_ GE131.out) | exact HB.out))) : w.heap.size ≤ gb132))
            have n4_ := Aside0.mk ((by rw [hg]; exact (below_size (by repeat (first | (with_reducible first | exact HB.out | apply below_alloc | apply pw_below_drewN | apply below_drew1 | refine below_set ?_ GE131.out) | exact HB.out))) : w.heap.size ≤ gb132))
            have n5_ := Aside0.mk ((by rw [hg]; exact Nat.ne_of_lt (blk_lt (g := gb131) (o := .cells #[.int .i64 a0_0, .bool a0_1, .int .u32 a0_2, .int .u32 a0_3, .int .u32 a0_4, .bool a0_5, .bool a0_6, .bool a0_7, .bool a0_8] 26 (0, 0)) (by (with_reducible repeat (first | refine blk_drewN ?_ _ | refine blk_drew ?_ | refine blk_alloc ?_ _)); exact BK131.out)) : gb131 ≠ gb132))
            have n6_ := Aside0.mk ((by rw [hg]; exact Nat.ne_of_gt (blk_lt (g := gb131) (o := .cells #[.int .i64 a0_0, .bool a0_1, .int .u32 a0_2, .int .u32 a0_3, .int .u32 a0_4, .bool a0_5, .bool a0_6, .bool a0_7, .bool a0_8] 26 (0, 0)) (by (with_reducible repeat (first | refine blk_drewN ?_ _ | refine blk_drew ?_ | refine blk_alloc ?_ _)); exact BK131.out)) : gb132 ≠ gb131))
            clear BK131
            clear HB
            have BK131 := n0_
            have HB := n1_
            have BK132 := n2_
            have GW132 := n3_
            have GE132 := n4_
            have NB131_132 := n5_
            have NB132_131 := n6_
            clear n0_ n1_ n2_ n3_ n4_ n5_ n6_
            clear hb hbox hg
            refine hK.out _ _ ⟨(blk_cell BK131.out 0).trans rfl, (blk_cell BK131.out 1).trans rfl, (blk_cell BK131.out 2).trans rfl, (blk_cell BK131.out 3).trans rfl, (blk_cell BK131.out 4).trans rfl, (blk_cell BK131.out 5).trans rfl, (blk_cell BK131.out 6).trans rfl, (blk_cell BK131.out 7).trans rfl, (blk_cell BK131.out 8).trans rfl⟩ (fun hHeld => ?_)
            clear hK K
            refine norm_ (a' := ?_) ?_ ?_
            rotate_left
            · show Act.put _ (some 6) _ = _
              simp only [Act.put, List.setIfInBounds_toArray, List.set_cons_zero, List.set_cons_succ, i64_w, i32_w]
              rfl
            refine pure_ (i := 9) (N := some 3) (v := ?_) (a' := ?_) #[true, true, true, true, true, true, true, true, true, true, false, false, false] rfl rfl (any_of HT_.out (by kernel_rfl)) (fun _ _ _ h => h) (Or.inl ⟨by rfl, ?_⟩) ?_ ?_
            rotate_left
            · intro w'
              go_simp
              with_reducible rfl
            rotate_left
            · simp only [Act.put, List.setIfInBounds_toArray, List.set_cons_zero, List.set_cons_succ, i64_w, i32_w]
              rfl
            refine pure_ (i := 10) (N := some 4) (v := ?_) (a' := ?_) #[true, true, true, true, true, true, true, true, true, true, true, false, false] rfl rfl (any_of HT_.out (by kernel_rfl)) (fun _ _ _ h => h) (Or.inl ⟨by rfl, ?_⟩) ?_ ?_
            rotate_left
            · intro w'
              go_simp
              with_reducible rfl
            rotate_left
            · simp only [Act.put, List.setIfInBounds_toArray, List.set_cons_zero, List.set_cons_succ, i64_w, i32_w]
              rfl
            refine pure_ (i := 11) (N := some 5) (v := ?_) (a' := ?_) #[true, true, true, true, true, true, true, true, true, true, true, true, false] rfl rfl (any_of HT_.out (by kernel_rfl)) (fun _ _ _ h => h) (Or.inl ⟨by rfl, ?_⟩) ?_ ?_
            rotate_left
            · intro w'
              go_simp
              with_reducible rfl
            rotate_left
            · simp only [Act.put, List.setIfInBounds_toArray, List.set_cons_zero, List.set_cons_succ, i64_w, i32_w]
              rfl
            refine one_ (i := 12) (N := none) #[true, true, true, true, true, true, true, true, true, true, true, true, true] rfl rfl (one_of HT_.out (by kernel_rfl)) (by decide) (fun K hK => ?_)
            have hs94 : w93.cell? ⟨gb132, 0, none⟩ = some (.bool false) := (blk_cell BK132.out 0).trans rfl
            have hfs94 := blk_frozen BK132.out 0
            have hns94_0 := NB131_132.out
            have hms94_0 := NB132_131.out
            have hs95 : w93.cell? ⟨gb132, 1, none⟩ = some (.bool false) := (blk_cell BK132.out 1).trans rfl
            have hfs95 := blk_frozen BK132.out 1
            have hns95_0 := NB131_132.out
            have hms95_0 := NB132_131.out
            have hs96 : w93.cell? ⟨gb132, 2, none⟩ = some (.bool false) := (blk_cell BK132.out 2).trans rfl
            have hfs96 := blk_frozen BK132.out 2
            have hns96_0 := NB131_132.out
            have hms96_0 := NB132_131.out
            have hs97 : w93.cell? ⟨gb132, 3, none⟩ = some (.bool false) := (blk_cell BK132.out 3).trans rfl
            have hfs97 := blk_frozen BK132.out 3
            have hns97_0 := NB131_132.out
            have hms97_0 := NB132_131.out
            refine skip_ (w1 := ?_) (by rfl) rfl ?_ ?_
            rotate_left
            · go_simp
              rfl
            refine hK.out _ _ ⟨((cell_far (p := ⟨gb132, _, none⟩) NB131_132.out _).trans (((cell_far (p := ⟨gb132, _, none⟩) NB131_132.out _).trans (((cell_far (p := ⟨gb132, _, none⟩) NB131_132.out _).trans (((cell_far (p := ⟨gb132, _, none⟩) NB131_132.out _).trans (hHeld.1)))))))), ((cell_far (p := ⟨gb132, _, none⟩) NB131_132.out _).trans (((cell_far (p := ⟨gb132, _, none⟩) NB131_132.out _).trans (((cell_far (p := ⟨gb132, _, none⟩) NB131_132.out _).trans (((cell_far (p := ⟨gb132, _, none⟩) NB131_132.out _).trans (hHeld.2.1)))))))), ((cell_far (p := ⟨gb132, _, none⟩) NB131_132.out _).trans (((cell_far (p := ⟨gb132, _, none⟩) NB131_132.out _).trans (((cell_far (p := ⟨gb132, _, none⟩) NB131_132.out _).trans (((cell_far (p := ⟨gb132, _, none⟩) NB131_132.out _).trans (hHeld.2.2.1)))))))), ((cell_far (p := ⟨gb132, _, none⟩) NB131_132.out _).trans (((cell_far (p := ⟨gb132, _, none⟩) NB131_132.out _).trans (((cell_far (p := ⟨gb132, _, none⟩) NB131_132.out _).trans (((cell_far (p := ⟨gb132, _, none⟩) NB131_132.out _).trans (hHeld.2.2.2.1)))))))), ((cell_far (p := ⟨gb132, _, none⟩) NB131_132.out _).trans (((cell_far (p := ⟨gb132, _, none⟩) NB131_132.out _).trans (((cell_far (p := ⟨gb132, _, none⟩) NB131_132.out _).trans (((cell_far (p := ⟨gb132, _, none⟩) NB131_132.out _).trans (hHeld.2.2.2.2.1)))))))), ((cell_far (p := ⟨gb132, _, none⟩) NB131_132.out _).trans (((cell_far (p := ⟨gb132, _, none⟩) NB131_132.out _).trans (((cell_far (p := ⟨gb132, _, none⟩) NB131_132.out _).trans (((cell_far (p := ⟨gb132, _, none⟩) NB131_132.out _).trans (hHeld.2.2.2.2.2.1)))))))), ((cell_far (p := ⟨gb132, _, none⟩) NB131_132.out _).trans (((cell_far (p := ⟨gb132, _, none⟩) NB131_132.out _).trans (((cell_far (p := ⟨gb132, _, none⟩) NB131_132.out _).trans (((cell_far (p := ⟨gb132, _, none⟩) NB131_132.out _).trans (hHeld.2.2.2.2.2.2.1)))))))), ((cell_far (p := ⟨gb132, _, none⟩) NB131_132.out _).trans (((cell_far (p := ⟨gb132, _, none⟩) NB131_132.out _).trans (((cell_far (p := ⟨gb132, _, none⟩) NB131_132.out _).trans (((cell_far (p := ⟨gb132, _, none⟩) NB131_132.out _).trans (hHeld.2.2.2.2.2.2.2.1)))))))), ((cell_far (p := ⟨gb132, _, none⟩) NB131_132.out _).trans (((cell_far (p := ⟨gb132, _, none⟩) NB131_132.out _).trans (((cell_far (p := ⟨gb132, _, none⟩) NB131_132.out _).trans (((cell_far (p := ⟨gb132, _, none⟩) NB131_132.out _).trans (hHeld.2.2.2.2.2.2.2.2))))))))⟩ (fun hHeld => ?_)
            clear hK K
            refine done_ (done_of HT_.out (by kernel_rfl)) ?_
            have hnb98 := NB132_131.out
            have hnc98 := NB131_132.out
            have hcz99_0 : w93.cell? ⟨gb132, 0, none⟩ = some (.bool false) := (blk_cell BK132.out 0).trans rfl
            have hcz99_1 : w93.cell? ⟨gb132, 1, none⟩ = some (.bool false) := (blk_cell BK132.out 1).trans rfl
            have hcz99_2 : w93.cell? ⟨gb132, 2, none⟩ = some (.bool false) := (blk_cell BK132.out 2).trans rfl
            have hcz99_3 : w93.cell? ⟨gb132, 3, none⟩ = some (.bool false) := (blk_cell BK132.out 3).trans rfl
            have hfz99_0 := blk_frozen BK132.out 0
            have hfz99_1 := blk_frozen BK132.out 1
            have hfz99_2 := blk_frozen BK132.out 2
            have hfz99_3 := blk_frozen BK132.out 3
            try go_wp2_with (first | ((with_reducible refine gate_callee (f := 9) rfl ?_); refine goesL_ (some 26) rfl rfl Try.func9 (by kernel_rfl) rfl #[.int .i64 9, .bool false, .int .u32 a0_2, .int .u32 a0_3, .int .u32 a0_4, .agg #[.bool a0_5, .bool a0_6, .bool a0_7, .bool a0_8]] rfl (by (try simp only [List.map_toArray, List.map_cons, List.map_nil]); first | done | rfl | (simp only [List.length_drop, List.length_take]; rfl)) ?_; (with_reducible refine (alu_Do.calls k 9 false a0_2 a0_3 a0_4 a0_5 a0_6 a0_7 a0_8 t133 t134 t135 t136 t137 t138 true _ A2.out).mono ?_); rintro e w100 ⟨rfl, hb⟩; refine ⟨_, rfl, ?_⟩; have n0_ := Aside0.mk (blk_below (g := gb131) (o := .cells #[.int .i64 a0_0, .bool a0_1, .int .u32 a0_2, .int .u32 a0_3, .int .u32 a0_4, .bool a0_5, .bool a0_6, .bool a0_7, .bool a0_8] 26 (0, 0)) (by (with_reducible repeat (first | refine blk_drewN ?_ _ | refine blk_drew ?_ | refine blk_alloc ?_ _)); refine blk_far ?_ NB131_132.out _; (with_reducible repeat (first | refine blk_drewN ?_ _ | refine blk_drew ?_ | refine blk_alloc ?_ _)); refine blk_far ?_ NB131_132.out _; (with_reducible repeat (first | refine blk_drewN ?_ _ | refine blk_drew ?_ | refine blk_alloc ?_ _)); refine blk_far ?_ NB131_132.out _; (with_reducible repeat (first | refine blk_drewN ?_ _ | refine blk_drew ?_ | refine blk_alloc ?_ _)); refine blk_far ?_ NB131_132.out _; (with_reducible repeat (first | refine blk_drewN ?_ _ | refine blk_drew ?_ | refine blk_alloc ?_ _)); exact BK131.out) hb); have n1_ := Aside0.mk (blk_below (g := gb132) (o := .cells #[.bool a0_5, .bool a0_6, .bool a0_7, .bool a0_8] 24 (0, 0)) (by (with_reducible repeat (first | refine blk_drewN ?_ _ | refine blk_drew ?_ | refine blk_alloc ?_ _)); refine blk_put (cs := #[.bool a0_5, .bool a0_6, .bool a0_7, .bool false]) ?_ 3 _ rfl; (with_reducible repeat (first | refine blk_drewN ?_ _ | refine blk_drew ?_ | refine blk_alloc ?_ _)); refine blk_put (cs := #[.bool a0_5, .bool a0_6, .bool false, .bool false]) ?_ 2 _ rfl; (with_reducible repeat (first | refine blk_drewN ?_ _ | refine blk_drew ?_ | refine blk_alloc ?_ _)); refine blk_put (cs := #[.bool a0_5, .bool false, .bool false, .bool false]) ?_ 1 _ rfl; (with_reducible repeat (first | refine blk_drewN ?_ _ | refine blk_drew ?_ | refine blk_alloc ?_ _)); refine blk_put (cs := #[.bool false, .bool false, .bool false, .bool false]) ?_ 0 _ rfl; (with_reducible repeat (first | refine blk_drewN ?_ _ | refine blk_drew ?_ | refine blk_alloc ?_ _)); exact BK132.out) hb); have n2_ := Aside0.mk (below_step (by repeat (first | (with_reducible first | exact HB.out | apply below_alloc | apply pw_below_drewN | apply below_drew1 | refine below_set ?_ GE131.out | refine below_set ?_ GE132.out) | exact HB.out)) hb); clear BK131; clear BK132; clear HB; have BK131 := n0_; have BK132 := n1_; have HB := n2_; clear n0_ n1_ n2_; (try clear hb); (try clear hb2); (try clear hk); (try clear hi)) | ((with_reducible refine gate_dst (N := 9) rfl ?_); refine box_event ?hg (N := 9) ?hd (cs := #[.bool false, .bool false, .bool false, .bool false]) (t := 24) ?hr ?_; (case hd => rfl); (case hg => rfl); (case hr => first | (go_simp; done) | (go_simp; rfl)); intro gb140 hg w101 hbox hb; have n0_ := Aside0.mk (blk_below (g := gb131) (o := .cells #[.int .i64 a0_0, .bool a0_1, .int .u32 a0_2, .int .u32 a0_3, .int .u32 a0_4, .bool a0_5, .bool a0_6, .bool a0_7, .bool a0_8] 26 (0, 0)) (by (with_reducible repeat (first | refine blk_drewN ?_ _ | refine blk_drew ?_ | refine blk_alloc ?_ _)); exact BK131.out) hb); have n1_ := Aside0.mk (blk_below (g := gb132) (o := .cells #[.bool a0_5, .bool a0_6, .bool a0_7, .bool a0_8] 24 (0, 0)) (by (with_reducible repeat (first | refine blk_drewN ?_ _ | refine blk_drew ?_ | refine blk_alloc ?_ _)); exact BK132.out) hb); have n2_ := Aside0.mk (below_step (by repeat (first | (with_reducible first | exact HB.out | apply below_alloc | apply pw_below_drewN | apply below_drew1 | refine below_set ?_ GE131.out | refine below_set ?_ GE132.out) | exact HB.out)) hb); have n3_ := Aside0.mk (hbox); have n4_ := Aside0.mk ((by rw [hg]; exact (below_size (by repeat (first | (with_reducible first | exact HB.out | apply below_alloc | apply pw_below_drewN | apply below_drew1 | refine below_set ?_ GE131.out | refine below_set ?_ GE132.out) | exact HB.out))) : w.heap.size ≤ gb140)); have n5_ := Aside0.mk ((by rw [hg]; exact (below_size (by repeat (first | (with_reducible first | exact HB.out | apply below_alloc | apply pw_below_drewN | apply below_drew1 | refine below_set ?_ GE131.out | refine below_set ?_ GE132.out) | exact HB.out))) : w.heap.size ≤ gb140)); have n6_ := Aside0.mk ((by rw [hg]; exact Nat.ne_of_lt (blk_lt (g := gb131) (o := .cells #[.int .i64 a0_0, .bool a0_1, .int .u32 a0_2, .int .u32 a0_3, .int .u32 a0_4, .bool a0_5, .bool a0_6, .bool a0_7, .bool a0_8] 26 (0, 0)) (by (with_reducible repeat (first | refine blk_drewN ?_ _ | refine blk_drew ?_ | refine blk_alloc ?_ _)); exact BK131.out)) : gb131 ≠ gb140)); have n7_ := Aside0.mk ((by rw [hg]; exact Nat.ne_of_gt (blk_lt (g := gb131) (o := .cells #[.int .i64 a0_0, .bool a0_1, .int .u32 a0_2, .int .u32 a0_3, .int .u32 a0_4, .bool a0_5, .bool a0_6, .bool a0_7, .bool a0_8] 26 (0, 0)) (by (with_reducible repeat (first | refine blk_drewN ?_ _ | refine blk_drew ?_ | refine blk_alloc ?_ _)); exact BK131.out)) : gb140 ≠ gb131)); have n8_ := Aside0.mk ((by rw [hg]; exact Nat.ne_of_lt (blk_lt (g := gb132) (o := .cells #[.bool a0_5, .bool a0_6, .bool a0_7, .bool a0_8] 24 (0, 0)) (by (with_reducible repeat (first | refine blk_drewN ?_ _ | refine blk_drew ?_ | refine blk_alloc ?_ _)); exact BK132.out)) : gb132 ≠ gb140)); have n9_ := Aside0.mk ((by rw [hg]; exact Nat.ne_of_gt (blk_lt (g := gb132) (o := .cells #[.bool a0_5, .bool a0_6, .bool a0_7, .bool a0_8] 24 (0, 0)) (by (with_reducible repeat (first | refine blk_drewN ?_ _ | refine blk_drew ?_ | refine blk_alloc ?_ _)); exact BK132.out)) : gb140 ≠ gb132)); clear BK131; clear BK132; clear HB; have BK131 := n0_; have BK132 := n1_; have HB := n2_; have BK140 := n3_; have GW140 := n4_; have GE140 := n5_; have NB131_140 := n6_; have NB140_131 := n7_; have NB132_140 := n8_; have NB140_132 := n9_; clear n0_ n1_ n2_ n3_ n4_ n5_ n6_ n7_ n8_ n9_; clear hb hbox hg; have hnb102 := NB140_131.out; have hnc102 := NB131_140.out; have hnb103 := NB140_132.out; have hnc103 := NB132_140.out; have hcz104_0 : w101.cell? ⟨gb140, 0, none⟩ = some (.bool false) := (blk_cell BK140.out 0).trans rfl; have hcz104_1 : w101.cell? ⟨gb140, 1, none⟩ = some (.bool false) := (blk_cell BK140.out 1).trans rfl; have hcz104_2 : w101.cell? ⟨gb140, 2, none⟩ = some (.bool false) := (blk_cell BK140.out 2).trans rfl; have hcz104_3 : w101.cell? ⟨gb140, 3, none⟩ = some (.bool false) := (blk_cell BK140.out 3).trans rfl; have hfz104_0 := blk_frozen BK140.out 0; have hfz104_1 := blk_frozen BK140.out 1; have hfz104_2 := blk_frozen BK140.out 2; have hfz104_3 := blk_frozen BK140.out 3) | (go_at_call 13; (with_reducible refine (alu_Holds.calls k 5 t135 t136 t137 t138 t141 _ A4.out).mono ?_); rintro e w105 ⟨rfl, hb⟩; have n0_ := Aside0.mk (blk_below (g := gb131) (o := .cells #[.int .i64 a0_0, .bool a0_1, .int .u32 a0_2, .int .u32 a0_3, .int .u32 a0_4, .bool a0_5, .bool a0_6, .bool a0_7, .bool a0_8] 26 (0, 0)) (by (with_reducible repeat (first | refine blk_drewN ?_ _ | refine blk_drew ?_ | refine blk_alloc ?_ _)); refine blk_far ?_ NB131_140.out _; (with_reducible repeat (first | refine blk_drewN ?_ _ | refine blk_drew ?_ | refine blk_alloc ?_ _)); refine blk_far ?_ NB131_140.out _; (with_reducible repeat (first | refine blk_drewN ?_ _ | refine blk_drew ?_ | refine blk_alloc ?_ _)); refine blk_far ?_ NB131_140.out _; (with_reducible repeat (first | refine blk_drewN ?_ _ | refine blk_drew ?_ | refine blk_alloc ?_ _)); refine blk_far ?_ NB131_140.out _; (with_reducible repeat (first | refine blk_drewN ?_ _ | refine blk_drew ?_ | refine blk_alloc ?_ _)); exact BK131.out) hb); have n1_ := Aside0.mk (blk_below (g := gb132) (o := .cells #[.bool a0_5, .bool a0_6, .bool a0_7, .bool a0_8] 24 (0, 0)) (by (with_reducible repeat (first | refine blk_drewN ?_ _ | refine blk_drew ?_ | refine blk_alloc ?_ _)); refine blk_far ?_ NB132_140.out _; (with_reducible repeat (first | refine blk_drewN ?_ _ | refine blk_drew ?_ | refine blk_alloc ?_ _)); refine blk_far ?_ NB132_140.out _; (with_reducible repeat (first | refine blk_drewN ?_ _ | refine blk_drew ?_ | refine blk_alloc ?_ _)); refine blk_far ?_ NB132_140.out _; (with_reducible repeat (first | refine blk_drewN ?_ _ | refine blk_drew ?_ | refine blk_alloc ?_ _)); refine blk_far ?_ NB132_140.out _; (with_reducible repeat (first | refine blk_drewN ?_ _ | refine blk_drew ?_ | refine blk_alloc ?_ _)); exact BK132.out) hb); have n2_ := Aside0.mk (blk_below (g := gb140) (o := .cells #[.bool t135, .bool t136, .bool t137, .bool t138] 24 (0, 0)) (by (with_reducible repeat (first | refine blk_drewN ?_ _ | refine blk_drew ?_ | refine blk_alloc ?_ _)); refine blk_put (cs := #[.bool t135, .bool t136, .bool t137, .bool false]) ?_ 3 _ rfl; (with_reducible repeat (first | refine blk_drewN ?_ _ | refine blk_drew ?_ | refine blk_alloc ?_ _)); refine blk_put (cs := #[.bool t135, .bool t136, .bool false, .bool false]) ?_ 2 _ rfl; (with_reducible repeat (first | refine blk_drewN ?_ _ | refine blk_drew ?_ | refine blk_alloc ?_ _)); refine blk_put (cs := #[.bool t135, .bool false, .bool false, .bool false]) ?_ 1 _ rfl; (with_reducible repeat (first | refine blk_drewN ?_ _ | refine blk_drew ?_ | refine blk_alloc ?_ _)); refine blk_put (cs := #[.bool false, .bool false, .bool false, .bool false]) ?_ 0 _ rfl; (with_reducible repeat (first | refine blk_drewN ?_ _ | refine blk_drew ?_ | refine blk_alloc ?_ _)); exact BK140.out) hb); have n3_ := Aside0.mk (below_step (by repeat (first | (with_reducible first | exact HB.out | apply below_alloc | apply pw_below_drewN | apply below_drew1 | refine below_set ?_ GE131.out | refine below_set ?_ GE132.out | refine below_set ?_ GE140.out) | exact HB.out)) hb); clear BK131; clear BK132; clear BK140; clear HB; have BK131 := n0_; have BK132 := n1_; have BK140 := n2_; have HB := n3_; clear n0_ n1_ n2_ n3_; (try clear hb); (try clear hb2); (try clear hk); (try clear hi); have hcz106_0 : w105.cell? ⟨gb140, 0, none⟩ = some (.bool t135) := (blk_cell BK140.out 0).trans rfl; have hcz106_1 : w105.cell? ⟨gb140, 1, none⟩ = some (.bool t136) := (blk_cell BK140.out 1).trans rfl; have hcz106_2 : w105.cell? ⟨gb140, 2, none⟩ = some (.bool t137) := (blk_cell BK140.out 2).trans rfl; have hcz106_3 : w105.cell? ⟨gb140, 3, none⟩ = some (.bool t138) := (blk_cell BK140.out 3).trans rfl; have hfz106_0 := blk_frozen BK140.out 0; have hfz106_1 := blk_frozen BK140.out 1; have hfz106_2 := blk_frozen BK140.out 2; have hfz106_3 := blk_frozen BK140.out 3) | (go_at_call 13; (with_reducible refine (alu_Holds.calls k 2 t135 t136 t137 t138 t142 _ A6.out).mono ?_); rintro e w107 ⟨rfl, hb⟩; have n0_ := Aside0.mk (blk_below (g := gb131) (o := .cells #[.int .i64 a0_0, .bool a0_1, .int .u32 a0_2, .int .u32 a0_3, .int .u32 a0_4, .bool a0_5, .bool a0_6, .bool a0_7, .bool a0_8] 26 (0, 0)) (by (with_reducible repeat (first | refine blk_drewN ?_ _ | refine blk_drew ?_ | refine blk_alloc ?_ _)); exact BK131.out) hb); have n1_ := Aside0.mk (blk_below (g := gb132) (o := .cells #[.bool a0_5, .bool a0_6, .bool a0_7, .bool a0_8] 24 (0, 0)) (by (with_reducible repeat (first | refine blk_drewN ?_ _ | refine blk_drew ?_ | refine blk_alloc ?_ _)); exact BK132.out) hb); have n2_ := Aside0.mk (blk_below (g := gb140) (o := .cells #[.bool t135, .bool t136, .bool t137, .bool t138] 24 (0, 0)) (by (with_reducible repeat (first | refine blk_drewN ?_ _ | refine blk_drew ?_ | refine blk_alloc ?_ _)); exact BK140.out) hb); have n3_ := Aside0.mk (below_step (by repeat (first | (with_reducible first | exact HB.out | apply below_alloc | apply pw_below_drewN | apply below_drew1 | refine below_set ?_ GE131.out | refine below_set ?_ GE132.out | refine below_set ?_ GE140.out) | exact HB.out)) hb); clear BK131; clear BK132; clear BK140; clear HB; have BK131 := n0_; have BK132 := n1_; have BK140 := n2_; have HB := n3_; clear n0_ n1_ n2_ n3_; (try clear hb); (try clear hb2); (try clear hk); (try clear hi); have hcz108_0 : w107.cell? ⟨gb140, 0, none⟩ = some (.bool t135) := (blk_cell BK140.out 0).trans rfl; have hcz108_1 : w107.cell? ⟨gb140, 1, none⟩ = some (.bool t136) := (blk_cell BK140.out 1).trans rfl; have hcz108_2 : w107.cell? ⟨gb140, 2, none⟩ = some (.bool t137) := (blk_cell BK140.out 2).trans rfl; have hcz108_3 : w107.cell? ⟨gb140, 3, none⟩ = some (.bool t138) := (blk_cell BK140.out 3).trans rfl; have hfz108_0 := blk_frozen BK140.out 0; have hfz108_1 := blk_frozen BK140.out 1; have hfz108_2 := blk_frozen BK140.out 2; have hfz108_3 := blk_frozen BK140.out 3) | (go_at_call 13; (with_reducible refine (alu_Holds.calls k 1 t135 t136 t137 t138 t143 _ A8.out).mono ?_); rintro e w109 ⟨rfl, hb⟩; have n0_ := Aside0.mk (blk_below (g := gb131) (o := .cells #[.int .i64 a0_0, .bool a0_1, .int .u32 a0_2, .int .u32 a0_3, .int .u32 a0_4, .bool a0_5, .bool a0_6, .bool a0_7, .bool a0_8] 26 (0, 0)) (by (with_reducible repeat (first | refine blk_drewN ?_ _ | refine blk_drew ?_ | refine blk_alloc ?_ _)); exact BK131.out) hb); have n1_ := Aside0.mk (blk_below (g := gb132) (o := .cells #[.bool a0_5, .bool a0_6, .bool a0_7, .bool a0_8] 24 (0, 0)) (by (with_reducible repeat (first | refine blk_drewN ?_ _ | refine blk_drew ?_ | refine blk_alloc ?_ _)); exact BK132.out) hb); have n2_ := Aside0.mk (blk_below (g := gb140) (o := .cells #[.bool t135, .bool t136, .bool t137, .bool t138] 24 (0, 0)) (by (with_reducible repeat (first | refine blk_drewN ?_ _ | refine blk_drew ?_ | refine blk_alloc ?_ _)); exact BK140.out) hb); have n3_ := Aside0.mk (below_step (by repeat (first | (with_reducible first | exact HB.out | apply below_alloc | apply pw_below_drewN | apply below_drew1 | refine below_set ?_ GE131.out | refine below_set ?_ GE132.out | refine below_set ?_ GE140.out) | exact HB.out)) hb); clear BK131; clear BK132; clear BK140; clear HB; have BK131 := n0_; have BK132 := n1_; have BK140 := n2_; have HB := n3_; clear n0_ n1_ n2_ n3_; (try clear hb); (try clear hb2); (try clear hk); (try clear hi); have hcz110_0 : w109.cell? ⟨gb140, 0, none⟩ = some (.bool t135) := (blk_cell BK140.out 0).trans rfl; have hcz110_1 : w109.cell? ⟨gb140, 1, none⟩ = some (.bool t136) := (blk_cell BK140.out 1).trans rfl; have hcz110_2 : w109.cell? ⟨gb140, 2, none⟩ = some (.bool t137) := (blk_cell BK140.out 2).trans rfl; have hcz110_3 : w109.cell? ⟨gb140, 3, none⟩ = some (.bool t138) := (blk_cell BK140.out 3).trans rfl; have hfz110_0 := blk_frozen BK140.out 0; have hfz110_1 := blk_frozen BK140.out 1; have hfz110_2 := blk_frozen BK140.out 2; have hfz110_3 := blk_frozen BK140.out 3) | (go_at_call 13; (with_reducible refine (alu_Holds.calls k 6 t135 t136 t137 t138 t144 _ A10.out).mono ?_); rintro e w111 ⟨rfl, hb⟩; have n0_ := Aside0.mk (blk_below (g := gb131) (o := .cells #[.int .i64 a0_0, .bool a0_1, .int .u32 a0_2, .int .u32 a0_3, .int .u32 a0_4, .bool a0_5, .bool a0_6, .bool a0_7, .bool a0_8] 26 (0, 0)) (by (with_reducible repeat (first | refine blk_drewN ?_ _ | refine blk_drew ?_ | refine blk_alloc ?_ _)); exact BK131.out) hb); have n1_ := Aside0.mk (blk_below (g := gb132) (o := .cells #[.bool a0_5, .bool a0_6, .bool a0_7, .bool a0_8] 24 (0, 0)) (by (with_reducible repeat (first | refine blk_drewN ?_ _ | refine blk_drew ?_ | refine blk_alloc ?_ _)); exact BK132.out) hb); have n2_ := Aside0.mk (blk_below (g := gb140) (o := .cells #[.bool t135, .bool t136, .bool t137, .bool t138] 24 (0, 0)) (by (with_reducible repeat (first | refine blk_drewN ?_ _ | refine blk_drew ?_ | refine blk_alloc ?_ _)); exact BK140.out) hb); have n3_ := Aside0.mk (below_step (by repeat (first | (with_reducible first | exact HB.out | apply below_alloc | apply pw_below_drewN | apply below_drew1 | refine below_set ?_ GE131.out | refine below_set ?_ GE132.out | refine below_set ?_ GE140.out) | exact HB.out)) hb); clear BK131; clear BK132; clear BK140; clear HB; have BK131 := n0_; have BK132 := n1_; have BK140 := n2_; have HB := n3_; clear n0_ n1_ n2_ n3_; (try clear hb); (try clear hb2); (try clear hk); (try clear hi)))
            go_ret
            exact ⟨by first | rfl | (simp [errW_none, errW_some] <;> rfl) | (simp [*, errW_none, errW_some] <;> rfl), by repeat (first | (with_reducible first | exact HB.out | apply below_alloc | apply pw_below_drewN | apply below_drew1 | refine below_set ?_ GE131.out | refine below_set ?_ GE132.out | refine below_set ?_ GE140.out) | exact HB.out)⟩
        · rw [if_neg c9] at H
          have c9b0 : (t143 == (a0_2 == a0_3)) = false := by simpa using c9
          (try (have c9b1 : decide (t143 = (a0_2 == a0_3)) = false := by simpa using c9))
          (try (have c9b2 : (t143 == (a0_2 == a0_3)) = false := by simpa using c9))
          (try (have c9b3 : ¬ (t143 = (a0_2 == a0_3)) := by simpa using c9))
          clear c9
          obtain rfl := Option.some.inj H
          go_enter Try.func5, Try.ntmps5
          try go_wp2_with (first | ((with_reducible refine gate_dst (N := 1) rfl ?_); refine box_event ?hg (N := 1) ?hd (cs := #[.int .i64 a0_0, .bool a0_1, .int .u32 a0_2, .int .u32 a0_3, .int .u32 a0_4, .bool a0_5, .bool a0_6, .bool a0_7, .bool a0_8]) (t := 26) ?hr ?_; (case hd => rfl); (case hg => rfl); (case hr => first | (go_simp; done) | (go_simp; rfl)); intro gb131 hg w112 hbox hb; have n0_ := Aside0.mk (below_step (by repeat (first | (with_reducible first | exact HB.out | apply below_alloc | apply pw_below_drewN | apply below_drew1) | exact HB.out)) hb); have n1_ := Aside0.mk (hbox); have n2_ := Aside0.mk ((by rw [hg]; exact (below_size (by repeat (first | (with_reducible first | exact HB.out | apply below_alloc | apply pw_below_drewN | apply below_drew1) | exact HB.out))) : w.heap.size ≤ gb131)); have n3_ := Aside0.mk ((by rw [hg]; exact (below_size (by repeat (first | (with_reducible first | exact HB.out | apply below_alloc | apply pw_below_drewN | apply below_drew1) | exact HB.out))) : w.heap.size ≤ gb131)); clear HB; have HB := n0_; have BK131 := n1_; have GW131 := n2_; have GE131 := n3_; clear n0_ n1_ n2_ n3_; clear hb hbox hg))
          have n0_ := Aside0.mk (blk_drew BK131.out)
          have n1_ := Aside0.mk (below_drew1 HB.out)
          clear BK131
          clear HB
          have BK131 := n0_
          have HB := n1_
          clear n0_ n1_
          refine start_ (n := 13) (S := fun w' => w'.cell? ⟨gb131, 0, none⟩ = some (.int .i64 a0_0) ∧ w'.cell? ⟨gb131, 1, none⟩ = some (.bool a0_1) ∧ w'.cell? ⟨gb131, 2, none⟩ = some (.int .u32 a0_2) ∧ w'.cell? ⟨gb131, 3, none⟩ = some (.int .u32 a0_3) ∧ w'.cell? ⟨gb131, 4, none⟩ = some (.int .u32 a0_4) ∧ w'.cell? ⟨gb131, 5, none⟩ = some (.bool a0_5) ∧ w'.cell? ⟨gb131, 6, none⟩ = some (.bool a0_6) ∧ w'.cell? ⟨gb131, 7, none⟩ = some (.bool a0_7) ∧ w'.cell? ⟨gb131, 8, none⟩ = some (.bool a0_8)) (ds := []) #[false, false, false, false, false, false, false, false, false, false, false, false, false] (by kernel_rfl) rfl rfl ⟨(blk_cell BK131.out 0).trans rfl, (blk_cell BK131.out 1).trans rfl, (blk_cell BK131.out 2).trans rfl, (blk_cell BK131.out 3).trans rfl, (blk_cell BK131.out 4).trans rfl, (blk_cell BK131.out 5).trans rfl, (blk_cell BK131.out 6).trans rfl, (blk_cell BK131.out 7).trans rfl, (blk_cell BK131.out 8).trans rfl⟩ (fun hHeld => ?_); refine with_tabW spinetlaw03_AluCompares.tab1 spinetlaw03_AluCompares.bits1 (fun HT_ HW_ => ?_)
          generalize w112.drew = w113 at BK131 HB hHeld ⊢
          refine pure_ (i := 0) (N := some 13) (v := ?_) (a' := ?_) #[true, false, false, false, false, false, false, false, false, false, false, false, false] rfl rfl (any_of HT_.out (by kernel_rfl)) (fun _ _ _ h => h) (Or.inl ⟨by rfl, ?_⟩) ?_ ?_
          rotate_left
          · intro w'
            go_simp
            with_reducible rfl
          rotate_left
          · simp only [Act.put, List.setIfInBounds_toArray, List.set_cons_zero, List.set_cons_succ, i64_w, i32_w]
            rfl
          refine pure_ (i := 2) (N := some 15) (v := ?_) (a' := ?_) #[true, false, true, false, false, false, false, false, false, false, false, false, false] rfl rfl (any_of HT_.out (by kernel_rfl)) (fun _ _ _ h => h) (Or.inl ⟨by rfl, ?_⟩) ?_ ?_
          rotate_left
          · intro w'
            go_simp
            with_reducible rfl
          rotate_left
          · simp only [Act.put, List.setIfInBounds_toArray, List.set_cons_zero, List.set_cons_succ, i64_w, i32_w]
            rfl
          refine pure_ (i := 4) (N := some 17) (v := ?_) (a' := ?_) #[true, false, true, false, true, false, false, false, false, false, false, false, false] rfl rfl (any_of HT_.out (by kernel_rfl)) (fun _ _ _ h => h) (Or.inl ⟨by rfl, ?_⟩) ?_ ?_
          rotate_left
          · intro w'
            go_simp
            with_reducible rfl
          rotate_left
          · simp only [Act.put, List.setIfInBounds_toArray, List.set_cons_zero, List.set_cons_succ, i64_w, i32_w]
            rfl
          refine pure_ (i := 6) (N := some 19) (v := ?_) (a' := ?_) #[true, false, true, false, true, false, true, false, false, false, false, false, false] rfl rfl (any_of HT_.out (by kernel_rfl)) (fun _ _ _ h => h) (Or.inl ⟨by rfl, ?_⟩) ?_ ?_
          rotate_left
          · intro w'
            go_simp
            with_reducible rfl
          rotate_left
          · simp only [Act.put, List.setIfInBounds_toArray, List.set_cons_zero, List.set_cons_succ, i64_w, i32_w]
            rfl
          refine take_ (i := 1) (N := some 14) (v := ?_) (a' := ?_) #[true, true, true, false, true, false, true, false, false, false, false, false, false] rfl rfl (take_ofW HT_.out HW_.out (by kernel_rfl)) (fun _ _ _ h => h) (Or.inl ⟨by rfl, ?_⟩) hHeld ?_ ?_
          rotate_left
          · rintro w' ⟨s0, s1, s2, s3, s4, s5, s6, s7, s8⟩
            go_simp
            with_reducible rfl
          rotate_left
          · simp only [Act.put, List.setIfInBounds_toArray, List.set_cons_zero, List.set_cons_succ, i64_w, i32_w]
            rfl
          refine take_ (i := 3) (N := some 16) (v := ?_) (a' := ?_) #[true, true, true, true, true, false, true, false, false, false, false, false, false] rfl rfl (take_ofW HT_.out HW_.out (by kernel_rfl)) (fun _ _ _ h => h) (Or.inl ⟨by rfl, ?_⟩) hHeld ?_ ?_
          rotate_left
          · rintro w' ⟨s0, s1, s2, s3, s4, s5, s6, s7, s8⟩
            go_simp
            with_reducible rfl
          rotate_left
          · simp only [Act.put, List.setIfInBounds_toArray, List.set_cons_zero, List.set_cons_succ, i64_w, i32_w]
            rfl
          refine take_ (i := 5) (N := some 18) (v := ?_) (a' := ?_) #[true, true, true, true, true, true, true, false, false, false, false, false, false] rfl rfl (take_ofW HT_.out HW_.out (by kernel_rfl)) (fun _ _ _ h => h) (Or.inl ⟨by rfl, ?_⟩) hHeld ?_ ?_
          rotate_left
          · rintro w' ⟨s0, s1, s2, s3, s4, s5, s6, s7, s8⟩
            go_simp
            with_reducible rfl
          rotate_left
          · simp only [Act.put, List.setIfInBounds_toArray, List.set_cons_zero, List.set_cons_succ, i64_w, i32_w]
            rfl
          refine take_ (i := 7) (N := some 20) (v := ?_) (a' := ?_) #[true, true, true, true, true, true, true, true, false, false, false, false, false] rfl rfl (take_ofW HT_.out HW_.out (by kernel_rfl)) (fun _ _ _ h => h) (Or.inl ⟨by rfl, ?_⟩) hHeld ?_ ?_
          rotate_left
          · rintro w' ⟨s0, s1, s2, s3, s4, s5, s6, s7, s8⟩
            go_simp
            with_reducible rfl
          rotate_left
          · simp only [Act.put, List.setIfInBounds_toArray, List.set_cons_zero, List.set_cons_succ, i64_w, i32_w]
            rfl
          refine one_ (i := 8) (N := some 6) #[true, true, true, true, true, true, true, true, true, false, false, false, false] rfl rfl (one_of HT_.out (by kernel_rfl)) (by decide) (fun K hK => ?_)
          refine box_step ?hg (N := 6) ?hd (cs := #[.bool false, .bool false, .bool false, .bool false]) (t := 24) ?hr ?_; (case hd => rfl); (case hg => rfl); (case hr => first | (go_simp; done) | (go_simp; rfl))
          intro gb132 hg w114 hbox hb
          have n0_ := Aside0.mk (blk_below (g := gb131) (o := .cells #[.int .i64 a0_0, .bool a0_1, .int .u32 a0_2, .int .u32 a0_3, .int .u32 a0_4, .bool a0_5, .bool a0_6, .bool a0_7, .bool a0_8] 26 (0, 0)) (by (with_reducible repeat (first | refine blk_drewN ?_ _ | refine blk_drew ?_ | refine blk_alloc ?_ _)); exact BK131.out) hb)
          have n1_ := Aside0.mk (below_step (by repeat (first | (with_reducible first | exact HB.out | apply below_alloc | apply pw_below_drewN | apply below_drew1 | refine below_set ?_ GE131.out) | exact HB.out)) hb)
          have n2_ := Aside0.mk (hbox)
          have n3_ := Aside0.mk ((by rw [hg]; exact (below_size (by repeat (first | (with_reducible first | exact HB.out | apply below_alloc | apply pw_below_drewN | apply below_drew1 | refine below_set ?_ GE131.out) | exact HB.out))) : w.heap.size ≤ gb132))
          have n4_ := Aside0.mk ((by rw [hg]; exact (below_size (by repeat (first | (with_reducible first | exact HB.out | apply below_alloc | apply pw_below_drewN | apply below_drew1 | refine below_set ?_ GE131.out) | exact HB.out))) : w.heap.size ≤ gb132))
          have n5_ := Aside0.mk ((by rw [hg]; exact Nat.ne_of_lt (blk_lt (g := gb131) (o := .cells #[.int .i64 a0_0, .bool a0_1, .int .u32 a0_2, .int .u32 a0_3, .int .u32 a0_4, .bool a0_5, .bool a0_6, .bool a0_7, .bool a0_8] 26 (0, 0)) (by (with_reducible repeat (first | refine blk_drewN ?_ _ | refine blk_drew ?_ | refine blk_alloc ?_ _)); exact BK131.out)) : gb131 ≠ gb132))
          have n6_ := Aside0.mk ((by rw [hg]; exact Nat.ne_of_gt (blk_lt (g := gb131) (o := .cells #[.int .i64 a0_0, .bool a0_1, .int .u32 a0_2, .int .u32 a0_3, .int .u32 a0_4, .bool a0_5, .bool a0_6, .bool a0_7, .bool a0_8] 26 (0, 0)) (by (with_reducible repeat (first | refine blk_drewN ?_ _ | refine blk_drew ?_ | refine blk_alloc ?_ _)); exact BK131.out)) : gb132 ≠ gb131))
          clear BK131
          clear HB
          have BK131 := n0_
          have HB := n1_
          have BK132 := n2_
          have GW132 := n3_
          have GE132 := n4_
          have NB131_132 := n5_
          have NB132_131 := n6_
          clear n0_ n1_ n2_ n3_ n4_ n5_ n6_
          clear hb hbox hg
          refine hK.out _ _ ⟨(blk_cell BK131.out 0).trans rfl, (blk_cell BK131.out 1).trans rfl, (blk_cell BK131.out 2).trans rfl, (blk_cell BK131.out 3).trans rfl, (blk_cell BK131.out 4).trans rfl, (blk_cell BK131.out 5).trans rfl, (blk_cell BK131.out 6).trans rfl, (blk_cell BK131.out 7).trans rfl, (blk_cell BK131.out 8).trans rfl⟩ (fun hHeld => ?_)
          clear hK K
          refine norm_ (a' := ?_) ?_ ?_
          rotate_left
          · show Act.put _ (some 6) _ = _
            simp only [Act.put, List.setIfInBounds_toArray, List.set_cons_zero, List.set_cons_succ, i64_w, i32_w]
            rfl
          refine pure_ (i := 9) (N := some 3) (v := ?_) (a' := ?_) #[true, true, true, true, true, true, true, true, true, true, false, false, false] rfl rfl (any_of HT_.out (by kernel_rfl)) (fun _ _ _ h => h) (Or.inl ⟨by rfl, ?_⟩) ?_ ?_
          rotate_left
          · intro w'
            go_simp
            with_reducible rfl
          rotate_left
          · simp only [Act.put, List.setIfInBounds_toArray, List.set_cons_zero, List.set_cons_succ, i64_w, i32_w]
            rfl
          refine pure_ (i := 10) (N := some 4) (v := ?_) (a' := ?_) #[true, true, true, true, true, true, true, true, true, true, true, false, false] rfl rfl (any_of HT_.out (by kernel_rfl)) (fun _ _ _ h => h) (Or.inl ⟨by rfl, ?_⟩) ?_ ?_
          rotate_left
          · intro w'
            go_simp
            with_reducible rfl
          rotate_left
          · simp only [Act.put, List.setIfInBounds_toArray, List.set_cons_zero, List.set_cons_succ, i64_w, i32_w]
            rfl
          refine pure_ (i := 11) (N := some 5) (v := ?_) (a' := ?_) #[true, true, true, true, true, true, true, true, true, true, true, true, false] rfl rfl (any_of HT_.out (by kernel_rfl)) (fun _ _ _ h => h) (Or.inl ⟨by rfl, ?_⟩) ?_ ?_
          rotate_left
          · intro w'
            go_simp
            with_reducible rfl
          rotate_left
          · simp only [Act.put, List.setIfInBounds_toArray, List.set_cons_zero, List.set_cons_succ, i64_w, i32_w]
            rfl
          refine one_ (i := 12) (N := none) #[true, true, true, true, true, true, true, true, true, true, true, true, true] rfl rfl (one_of HT_.out (by kernel_rfl)) (by decide) (fun K hK => ?_)
          have hs115 : w114.cell? ⟨gb132, 0, none⟩ = some (.bool false) := (blk_cell BK132.out 0).trans rfl
          have hfs115 := blk_frozen BK132.out 0
          have hns115_0 := NB131_132.out
          have hms115_0 := NB132_131.out
          have hs116 : w114.cell? ⟨gb132, 1, none⟩ = some (.bool false) := (blk_cell BK132.out 1).trans rfl
          have hfs116 := blk_frozen BK132.out 1
          have hns116_0 := NB131_132.out
          have hms116_0 := NB132_131.out
          have hs117 : w114.cell? ⟨gb132, 2, none⟩ = some (.bool false) := (blk_cell BK132.out 2).trans rfl
          have hfs117 := blk_frozen BK132.out 2
          have hns117_0 := NB131_132.out
          have hms117_0 := NB132_131.out
          have hs118 : w114.cell? ⟨gb132, 3, none⟩ = some (.bool false) := (blk_cell BK132.out 3).trans rfl
          have hfs118 := blk_frozen BK132.out 3
          have hns118_0 := NB131_132.out
          have hms118_0 := NB132_131.out
          refine skip_ (w1 := ?_) (by rfl) rfl ?_ ?_
          rotate_left
          · go_simp
            rfl
          refine hK.out _ _ ⟨((cell_far (p := ⟨gb132, _, none⟩) NB131_132.out _).trans (((cell_far (p := ⟨gb132, _, none⟩) NB131_132.out _).trans (((cell_far (p := ⟨gb132, _, none⟩) NB131_132.out _).trans (((cell_far (p := ⟨gb132, _, none⟩) NB131_132.out _).trans (hHeld.1)))))))), ((cell_far (p := ⟨gb132, _, none⟩) NB131_132.out _).trans (((cell_far (p := ⟨gb132, _, none⟩) NB131_132.out _).trans (((cell_far (p := ⟨gb132, _, none⟩) NB131_132.out _).trans (((cell_far (p := ⟨gb132, _, none⟩) NB131_132.out _).trans (hHeld.2.1)))))))), ((cell_far (p := ⟨gb132, _, none⟩) NB131_132.out _).trans (((cell_far (p := ⟨gb132, _, none⟩) NB131_132.out _).trans (((cell_far (p := ⟨gb132, _, none⟩) NB131_132.out _).trans (((cell_far (p := ⟨gb132, _, none⟩) NB131_132.out _).trans (hHeld.2.2.1)))))))), ((cell_far (p := ⟨gb132, _, none⟩) NB131_132.out _).trans (((cell_far (p := ⟨gb132, _, none⟩) NB131_132.out _).trans (((cell_far (p := ⟨gb132, _, none⟩) NB131_132.out _).trans (((cell_far (p := ⟨gb132, _, none⟩) NB131_132.out _).trans (hHeld.2.2.2.1)))))))), ((cell_far (p := ⟨gb132, _, none⟩) NB131_132.out _).trans (((cell_far (p := ⟨gb132, _, none⟩) NB131_132.out _).trans (((cell_far (p := ⟨gb132, _, none⟩) NB131_132.out _).trans (((cell_far (p := ⟨gb132, _, none⟩) NB131_132.out _).trans (hHeld.2.2.2.2.1)))))))), ((cell_far (p := ⟨gb132, _, none⟩) NB131_132.out _).trans (((cell_far (p := ⟨gb132, _, none⟩) NB131_132.out _).trans (((cell_far (p := ⟨gb132, _, none⟩) NB131_132.out _).trans (((cell_far (p := ⟨gb132, _, none⟩) NB131_132.out _).trans (hHeld.2.2.2.2.2.1)))))))), ((cell_far (p := ⟨gb132, _, none⟩) NB131_132.out _).trans (((cell_far (p := ⟨gb132, _, none⟩) NB131_132.out _).trans (((cell_far (p := ⟨gb132, _, none⟩) NB131_132.out _).trans (((cell_far (p := ⟨gb132, _, none⟩) NB131_132.out _).trans (hHeld.2.2.2.2.2.2.1)))))))), ((cell_far (p := ⟨gb132, _, none⟩) NB131_132.out _).trans (((cell_far (p := ⟨gb132, _, none⟩) NB131_132.out _).trans (((cell_far (p := ⟨gb132, _, none⟩) NB131_132.out _).trans (((cell_far (p := ⟨gb132, _, none⟩) NB131_132.out _).trans (hHeld.2.2.2.2.2.2.2.1)))))))), ((cell_far (p := ⟨gb132, _, none⟩) NB131_132.out _).trans (((cell_far (p := ⟨gb132, _, none⟩) NB131_132.out _).trans (((cell_far (p := ⟨gb132, _, none⟩) NB131_132.out _).trans (((cell_far (p := ⟨gb132, _, none⟩) NB131_132.out _).trans (hHeld.2.2.2.2.2.2.2.2))))))))⟩ (fun hHeld => ?_)
          clear hK K
          refine done_ (done_of HT_.out (by kernel_rfl)) ?_
          have hnb119 := NB132_131.out
          have hnc119 := NB131_132.out
          have hcz120_0 : w114.cell? ⟨gb132, 0, none⟩ = some (.bool false) := (blk_cell BK132.out 0).trans rfl
          have hcz120_1 : w114.cell? ⟨gb132, 1, none⟩ = some (.bool false) := (blk_cell BK132.out 1).trans rfl
          have hcz120_2 : w114.cell? ⟨gb132, 2, none⟩ = some (.bool false) := (blk_cell BK132.out 2).trans rfl
          have hcz120_3 : w114.cell? ⟨gb132, 3, none⟩ = some (.bool false) := (blk_cell BK132.out 3).trans rfl
          have hfz120_0 := blk_frozen BK132.out 0
          have hfz120_1 := blk_frozen BK132.out 1
          have hfz120_2 := blk_frozen BK132.out 2
          have hfz120_3 := blk_frozen BK132.out 3
          try go_wp2_with (first | ((with_reducible refine gate_callee (f := 9) rfl ?_); refine goesL_ (some 26) rfl rfl Try.func9 (by kernel_rfl) rfl #[.int .i64 9, .bool false, .int .u32 a0_2, .int .u32 a0_3, .int .u32 a0_4, .agg #[.bool a0_5, .bool a0_6, .bool a0_7, .bool a0_8]] rfl (by (try simp only [List.map_toArray, List.map_cons, List.map_nil]); first | done | rfl | (simp only [List.length_drop, List.length_take]; rfl)) ?_; (with_reducible refine (alu_Do.calls k 9 false a0_2 a0_3 a0_4 a0_5 a0_6 a0_7 a0_8 t133 t134 t135 t136 t137 t138 true _ A2.out).mono ?_); rintro e w121 ⟨rfl, hb⟩; refine ⟨_, rfl, ?_⟩; have n0_ := Aside0.mk (blk_below (g := gb131) (o := .cells #[.int .i64 a0_0, .bool a0_1, .int .u32 a0_2, .int .u32 a0_3, .int .u32 a0_4, .bool a0_5, .bool a0_6, .bool a0_7, .bool a0_8] 26 (0, 0)) (by (with_reducible repeat (first | refine blk_drewN ?_ _ | refine blk_drew ?_ | refine blk_alloc ?_ _)); refine blk_far ?_ NB131_132.out _; (with_reducible repeat (first | refine blk_drewN ?_ _ | refine blk_drew ?_ | refine blk_alloc ?_ _)); refine blk_far ?_ NB131_132.out _; (with_reducible repeat (first | refine blk_drewN ?_ _ | refine blk_drew ?_ | refine blk_alloc ?_ _)); refine blk_far ?_ NB131_132.out _; (with_reducible repeat (first | refine blk_drewN ?_ _ | refine blk_drew ?_ | refine blk_alloc ?_ _)); refine blk_far ?_ NB131_132.out _; (with_reducible repeat (first | refine blk_drewN ?_ _ | refine blk_drew ?_ | refine blk_alloc ?_ _)); exact BK131.out) hb); have n1_ := Aside0.mk (blk_below (g := gb132) (o := .cells #[.bool a0_5, .bool a0_6, .bool a0_7, .bool a0_8] 24 (0, 0)) (by (with_reducible repeat (first | refine blk_drewN ?_ _ | refine blk_drew ?_ | refine blk_alloc ?_ _)); refine blk_put (cs := #[.bool a0_5, .bool a0_6, .bool a0_7, .bool false]) ?_ 3 _ rfl; (with_reducible repeat (first | refine blk_drewN ?_ _ | refine blk_drew ?_ | refine blk_alloc ?_ _)); refine blk_put (cs := #[.bool a0_5, .bool a0_6, .bool false, .bool false]) ?_ 2 _ rfl; (with_reducible repeat (first | refine blk_drewN ?_ _ | refine blk_drew ?_ | refine blk_alloc ?_ _)); refine blk_put (cs := #[.bool a0_5, .bool false, .bool false, .bool false]) ?_ 1 _ rfl; (with_reducible repeat (first | refine blk_drewN ?_ _ | refine blk_drew ?_ | refine blk_alloc ?_ _)); refine blk_put (cs := #[.bool false, .bool false, .bool false, .bool false]) ?_ 0 _ rfl; (with_reducible repeat (first | refine blk_drewN ?_ _ | refine blk_drew ?_ | refine blk_alloc ?_ _)); exact BK132.out) hb); have n2_ := Aside0.mk (below_step (by repeat (first | (with_reducible first | exact HB.out | apply below_alloc | apply pw_below_drewN | apply below_drew1 | refine below_set ?_ GE131.out | refine below_set ?_ GE132.out) | exact HB.out)) hb); clear BK131; clear BK132; clear HB; have BK131 := n0_; have BK132 := n1_; have HB := n2_; clear n0_ n1_ n2_; (try clear hb); (try clear hb2); (try clear hk); (try clear hi)) | ((with_reducible refine gate_dst (N := 9) rfl ?_); refine box_event ?hg (N := 9) ?hd (cs := #[.bool false, .bool false, .bool false, .bool false]) (t := 24) ?hr ?_; (case hd => rfl); (case hg => rfl); (case hr => first | (go_simp; done) | (go_simp; rfl)); intro gb140 hg w122 hbox hb; have n0_ := Aside0.mk (blk_below (g := gb131) (o := .cells #[.int .i64 a0_0, .bool a0_1, .int .u32 a0_2, .int .u32 a0_3, .int .u32 a0_4, .bool a0_5, .bool a0_6, .bool a0_7, .bool a0_8] 26 (0, 0)) (by (with_reducible repeat (first | refine blk_drewN ?_ _ | refine blk_drew ?_ | refine blk_alloc ?_ _)); exact BK131.out) hb); have n1_ := Aside0.mk (blk_below (g := gb132) (o := .cells #[.bool a0_5, .bool a0_6, .bool a0_7, .bool a0_8] 24 (0, 0)) (by (with_reducible repeat (first | refine blk_drewN ?_ _ | refine blk_drew ?_ | refine blk_alloc ?_ _)); exact BK132.out) hb); have n2_ := Aside0.mk (below_step (by repeat (first | (with_reducible first | exact HB.out | apply below_alloc | apply pw_below_drewN | apply below_drew1 | refine below_set ?_ GE131.out | refine below_set ?_ GE132.out) | exact HB.out)) hb); have n3_ := Aside0.mk (hbox); have n4_ := Aside0.mk ((by rw [hg]; exact (below_size (by repeat (first | (with_reducible first | exact HB.out | apply below_alloc | apply pw_below_drewN | apply below_drew1 | refine below_set ?_ GE131.out | refine below_set ?_ GE132.out) | exact HB.out))) : w.heap.size ≤ gb140)); have n5_ := Aside0.mk ((by rw [hg]; exact (below_size (by repeat (first | (with_reducible first | exact HB.out | apply below_alloc | apply pw_below_drewN | apply below_drew1 | refine below_set ?_ GE131.out | refine below_set ?_ GE132.out) | exact HB.out))) : w.heap.size ≤ gb140)); have n6_ := Aside0.mk ((by rw [hg]; exact Nat.ne_of_lt (blk_lt (g := gb131) (o := .cells #[.int .i64 a0_0, .bool a0_1, .int .u32 a0_2, .int .u32 a0_3, .int .u32 a0_4, .bool a0_5, .bool a0_6, .bool a0_7, .bool a0_8] 26 (0, 0)) (by (with_reducible repeat (first | refine blk_drewN ?_ _ | refine blk_drew ?_ | refine blk_alloc ?_ _)); exact BK131.out)) : gb131 ≠ gb140)); have n7_ := Aside0.mk ((by rw [hg]; exact Nat.ne_of_gt (blk_lt (g := gb131) (o := .cells #[.int .i64 a0_0, .bool a0_1, .int .u32 a0_2, .int .u32 a0_3, .int .u32 a0_4, .bool a0_5, .bool a0_6, .bool a0_7, .bool a0_8] 26 (0, 0)) (by (with_reducible repeat (first | refine blk_drewN ?_ _ | refine blk_drew ?_ | refine blk_alloc ?_ _)); exact BK131.out)) : gb140 ≠ gb131)); have n8_ := Aside0.mk ((by rw [hg]; exact Nat.ne_of_lt (blk_lt (g := gb132) (o := .cells #[.bool a0_5, .bool a0_6, .bool a0_7, .bool a0_8] 24 (0, 0)) (by (with_reducible repeat (first | refine blk_drewN ?_ _ | refine blk_drew ?_ | refine blk_alloc ?_ _)); exact BK132.out)) : gb132 ≠ gb140)); have n9_ := Aside0.mk ((by rw [hg]; exact Nat.ne_of_gt (blk_lt (g := gb132) (o := .cells #[.bool a0_5, .bool a0_6, .bool a0_7, .bool a0_8] 24 (0, 0)) (by (with_reducible repeat (first | refine blk_drewN ?_ _ | refine blk_drew ?_ | refine blk_alloc ?_ _)); exact BK132.out)) : gb140 ≠ gb132)); clear BK131; clear BK132; clear HB; have BK131 := n0_; have BK132 := n1_; have HB := n2_; have BK140 := n3_; have GW140 := n4_; have GE140 := n5_; have NB131_140 := n6_; have NB140_131 := n7_; have NB132_140 := n8_; have NB140_132 := n9_; clear n0_ n1_ n2_ n3_ n4_ n5_ n6_ n7_ n8_ n9_; clear hb hbox hg; have hnb123 := NB140_131.out; have hnc123 := NB131_140.out; have hnb124 := NB140_132.out; have hnc124 := NB132_140.out; have hcz125_0 : w122.cell? ⟨gb140, 0, none⟩ = some (.bool false) := (blk_cell BK140.out 0).trans rfl; have hcz125_1 : w122.cell? ⟨gb140, 1, none⟩ = some (.bool false) := (blk_cell BK140.out 1).trans rfl; have hcz125_2 : w122.cell? ⟨gb140, 2, none⟩ = some (.bool false) := (blk_cell BK140.out 2).trans rfl; have hcz125_3 : w122.cell? ⟨gb140, 3, none⟩ = some (.bool false) := (blk_cell BK140.out 3).trans rfl; have hfz125_0 := blk_frozen BK140.out 0; have hfz125_1 := blk_frozen BK140.out 1; have hfz125_2 := blk_frozen BK140.out 2; have hfz125_3 := blk_frozen BK140.out 3) | (go_at_call 13; (with_reducible refine (alu_Holds.calls k 5 t135 t136 t137 t138 t141 _ A4.out).mono ?_); rintro e w126 ⟨rfl, hb⟩; have n0_ := Aside0.mk (blk_below (g := gb131) (o := .cells #[.int .i64 a0_0, .bool a0_1, .int .u32 a0_2, .int .u32 a0_3, .int .u32 a0_4, .bool a0_5, .bool a0_6, .bool a0_7, .bool a0_8] 26 (0, 0)) (by (with_reducible repeat (first | refine blk_drewN ?_ _ | refine blk_drew ?_ | refine blk_alloc ?_ _)); refine blk_far ?_ NB131_140.out _; (with_reducible repeat (first | refine blk_drewN ?_ _ | refine blk_drew ?_ | refine blk_alloc ?_ _)); refine blk_far ?_ NB131_140.out _; (with_reducible repeat (first | refine blk_drewN ?_ _ | refine blk_drew ?_ | refine blk_alloc ?_ _)); refine blk_far ?_ NB131_140.out _; (with_reducible repeat (first | refine blk_drewN ?_ _ | refine blk_drew ?_ | refine blk_alloc ?_ _)); refine blk_far ?_ NB131_140.out _; (with_reducible repeat (first | refine blk_drewN ?_ _ | refine blk_drew ?_ | refine blk_alloc ?_ _)); exact BK131.out) hb); have n1_ := Aside0.mk (blk_below (g := gb132) (o := .cells #[.bool a0_5, .bool a0_6, .bool a0_7, .bool a0_8] 24 (0, 0)) (by (with_reducible repeat (first | refine blk_drewN ?_ _ | refine blk_drew ?_ | refine blk_alloc ?_ _)); refine blk_far ?_ NB132_140.out _; (with_reducible repeat (first | refine blk_drewN ?_ _ | refine blk_drew ?_ | refine blk_alloc ?_ _)); refine blk_far ?_ NB132_140.out _; (with_reducible repeat (first | refine blk_drewN ?_ _ | refine blk_drew ?_ | refine blk_alloc ?_ _)); refine blk_far ?_ NB132_140.out _; (with_reducible repeat (first | refine blk_drewN ?_ _ | refine blk_drew ?_ | refine blk_alloc ?_ _)); refine blk_far ?_ NB132_140.out _; (with_reducible repeat (first | refine blk_drewN ?_ _ | refine blk_drew ?_ | refine blk_alloc ?_ _)); exact BK132.out) hb); have n2_ := Aside0.mk (blk_below (g := gb140) (o := .cells #[.bool t135, .bool t136, .bool t137, .bool t138] 24 (0, 0)) (by (with_reducible repeat (first | refine blk_drewN ?_ _ | refine blk_drew ?_ | refine blk_alloc ?_ _)); refine blk_put (cs := #[.bool t135, .bool t136, .bool t137, .bool false]) ?_ 3 _ rfl; (with_reducible repeat (first | refine blk_drewN ?_ _ | refine blk_drew ?_ | refine blk_alloc ?_ _)); refine blk_put (cs := #[.bool t135, .bool t136, .bool false, .bool false]) ?_ 2 _ rfl; (with_reducible repeat (first | refine blk_drewN ?_ _ | refine blk_drew ?_ | refine blk_alloc ?_ _)); refine blk_put (cs := #[.bool t135, .bool false, .bool false, .bool false]) ?_ 1 _ rfl; (with_reducible repeat (first | refine blk_drewN ?_ _ | refine blk_drew ?_ | refine blk_alloc ?_ _)); refine blk_put (cs := #[.bool false, .bool false, .bool false, .bool false]) ?_ 0 _ rfl; (with_reducible repeat (first | refine blk_drewN ?_ _ | refine blk_drew ?_ | refine blk_alloc ?_ _)); exact BK140.out) hb); have n3_ := Aside0.mk (below_step (by repeat (first | (with_reducible first | exact HB.out | apply below_alloc | apply pw_below_drewN | apply below_drew1 | refine below_set ?_ GE131.out | refine below_set ?_ GE132.out | refine below_set ?_ GE140.out) | exact HB.out)) hb); clear BK131; clear BK132; clear BK140; clear HB; have BK131 := n0_; have BK132 := n1_; have BK140 := n2_; have HB := n3_; clear n0_ n1_ n2_ n3_; (try clear hb); (try clear hb2); (try clear hk); (try clear hi); have hcz127_0 : w126.cell? ⟨gb140, 0, none⟩ = some (.bool t135) := (blk_cell BK140.out 0).trans rfl; have hcz127_1 : w126.cell? ⟨gb140, 1, none⟩ = some (.bool t136) := (blk_cell BK140.out 1).trans rfl; have hcz127_2 : w126.cell? ⟨gb140, 2, none⟩ = some (.bool t137) := (blk_cell BK140.out 2).trans rfl; have hcz127_3 : w126.cell? ⟨gb140, 3, none⟩ = some (.bool t138) := (blk_cell BK140.out 3).trans rfl; have hfz127_0 := blk_frozen BK140.out 0; have hfz127_1 := blk_frozen BK140.out 1; have hfz127_2 := blk_frozen BK140.out 2; have hfz127_3 := blk_frozen BK140.out 3) | (go_at_call 13; (with_reducible refine (alu_Holds.calls k 2 t135 t136 t137 t138 t142 _ A6.out).mono ?_); rintro e w128 ⟨rfl, hb⟩; have n0_ := Aside0.mk (blk_below (g := gb131) (o := .cells #[.int .i64 a0_0, .bool a0_1, .int .u32 a0_2, .int .u32 a0_3, .int .u32 a0_4, .bool a0_5, .bool a0_6, .bool a0_7, .bool a0_8] 26 (0, 0)) (by (with_reducible repeat (first | refine blk_drewN ?_ _ | refine blk_drew ?_ | refine blk_alloc ?_ _)); exact BK131.out) hb); have n1_ := Aside0.mk (blk_below (g := gb132) (o := .cells #[.bool a0_5, .bool a0_6, .bool a0_7, .bool a0_8] 24 (0, 0)) (by (with_reducible repeat (first | refine blk_drewN ?_ _ | refine blk_drew ?_ | refine blk_alloc ?_ _)); exact BK132.out) hb); have n2_ := Aside0.mk (blk_below (g := gb140) (o := .cells #[.bool t135, .bool t136, .bool t137, .bool t138] 24 (0, 0)) (by (with_reducible repeat (first | refine blk_drewN ?_ _ | refine blk_drew ?_ | refine blk_alloc ?_ _)); exact BK140.out) hb); have n3_ := Aside0.mk (below_step (by repeat (first | (with_reducible first | exact HB.out | apply below_alloc | apply pw_below_drewN | apply below_drew1 | refine below_set ?_ GE131.out | refine below_set ?_ GE132.out | refine below_set ?_ GE140.out) | exact HB.out)) hb); clear BK131; clear BK132; clear BK140; clear HB; have BK131 := n0_; have BK132 := n1_; have BK140 := n2_; have HB := n3_; clear n0_ n1_ n2_ n3_; (try clear hb); (try clear hb2); (try clear hk); (try clear hi); have hcz129_0 : w128.cell? ⟨gb140, 0, none⟩ = some (.bool t135) := (blk_cell BK140.out 0).trans rfl; have hcz129_1 : w128.cell? ⟨gb140, 1, none⟩ = some (.bool t136) := (blk_cell BK140.out 1).trans rfl; have hcz129_2 : w128.cell? ⟨gb140, 2, none⟩ = some (.bool t137) := (blk_cell BK140.out 2).trans rfl; have hcz129_3 : w128.cell? ⟨gb140, 3, none⟩ = some (.bool t138) := (blk_cell BK140.out 3).trans rfl; have hfz129_0 := blk_frozen BK140.out 0; have hfz129_1 := blk_frozen BK140.out 1; have hfz129_2 := blk_frozen BK140.out 2; have hfz129_3 := blk_frozen BK140.out 3) | (go_at_call 13; (with_reducible refine (alu_Holds.calls k 1 t135 t136 t137 t138 t143 _ A8.out).mono ?_); rintro e w130 ⟨rfl, hb⟩; have n0_ := Aside0.mk (blk_below (g := gb131) (o := .cells #[.int .i64 a0_0, .bool a0_1, .int .u32 a0_2, .int .u32 a0_3, .int .u32 a0_4, .bool a0_5, .bool a0_6, .bool a0_7, .bool a0_8] 26 (0, 0)) (by (with_reducible repeat (first | refine blk_drewN ?_ _ | refine blk_drew ?_ | refine blk_alloc ?_ _)); exact BK131.out) hb); have n1_ := Aside0.mk (blk_below (g := gb132) (o := .cells #[.bool a0_5, .bool a0_6, .bool a0_7, .bool a0_8] 24 (0, 0)) (by (with_reducible repeat (first | refine blk_drewN ?_ _ | refine blk_drew ?_ | refine blk_alloc ?_ _)); exact BK132.out) hb); have n2_ := Aside0.mk (blk_below (g := gb140) (o := .cells #[.bool t135, .bool t136, .bool t137, .bool t138] 24 (0, 0)) (by (with_reducible repeat (first | refine blk_drewN ?_ _ | refine blk_drew ?_ | refine blk_alloc ?_ _)); exact BK140.out) hb); have n3_ := Aside0.mk (below_step (by repeat (first | (with_reducible first | exact HB.out | apply below_alloc | apply pw_below_drewN | apply below_drew1 | refine below_set ?_ GE131.out | refine below_set ?_ GE132.out | refine below_set ?_ GE140.out) | exact HB.out)) hb); clear BK131; clear BK132; clear BK140; clear HB; have BK131 := n0_; have BK132 := n1_; have BK140 := n2_; have HB := n3_; clear n0_ n1_ n2_ n3_; (try clear hb); (try clear hb2); (try clear hk); (try clear hi)))
          go_ret
          exact ⟨by first | rfl | (simp [errW_none, errW_some] <;> rfl) | (simp [*, errW_none, errW_some] <;> rfl), by repeat (first | (with_reducible first | exact HB.out | apply below_alloc | apply pw_below_drewN | apply below_drew1 | refine below_set ?_ GE131.out | refine below_set ?_ GE132.out | refine below_set ?_ GE140.out) | exact HB.out)⟩
      · rw [if_neg c7] at H
        have c7b0 : (t142 == (decide (a0_2 < a0_3))) = false := by simpa using c7
        (try (have c7b1 : decide (t142 = (decide (a0_2 < a0_3))) = false := by simpa using c7))
        (try (have c7b2 : (t142 == (decide (a0_2 < a0_3))) = false := by simpa using c7))
        (try (have c7b3 : ¬ (t142 = (decide (a0_2 < a0_3))) := by simpa using c7))
        clear c7
        obtain rfl := Option.some.inj H
        go_enter Try.func5, Try.ntmps5
        try go_wp2_with (first | ((with_reducible refine gate_dst (N := 1) rfl ?_); refine box_event ?hg (N := 1) ?hd (cs := #[.int .i64 a0_0, .bool a0_1, .int .u32 a0_2, .int .u32 a0_3, .int .u32 a0_4, .bool a0_5, .bool a0_6, .bool a0_7, .bool a0_8]) (t := 26) ?hr ?_; (case hd => rfl); (case hg => rfl); (case hr => first | (go_simp; done) | (go_simp; rfl)); intro gb131 hg w131 hbox hb; have n0_ := Aside0.mk (below_step (by repeat (first | (with_reducible first | exact HB.out | apply below_alloc | apply pw_below_drewN | apply below_drew1) | exact HB.out)) hb); have n1_ := Aside0.mk (hbox); have n2_ := Aside0.mk ((by rw [hg]; exact (below_size (by repeat (first | (with_reducible first | exact HB.out | apply below_alloc | apply pw_below_drewN | apply below_drew1) | exact HB.out))) : w.heap.size ≤ gb131)); have n3_ := Aside0.mk ((by rw [hg]; exact (below_size (by repeat (first | (with_reducible first | exact HB.out | apply below_alloc | apply pw_below_drewN | apply below_drew1) | exact HB.out))) : w.heap.size ≤ gb131)); clear HB; have HB := n0_; have BK131 := n1_; have GW131 := n2_; have GE131 := n3_; clear n0_ n1_ n2_ n3_; clear hb hbox hg))
        have n0_ := Aside0.mk (blk_drew BK131.out)
        have n1_ := Aside0.mk (below_drew1 HB.out)
        clear BK131
        clear HB
        have BK131 := n0_
        have HB := n1_
        clear n0_ n1_
        refine start_ (n := 13) (S := fun w' => w'.cell? ⟨gb131, 0, none⟩ = some (.int .i64 a0_0) ∧ w'.cell? ⟨gb131, 1, none⟩ = some (.bool a0_1) ∧ w'.cell? ⟨gb131, 2, none⟩ = some (.int .u32 a0_2) ∧ w'.cell? ⟨gb131, 3, none⟩ = some (.int .u32 a0_3) ∧ w'.cell? ⟨gb131, 4, none⟩ = some (.int .u32 a0_4) ∧ w'.cell? ⟨gb131, 5, none⟩ = some (.bool a0_5) ∧ w'.cell? ⟨gb131, 6, none⟩ = some (.bool a0_6) ∧ w'.cell? ⟨gb131, 7, none⟩ = some (.bool a0_7) ∧ w'.cell? ⟨gb131, 8, none⟩ = some (.bool a0_8)) (ds := []) #[false, false, false, false, false, false, false, false, false, false, false, false, false] (by kernel_rfl) rfl rfl ⟨(blk_cell BK131.out 0).trans rfl, (blk_cell BK131.out 1).trans rfl, (blk_cell BK131.out 2).trans rfl, (blk_cell BK131.out 3).trans rfl, (blk_cell BK131.out 4).trans rfl, (blk_cell BK131.out 5).trans rfl, (blk_cell BK131.out 6).trans rfl, (blk_cell BK131.out 7).trans rfl, (blk_cell BK131.out 8).trans rfl⟩ (fun hHeld => ?_); refine with_tabW spinetlaw03_AluCompares.tab1 spinetlaw03_AluCompares.bits1 (fun HT_ HW_ => ?_)
        generalize w131.drew = w132 at BK131 HB hHeld ⊢
        refine pure_ (i := 0) (N := some 13) (v := ?_) (a' := ?_) #[true, false, false, false, false, false, false, false, false, false, false, false, false] rfl rfl (any_of HT_.out (by kernel_rfl)) (fun _ _ _ h => h) (Or.inl ⟨by rfl, ?_⟩) ?_ ?_
        rotate_left
        · intro w'
          go_simp
          with_reducible rfl
        rotate_left
        · simp only [Act.put, List.setIfInBounds_toArray, List.set_cons_zero, List.set_cons_succ, i64_w, i32_w]
          rfl
        refine pure_ (i := 2) (N := some 15) (v := ?_) (a' := ?_) #[true, false, true, false, false, false, false, false, false, false, false, false, false] rfl rfl (any_of HT_.out (by kernel_rfl)) (fun _ _ _ h => h) (Or.inl ⟨by rfl, ?_⟩) ?_ ?_
        rotate_left
        · intro w'
          go_simp
          with_reducible rfl
        rotate_left
        · simp only [Act.put, List.setIfInBounds_toArray, List.set_cons_zero, List.set_cons_succ, i64_w, i32_w]
          rfl
        refine pure_ (i := 4) (N := some 17) (v := ?_) (a' := ?_) #[true, false, true, false, true, false, false, false, false, false, false, false, false] rfl rfl (any_of HT_.out (by kernel_rfl)) (fun _ _ _ h => h) (Or.inl ⟨by rfl, ?_⟩) ?_ ?_
        rotate_left
        · intro w'
          go_simp
          with_reducible rfl
        rotate_left
        · simp only [Act.put, List.setIfInBounds_toArray, List.set_cons_zero, List.set_cons_succ, i64_w, i32_w]
          rfl
        refine pure_ (i := 6) (N := some 19) (v := ?_) (a' := ?_) #[true, false, true, false, true, false, true, false, false, false, false, false, false] rfl rfl (any_of HT_.out (by kernel_rfl)) (fun _ _ _ h => h) (Or.inl ⟨by rfl, ?_⟩) ?_ ?_
        rotate_left
        · intro w'
          go_simp
          with_reducible rfl
        rotate_left
        · simp only [Act.put, List.setIfInBounds_toArray, List.set_cons_zero, List.set_cons_succ, i64_w, i32_w]
          rfl
        refine take_ (i := 1) (N := some 14) (v := ?_) (a' := ?_) #[true, true, true, false, true, false, true, false, false, false, false, false, false] rfl rfl (take_ofW HT_.out HW_.out (by kernel_rfl)) (fun _ _ _ h => h) (Or.inl ⟨by rfl, ?_⟩) hHeld ?_ ?_
        rotate_left
        · rintro w' ⟨s0, s1, s2, s3, s4, s5, s6, s7, s8⟩
          go_simp
          with_reducible rfl
        rotate_left
        · simp only [Act.put, List.setIfInBounds_toArray, List.set_cons_zero, List.set_cons_succ, i64_w, i32_w]
          rfl
        refine take_ (i := 3) (N := some 16) (v := ?_) (a' := ?_) #[true, true, true, true, true, false, true, false, false, false, false, false, false] rfl rfl (take_ofW HT_.out HW_.out (by kernel_rfl)) (fun _ _ _ h => h) (Or.inl ⟨by rfl, ?_⟩) hHeld ?_ ?_
        rotate_left
        · rintro w' ⟨s0, s1, s2, s3, s4, s5, s6, s7, s8⟩
          go_simp
          with_reducible rfl
        rotate_left
        · simp only [Act.put, List.setIfInBounds_toArray, List.set_cons_zero, List.set_cons_succ, i64_w, i32_w]
          rfl
        refine take_ (i := 5) (N := some 18) (v := ?_) (a' := ?_) #[true, true, true, true, true, true, true, false, false, false, false, false, false] rfl rfl (take_ofW HT_.out HW_.out (by kernel_rfl)) (fun _ _ _ h => h) (Or.inl ⟨by rfl, ?_⟩) hHeld ?_ ?_
        rotate_left
        · rintro w' ⟨s0, s1, s2, s3, s4, s5, s6, s7, s8⟩
          go_simp
          with_reducible rfl
        rotate_left
        · simp only [Act.put, List.setIfInBounds_toArray, List.set_cons_zero, List.set_cons_succ, i64_w, i32_w]
          rfl
        refine take_ (i := 7) (N := some 20) (v := ?_) (a' := ?_) #[true, true, true, true, true, true, true, true, false, false, false, false, false] rfl rfl (take_ofW HT_.out HW_.out (by kernel_rfl)) (fun _ _ _ h => h) (Or.inl ⟨by rfl, ?_⟩) hHeld ?_ ?_
        rotate_left
        · rintro w' ⟨s0, s1, s2, s3, s4, s5, s6, s7, s8⟩
          go_simp
          with_reducible rfl
        rotate_left
        · simp only [Act.put, List.setIfInBounds_toArray, List.set_cons_zero, List.set_cons_succ, i64_w, i32_w]
          rfl
        refine one_ (i := 8) (N := some 6) #[true, true, true, true, true, true, true, true, true, false, false, false, false] rfl rfl (one_of HT_.out (by kernel_rfl)) (by decide) (fun K hK => ?_)
        refine box_step ?hg (N := 6) ?hd (cs := #[.bool false, .bool false, .bool false, .bool false]) (t := 24) ?hr ?_; (case hd => rfl); (case hg => rfl); (case hr => first | (go_simp; done) | (go_simp; rfl))
        intro gb132 hg w133 hbox hb
        have n0_ := Aside0.mk (blk_below (g := gb131) (o := .cells #[.int .i64 a0_0, .bool a0_1, .int .u32 a0_2, .int .u32 a0_3, .int .u32 a0_4, .bool a0_5, .bool a0_6, .bool a0_7, .bool a0_8] 26 (0, 0)) (by (with_reducible repeat (first | refine blk_drewN ?_ _ | refine blk_drew ?_ | refine blk_alloc ?_ _)); exact BK131.out) hb)
        have n1_ := Aside0.mk (below_step (by repeat (first | (with_reducible first | exact HB.out | apply below_alloc | apply pw_below_drewN | apply below_drew1 | refine below_set ?_ GE131.out) | exact HB.out)) hb)
        have n2_ := Aside0.mk (hbox)
        have n3_ := Aside0.mk ((by rw [hg]; exact (below_size (by repeat (first | (with_reducible first | exact HB.out | apply below_alloc | apply pw_below_drewN | apply below_drew1 | refine below_set ?_ GE131.out) | exact HB.out))) : w.heap.size ≤ gb132))
        have n4_ := Aside0.mk ((by rw [hg]; exact (below_size (by repeat (first | (with_reducible first | exact HB.out | apply below_alloc | apply pw_below_drewN | apply below_drew1 | refine below_set ?_ GE131.out) | exact HB.out))) : w.heap.size ≤ gb132))
        have n5_ := Aside0.mk ((by rw [hg]; exact Nat.ne_of_lt (blk_lt (g := gb131) (o := .cells #[.int .i64 a0_0, .bool a0_1, .int .u32 a0_2, .int .u32 a0_3, .int .u32 a0_4, .bool a0_5, .bool a0_6, .bool a0_7, .bool a0_8] 26 (0, 0)) (by (with_reducible repeat (first | refine blk_drewN ?_ _ | refine blk_drew ?_ | refine blk_alloc ?_ _)); exact BK131.out)) : gb131 ≠ gb132))
        have n6_ := Aside0.mk ((by rw [hg]; exact Nat.ne_of_gt (blk_lt (g := gb131) (o := .cells #[.int .i64 a0_0, .bool a0_1, .int .u32 a0_2, .int .u32 a0_3, .int .u32 a0_4, .bool a0_5, .bool a0_6, .bool a0_7, .bool a0_8] 26 (0, 0)) (by (with_reducible repeat (first | refine blk_drewN ?_ _ | refine blk_drew ?_ | refine blk_alloc ?_ _)); exact BK131.out)) : gb132 ≠ gb131))
        clear BK131
        clear HB
        have BK131 := n0_
        have HB := n1_
        have BK132 := n2_
        have GW132 := n3_
        have GE132 := n4_
        have NB131_132 := n5_
        have NB132_131 := n6_
        clear n0_ n1_ n2_ n3_ n4_ n5_ n6_
        clear hb hbox hg
        refine hK.out _ _ ⟨(blk_cell BK131.out 0).trans rfl, (blk_cell BK131.out 1).trans rfl, (blk_cell BK131.out 2).trans rfl, (blk_cell BK131.out 3).trans rfl, (blk_cell BK131.out 4).trans rfl, (blk_cell BK131.out 5).trans rfl, (blk_cell BK131.out 6).trans rfl, (blk_cell BK131.out 7).trans rfl, (blk_cell BK131.out 8).trans rfl⟩ (fun hHeld => ?_)
        clear hK K
        refine norm_ (a' := ?_) ?_ ?_
        rotate_left
        · show Act.put _ (some 6) _ = _
          simp only [Act.put, List.setIfInBounds_toArray, List.set_cons_zero, List.set_cons_succ, i64_w, i32_w]
          rfl
        refine pure_ (i := 9) (N := some 3) (v := ?_) (a' := ?_) #[true, true, true, true, true, true, true, true, true, true, false, false, false] rfl rfl (any_of HT_.out (by kernel_rfl)) (fun _ _ _ h => h) (Or.inl ⟨by rfl, ?_⟩) ?_ ?_
        rotate_left
        · intro w'
          go_simp
          with_reducible rfl
        rotate_left
        · simp only [Act.put, List.setIfInBounds_toArray, List.set_cons_zero, List.set_cons_succ, i64_w, i32_w]
          rfl
        refine pure_ (i := 10) (N := some 4) (v := ?_) (a' := ?_) #[true, true, true, true, true, true, true, true, true, true, true, false, false] rfl rfl (any_of HT_.out (by kernel_rfl)) (fun _ _ _ h => h) (Or.inl ⟨by rfl, ?_⟩) ?_ ?_
        rotate_left
        · intro w'
          go_simp
          with_reducible rfl
        rotate_left
        · simp only [Act.put, List.setIfInBounds_toArray, List.set_cons_zero, List.set_cons_succ, i64_w, i32_w]
          rfl
        refine pure_ (i := 11) (N := some 5) (v := ?_) (a' := ?_) #[true, true, true, true, true, true, true, true, true, true, true, true, false] rfl rfl (any_of HT_.out (by kernel_rfl)) (fun _ _ _ h => h) (Or.inl ⟨by rfl, ?_⟩) ?_ ?_
        rotate_left
        · intro w'
          go_simp
          with_reducible rfl
        rotate_left
        · simp only [Act.put, List.setIfInBounds_toArray, List.set_cons_zero, List.set_cons_succ, i64_w, i32_w]
          rfl
        refine one_ (i := 12) (N := none) #[true, true, true, true, true, true, true, true, true, true, true, true, true] rfl rfl (one_of HT_.out (by kernel_rfl)) (by decide) (fun K hK => ?_)
        have hs134 : w133.cell? ⟨gb132, 0, none⟩ = some (.bool false) := (blk_cell BK132.out 0).trans rfl
        have hfs134 := blk_frozen BK132.out 0
        have hns134_0 := NB131_132.out
        have hms134_0 := NB132_131.out
        have hs135 : w133.cell? ⟨gb132, 1, none⟩ = some (.bool false) := (blk_cell BK132.out 1).trans rfl
        have hfs135 := blk_frozen BK132.out 1
        have hns135_0 := NB131_132.out
        have hms135_0 := NB132_131.out
        have hs136 : w133.cell? ⟨gb132, 2, none⟩ = some (.bool false) := (blk_cell BK132.out 2).trans rfl
        have hfs136 := blk_frozen BK132.out 2
        have hns136_0 := NB131_132.out
        have hms136_0 := NB132_131.out
        have hs137 : w133.cell? ⟨gb132, 3, none⟩ = some (.bool false) := (blk_cell BK132.out 3).trans rfl
        have hfs137 := blk_frozen BK132.out 3
        have hns137_0 := NB131_132.out
        have hms137_0 := NB132_131.out
        refine skip_ (w1 := ?_) (by rfl) rfl ?_ ?_
        rotate_left
        · go_simp
          rfl
        refine hK.out _ _ ⟨((cell_far (p := ⟨gb132, _, none⟩) NB131_132.out _).trans (((cell_far (p := ⟨gb132, _, none⟩) NB131_132.out _).trans (((cell_far (p := ⟨gb132, _, none⟩) NB131_132.out _).trans (((cell_far (p := ⟨gb132, _, none⟩) NB131_132.out _).trans (hHeld.1)))))))), ((cell_far (p := ⟨gb132, _, none⟩) NB131_132.out _).trans (((cell_far (p := ⟨gb132, _, none⟩) NB131_132.out _).trans (((cell_far (p := ⟨gb132, _, none⟩) NB131_132.out _).trans (((cell_far (p := ⟨gb132, _, none⟩) NB131_132.out _).trans (hHeld.2.1)))))))), ((cell_far (p := ⟨gb132, _, none⟩) NB131_132.out _).trans (((cell_far (p := ⟨gb132, _, none⟩) NB131_132.out _).trans (((cell_far (p := ⟨gb132, _, none⟩) NB131_132.out _).trans (((cell_far (p := ⟨gb132, _, none⟩) NB131_132.out _).trans (hHeld.2.2.1)))))))), ((cell_far (p := ⟨gb132, _, none⟩) NB131_132.out _).trans (((cell_far (p := ⟨gb132, _, none⟩) NB131_132.out _).trans (((cell_far (p := ⟨gb132, _, none⟩) NB131_132.out _).trans (((cell_far (p := ⟨gb132, _, none⟩) NB131_132.out _).trans (hHeld.2.2.2.1)))))))), ((cell_far (p := ⟨gb132, _, none⟩) NB131_132.out _).trans (((cell_far (p := ⟨gb132, _, none⟩) NB131_132.out _).trans (((cell_far (p := ⟨gb132, _, none⟩) NB131_132.out _).trans (((cell_far (p := ⟨gb132, _, none⟩) NB131_132.out _).trans (hHeld.2.2.2.2.1)))))))), ((cell_far (p := ⟨gb132, _, none⟩) NB131_132.out _).trans (((cell_far (p := ⟨gb132, _, none⟩) NB131_132.out _).trans (((cell_far (p := ⟨gb132, _, none⟩) NB131_132.out _).trans (((cell_far (p := ⟨gb132, _, none⟩) NB131_132.out _).trans (hHeld.2.2.2.2.2.1)))))))), ((cell_far (p := ⟨gb132, _, none⟩) NB131_132.out _).trans (((cell_far (p := ⟨gb132, _, none⟩) NB131_132.out _).trans (((cell_far (p := ⟨gb132, _, none⟩) NB131_132.out _).trans (((cell_far (p := ⟨gb132, _, none⟩) NB131_132.out _).trans (hHeld.2.2.2.2.2.2.1)))))))), ((cell_far (p := ⟨gb132, _, none⟩) NB131_132.out _).trans (((cell_far (p := ⟨gb132, _, none⟩) NB131_132.out _).trans (((cell_far (p := ⟨gb132, _, none⟩) NB131_132.out _).trans (((cell_far (p := ⟨gb132, _, none⟩) NB131_132.out _).trans (hHeld.2.2.2.2.2.2.2.1)))))))), ((cell_far (p := ⟨gb132, _, none⟩) NB131_132.out _).trans (((cell_far (p := ⟨gb132, _, none⟩) NB131_132.out _).trans (((cell_far (p := ⟨gb132, _, none⟩) NB131_132.out _).trans (((cell_far (p := ⟨gb132, _, none⟩) NB131_132.out _).trans (hHeld.2.2.2.2.2.2.2.2))))))))⟩ (fun hHeld => ?_)
        clear hK K
        refine done_ (done_of HT_.out (by kernel_rfl)) ?_
        have hnb138 := NB132_131.out
        have hnc138 := NB131_132.out
        have hcz139_0 : w133.cell? ⟨gb132, 0, none⟩ = some (.bool false) := (blk_cell BK132.out 0).trans rfl
        have hcz139_1 : w133.cell? ⟨gb132, 1, none⟩ = some (.bool false) := (blk_cell BK132.out 1).trans rfl
        have hcz139_2 : w133.cell? ⟨gb132, 2, none⟩ = some (.bool false) := (blk_cell BK132.out 2).trans rfl
        have hcz139_3 : w133.cell? ⟨gb132, 3, none⟩ = some (.bool false) := (blk_cell BK132.out 3).trans rfl
        have hfz139_0 := blk_frozen BK132.out 0
        have hfz139_1 := blk_frozen BK132.out 1
        have hfz139_2 := blk_frozen BK132.out 2
        have hfz139_3 := blk_frozen BK132.out 3
        try go_wp2_with (first | ((with_reducible refine gate_callee (f := 9) rfl ?_); refine goesL_ (some 26) rfl rfl Try.func9 (by kernel_rfl) rfl #[.int .i64 9, .bool false, .int .u32 a0_2, .int .u32 a0_3, .int .u32 a0_4, .agg #[.bool a0_5, .bool a0_6, .bool a0_7, .bool a0_8]] rfl (by (try simp only [List.map_toArray, List.map_cons, List.map_nil]); first | done | rfl | (simp only [List.length_drop, List.length_take]; rfl)) ?_; (with_reducible refine (alu_Do.calls k 9 false a0_2 a0_3 a0_4 a0_5 a0_6 a0_7 a0_8 t133 t134 t135 t136 t137 t138 true _ A2.out).mono ?_); rintro e w140 ⟨rfl, hb⟩; refine ⟨_, rfl, ?_⟩; have n0_ := Aside0.mk (blk_below (g := gb131) (o := .cells #[.int .i64 a0_0, .bool a0_1, .int .u32 a0_2, .int .u32 a0_3, .int .u32 a0_4, .bool a0_5, .bool a0_6, .bool a0_7, .bool a0_8] 26 (0, 0)) (by (with_reducible repeat (first | refine blk_drewN ?_ _ | refine blk_drew ?_ | refine blk_alloc ?_ _)); refine blk_far ?_ NB131_132.out _; (with_reducible repeat (first | refine blk_drewN ?_ _ | refine blk_drew ?_ | refine blk_alloc ?_ _)); refine blk_far ?_ NB131_132.out _; (with_reducible repeat (first | refine blk_drewN ?_ _ | refine blk_drew ?_ | refine blk_alloc ?_ _)); refine blk_far ?_ NB131_132.out _; (with_reducible repeat (first | refine blk_drewN ?_ _ | refine blk_drew ?_ | refine blk_alloc ?_ _)); refine blk_far ?_ NB131_132.out _; (with_reducible repeat (first | refine blk_drewN ?_ _ | refine blk_drew ?_ | refine blk_alloc ?_ _)); exact BK131.out) hb); have n1_ := Aside0.mk (blk_below (g := gb132) (o := .cells #[.bool a0_5, .bool a0_6, .bool a0_7, .bool a0_8] 24 (0, 0)) (by (with_reducible repeat (first | refine blk_drewN ?_ _ | refine blk_drew ?_ | refine blk_alloc ?_ _)); refine blk_put (cs := #[.bool a0_5, .bool a0_6, .bool a0_7, .bool false]) ?_ 3 _ rfl; (with_reducible repeat (first | refine blk_drewN ?_ _ | refine blk_drew ?_ | refine blk_alloc ?_ _)); refine blk_put (cs := #[.bool a0_5, .bool a0_6, .bool false, .bool false]) ?_ 2 _ rfl; (with_reducible repeat (first | refine blk_drewN ?_ _ | refine blk_drew ?_ | refine blk_alloc ?_ _)); refine blk_put (cs := #[.bool a0_5, .bool false, .bool false, .bool false]) ?_ 1 _ rfl; (with_reducible repeat (first | refine blk_drewN ?_ _ | refine blk_drew ?_ | refine blk_alloc ?_ _)); refine blk_put (cs := #[.bool false, .bool false, .bool false, .bool false]) ?_ 0 _ rfl; (with_reducible repeat (first | refine blk_drewN ?_ _ | refine blk_drew ?_ | refine blk_alloc ?_ _)); exact BK132.out) hb); have n2_ := Aside0.mk (below_step (by repeat (first | (with_reducible first | exact HB.out | apply below_alloc | apply pw_below_drewN | apply below_drew1 | refine below_set ?_ GE131.out | refine below_set ?_ GE132.out) | exact HB.out)) hb); clear BK131; clear BK132; clear HB; have BK131 := n0_; have BK132 := n1_; have HB := n2_; clear n0_ n1_ n2_; (try clear hb); (try clear hb2); (try clear hk); (try clear hi)) | ((with_reducible refine gate_dst (N := 9) rfl ?_); refine box_event ?hg (N := 9) ?hd (cs := #[.bool false, .bool false, .bool false, .bool false]) (t := 24) ?hr ?_; (case hd => rfl); (case hg => rfl); (case hr => first | (go_simp; done) | (go_simp; rfl)); intro gb140 hg w141 hbox hb; have n0_ := Aside0.mk (blk_below (g := gb131) (o := .cells #[.int .i64 a0_0, .bool a0_1, .int .u32 a0_2, .int .u32 a0_3, .int .u32 a0_4, .bool a0_5, .bool a0_6, .bool a0_7, .bool a0_8] 26 (0, 0)) (by (with_reducible repeat (first | refine blk_drewN ?_ _ | refine blk_drew ?_ | refine blk_alloc ?_ _)); exact BK131.out) hb); have n1_ := Aside0.mk (blk_below (g := gb132) (o := .cells #[.bool a0_5, .bool a0_6, .bool a0_7, .bool a0_8] 24 (0, 0)) (by (with_reducible repeat (first | refine blk_drewN ?_ _ | refine blk_drew ?_ | refine blk_alloc ?_ _)); exact BK132.out) hb); have n2_ := Aside0.mk (below_step (by repeat (first | (with_reducible first | exact HB.out | apply below_alloc | apply pw_below_drewN | apply below_drew1 | refine below_set ?_ GE131.out | refine below_set ?_ GE132.out) | exact HB.out)) hb); have n3_ := Aside0.mk (hbox); have n4_ := Aside0.mk ((by rw [hg]; exact (below_size (by repeat (first | (with_reducible first | exact HB.out | apply below_alloc | apply pw_below_drewN | apply below_drew1 | refine below_set ?_ GE131.out | refine below_set ?_ GE132.out) | exact HB.out))) : w.heap.size ≤ gb140)); have n5_ := Aside0.mk ((by rw [hg]; exact (below_size (by repeat (first | (with_reducible first | exact HB.out | apply below_alloc | apply pw_below_drewN | apply below_drew1 | refine below_set ?_ GE131.out | refine below_set ?_ GE132.out) | exact HB.out))) : w.heap.size ≤ gb140)); have n6_ := Aside0.mk ((by rw [hg]; exact Nat.ne_of_lt (blk_lt (g := gb131) (o := .cells #[.int .i64 a0_0, .bool a0_1, .int .u32 a0_2, .int .u32 a0_3, .int .u32 a0_4, .bool a0_5, .bool a0_6, .bool a0_7, .bool a0_8] 26 (0, 0)) (by (with_reducible repeat (first | refine blk_drewN ?_ _ | refine blk_drew ?_ | refine blk_alloc ?_ _)); exact BK131.out)) : gb131 ≠ gb140)); have n7_ := Aside0.mk ((by rw [hg]; exact Nat.ne_of_gt (blk_lt (g := gb131) (o := .cells #[.int .i64 a0_0, .bool a0_1, .int .u32 a0_2, .int .u32 a0_3, .int .u32 a0_4, .bool a0_5, .bool a0_6, .bool a0_7, .bool a0_8] 26 (0, 0)) (by (with_reducible repeat (first | refine blk_drewN ?_ _ | refine blk_drew ?_ | refine blk_alloc ?_ _)); exact BK131.out)) : gb140 ≠ gb131)); have n8_ := Aside0.mk ((by rw [hg]; exact Nat.ne_of_lt (blk_lt (g := gb132) (o := .cells #[.bool a0_5, .bool a0_6, .bool a0_7, .bool a0_8] 24 (0, 0)) (by (with_reducible repeat (first | refine blk_drewN ?_ _ | refine blk_drew ?_ | refine blk_alloc ?_ _)); exact BK132.out)) : gb132 ≠ gb140)); have n9_ := Aside0.mk ((by rw [hg]; exact Nat.ne_of_gt (blk_lt (g := gb132) (o := .cells #[.bool a0_5, .bool a0_6, .bool a0_7, .bool a0_8] 24 (0, 0)) (by (with_reducible repeat (first | refine blk_drewN ?_ _ | refine blk_drew ?_ | refine blk_alloc ?_ _)); exact BK132.out)) : gb140 ≠ gb132)); clear BK131; clear BK132; clear HB; have BK131 := n0_; have BK132 := n1_; have HB := n2_; have BK140 := n3_; have GW140 := n4_; have GE140 := n5_; have NB131_140 := n6_; have NB140_131 := n7_; have NB132_140 := n8_; have NB140_132 := n9_; clear n0_ n1_ n2_ n3_ n4_ n5_ n6_ n7_ n8_ n9_; clear hb hbox hg; have hnb142 := NB140_131.out; have hnc142 := NB131_140.out; have hnb143 := NB140_132.out; have hnc143 := NB132_140.out; have hcz144_0 : w141.cell? ⟨gb140, 0, none⟩ = some (.bool false) := (blk_cell BK140.out 0).trans rfl; have hcz144_1 : w141.cell? ⟨gb140, 1, none⟩ = some (.bool false) := (blk_cell BK140.out 1).trans rfl; have hcz144_2 : w141.cell? ⟨gb140, 2, none⟩ = some (.bool false) := (blk_cell BK140.out 2).trans rfl; have hcz144_3 : w141.cell? ⟨gb140, 3, none⟩ = some (.bool false) := (blk_cell BK140.out 3).trans rfl; have hfz144_0 := blk_frozen BK140.out 0; have hfz144_1 := blk_frozen BK140.out 1; have hfz144_2 := blk_frozen BK140.out 2; have hfz144_3 := blk_frozen BK140.out 3) | (go_at_call 13; (with_reducible refine (alu_Holds.calls k 5 t135 t136 t137 t138 t141 _ A4.out).mono ?_); rintro e w145 ⟨rfl, hb⟩; have n0_ := Aside0.mk (blk_below (g := gb131) (o := .cells #[.int .i64 a0_0, .bool a0_1, .int .u32 a0_2, .int .u32 a0_3, .int .u32 a0_4, .bool a0_5, .bool a0_6, .bool a0_7, .bool a0_8] 26 (0, 0)) (by (with_reducible repeat (first | refine blk_drewN ?_ _ | refine blk_drew ?_ | refine blk_alloc ?_ _)); refine blk_far ?_ NB131_140.out _; (with_reducible repeat (first | refine blk_drewN ?_ _ | refine blk_drew ?_ | refine blk_alloc ?_ _)); refine blk_far ?_ NB131_140.out _; (with_reducible repeat (first | refine blk_drewN ?_ _ | refine blk_drew ?_ | refine blk_alloc ?_ _)); refine blk_far ?_ NB131_140.out _; (with_reducible repeat (first | refine blk_drewN ?_ _ | refine blk_drew ?_ | refine blk_alloc ?_ _)); refine blk_far ?_ NB131_140.out _; (with_reducible repeat (first | refine blk_drewN ?_ _ | refine blk_drew ?_ | refine blk_alloc ?_ _)); exact BK131.out) hb); have n1_ := Aside0.mk (blk_below (g := gb132) (o := .cells #[.bool a0_5, .bool a0_6, .bool a0_7, .bool a0_8] 24 (0, 0)) (by (with_reducible repeat (first | refine blk_drewN ?_ _ | refine blk_drew ?_ | refine blk_alloc ?_ _)); refine blk_far ?_ NB132_140.out _; (with_reducible repeat (first | refine blk_drewN ?_ _ | refine blk_drew ?_ | refine blk_alloc ?_ _)); refine blk_far ?_ NB132_140.out _; (with_reducible repeat (first | refine blk_drewN ?_ _ | refine blk_drew ?_ | refine blk_alloc ?_ _)); refine blk_far ?_ NB132_140.out _; (with_reducible repeat (first | refine blk_drewN ?_ _ | refine blk_drew ?_ | refine blk_alloc ?_ _)); refine blk_far ?_ NB132_140.out _; (with_reducible repeat (first | refine blk_drewN ?_ _ | refine blk_drew ?_ | refine blk_alloc ?_ _)); exact BK132.out) hb); have n2_ := Aside0.mk (blk_below (g := gb140) (o := .cells #[.bool t135, .bool t136, .bool t137, .bool t138] 24 (0, 0)) (by (with_reducible repeat (first | refine blk_drewN ?_ _ | refine blk_drew ?_ | refine blk_alloc ?_ _)); refine blk_put (cs := #[.bool t135, .bool t136, .bool t137, .bool false]) ?_ 3 _ rfl; (with_reducible repeat (first | refine blk_drewN ?_ _ | refine blk_drew ?_ | refine blk_alloc ?_ _)); refine blk_put (cs := #[.bool t135, .bool t136, .bool false, .bool false]) ?_ 2 _ rfl; (with_reducible repeat (first | refine blk_drewN ?_ _ | refine blk_drew ?_ | refine blk_alloc ?_ _)); refine blk_put (cs := #[.bool t135, .bool false, .bool false, .bool false]) ?_ 1 _ rfl; (with_reducible repeat (first | refine blk_drewN ?_ _ | refine blk_drew ?_ | refine blk_alloc ?_ _)); refine blk_put (cs := #[.bool false, .bool false, .bool false, .bool false]) ?_ 0 _ rfl; (with_reducible repeat (first | refine blk_drewN ?_ _ | refine blk_drew ?_ | refine blk_alloc ?_ _)); exact BK140.out) hb); have n3_ := Aside0.mk (below_step (by repeat (first | (with_reducible first | exact HB.out | apply below_alloc | apply pw_below_drewN | apply below_drew1 | refine below_set ?_ GE131.out | refine below_set ?_ GE132.out | refine below_set ?_ GE140.out) | exact HB.out)) hb); clear BK131; clear BK132; clear BK140; clear HB; have BK131 := n0_; have BK132 := n1_; have BK140 := n2_; have HB := n3_; clear n0_ n1_ n2_ n3_; (try clear hb); (try clear hb2); (try clear hk); (try clear hi); have hcz146_0 : w145.cell? ⟨gb140, 0, none⟩ = some (.bool t135) := (blk_cell BK140.out 0).trans rfl; have hcz146_1 : w145.cell? ⟨gb140, 1, none⟩ = some (.bool t136) := (blk_cell BK140.out 1).trans rfl; have hcz146_2 : w145.cell? ⟨gb140, 2, none⟩ = some (.bool t137) := (blk_cell BK140.out 2).trans rfl; have hcz146_3 : w145.cell? ⟨gb140, 3, none⟩ = some (.bool t138) := (blk_cell BK140.out 3).trans rfl; have hfz146_0 := blk_frozen BK140.out 0; have hfz146_1 := blk_frozen BK140.out 1; have hfz146_2 := blk_frozen BK140.out 2; have hfz146_3 := blk_frozen BK140.out 3) | (go_at_call 13; (with_reducible refine (alu_Holds.calls k 2 t135 t136 t137 t138 t142 _ A6.out).mono ?_); rintro e w147 ⟨rfl, hb⟩; have n0_ := Aside0.mk (blk_below (g := gb131) (o := .cells #[.int .i64 a0_0, .bool a0_1, .int .u32 a0_2, .int .u32 a0_3, .int .u32 a0_4, .bool a0_5, .bool a0_6, .bool a0_7, .bool a0_8] 26 (0, 0)) (by (with_reducible repeat (first | refine blk_drewN ?_ _ | refine blk_drew ?_ | refine blk_alloc ?_ _)); exact BK131.out) hb); have n1_ := Aside0.mk (blk_below (g := gb132) (o := .cells #[.bool a0_5, .bool a0_6, .bool a0_7, .bool a0_8] 24 (0, 0)) (by (with_reducible repeat (first | refine blk_drewN ?_ _ | refine blk_drew ?_ | refine blk_alloc ?_ _)); exact BK132.out) hb); have n2_ := Aside0.mk (blk_below (g := gb140) (o := .cells #[.bool t135, .bool t136, .bool t137, .bool t138] 24 (0, 0)) (by (with_reducible repeat (first | refine blk_drewN ?_ _ | refine blk_drew ?_ | refine blk_alloc ?_ _)); exact BK140.out) hb); have n3_ := Aside0.mk (below_step (by repeat (first | (with_reducible first | exact HB.out | apply below_alloc | apply pw_below_drewN | apply below_drew1 | refine below_set ?_ GE131.out | refine below_set ?_ GE132.out | refine below_set ?_ GE140.out) | exact HB.out)) hb); clear BK131; clear BK132; clear BK140; clear HB; have BK131 := n0_; have BK132 := n1_; have BK140 := n2_; have HB := n3_; clear n0_ n1_ n2_ n3_; (try clear hb); (try clear hb2); (try clear hk); (try clear hi)))
        go_ret
        exact ⟨by first | rfl | (simp [errW_none, errW_some] <;> rfl) | (simp [*, errW_none, errW_some] <;> rfl), by repeat (first | (with_reducible first | exact HB.out | apply below_alloc | apply pw_below_drewN | apply below_drew1 | refine below_set ?_ GE131.out | refine below_set ?_ GE132.out | refine below_set ?_ GE140.out) | exact HB.out)⟩
    · rw [if_neg c5] at H
      have c5b0 : (t141 == (decide ((wrap32 (a0_2)) < (wrap32 (a0_3))))) = false := by simpa using c5
      (try (have c5b1 : decide (t141 = (decide ((wrap32 (a0_2)) < (wrap32 (a0_3))))) = false := by simpa using c5))
      (try (have c5b2 : (t141 == (decide ((wrap32 (a0_2)) < (wrap32 (a0_3))))) = false := by simpa using c5))
      (try (have c5b3 : ¬ (t141 = (decide ((wrap32 (a0_2)) < (wrap32 (a0_3))))) := by simpa using c5))
      clear c5
      obtain rfl := Option.some.inj H
      go_enter Try.func5, Try.ntmps5
      try go_wp2_with (first | ((with_reducible refine gate_dst (N := 1) rfl ?_); refine box_event ?hg (N := 1) ?hd (cs := #[.int .i64 a0_0, .bool a0_1, .int .u32 a0_2, .int .u32 a0_3, .int .u32 a0_4, .bool a0_5, .bool a0_6, .bool a0_7, .bool a0_8]) (t := 26) ?hr ?_; (case hd => rfl); (case hg => rfl); (case hr => first | (go_simp; done) | (go_simp; rfl)); intro gb131 hg w148 hbox hb; have n0_ := Aside0.mk (below_step (by repeat (first | (with_reducible first | exact HB.out | apply below_alloc | apply pw_below_drewN | apply below_drew1) | exact HB.out)) hb); have n1_ := Aside0.mk (hbox); have n2_ := Aside0.mk ((by rw [hg]; exact (below_size (by repeat (first | (with_reducible first | exact HB.out | apply below_alloc | apply pw_below_drewN | apply below_drew1) | exact HB.out))) : w.heap.size ≤ gb131)); have n3_ := Aside0.mk ((by rw [hg]; exact (below_size (by repeat (first | (with_reducible first | exact HB.out | apply below_alloc | apply pw_below_drewN | apply below_drew1) | exact HB.out))) : w.heap.size ≤ gb131)); clear HB; have HB := n0_; have BK131 := n1_; have GW131 := n2_; have GE131 := n3_; clear n0_ n1_ n2_ n3_; clear hb hbox hg))
      have n0_ := Aside0.mk (blk_drew BK131.out)
      have n1_ := Aside0.mk (below_drew1 HB.out)
      clear BK131
      clear HB
      have BK131 := n0_
      have HB := n1_
      clear n0_ n1_
      refine start_ (n := 13) (S := fun w' => w'.cell? ⟨gb131, 0, none⟩ = some (.int .i64 a0_0) ∧ w'.cell? ⟨gb131, 1, none⟩ = some (.bool a0_1) ∧ w'.cell? ⟨gb131, 2, none⟩ = some (.int .u32 a0_2) ∧ w'.cell? ⟨gb131, 3, none⟩ = some (.int .u32 a0_3) ∧ w'.cell? ⟨gb131, 4, none⟩ = some (.int .u32 a0_4) ∧ w'.cell? ⟨gb131, 5, none⟩ = some (.bool a0_5) ∧ w'.cell? ⟨gb131, 6, none⟩ = some (.bool a0_6) ∧ w'.cell? ⟨gb131, 7, none⟩ = some (.bool a0_7) ∧ w'.cell? ⟨gb131, 8, none⟩ = some (.bool a0_8)) (ds := []) #[false, false, false, false, false, false, false, false, false, false, false, false, false] (by kernel_rfl) rfl rfl ⟨(blk_cell BK131.out 0).trans rfl, (blk_cell BK131.out 1).trans rfl, (blk_cell BK131.out 2).trans rfl, (blk_cell BK131.out 3).trans rfl, (blk_cell BK131.out 4).trans rfl, (blk_cell BK131.out 5).trans rfl, (blk_cell BK131.out 6).trans rfl, (blk_cell BK131.out 7).trans rfl, (blk_cell BK131.out 8).trans rfl⟩ (fun hHeld => ?_); refine with_tabW spinetlaw03_AluCompares.tab1 spinetlaw03_AluCompares.bits1 (fun HT_ HW_ => ?_)
      generalize w148.drew = w149 at BK131 HB hHeld ⊢
      refine pure_ (i := 0) (N := some 13) (v := ?_) (a' := ?_) #[true, false, false, false, false, false, false, false, false, false, false, false, false] rfl rfl (any_of HT_.out (by kernel_rfl)) (fun _ _ _ h => h) (Or.inl ⟨by rfl, ?_⟩) ?_ ?_
      rotate_left
      · intro w'
        go_simp
        with_reducible rfl
      rotate_left
      · simp only [Act.put, List.setIfInBounds_toArray, List.set_cons_zero, List.set_cons_succ, i64_w, i32_w]
        rfl
      refine pure_ (i := 2) (N := some 15) (v := ?_) (a' := ?_) #[true, false, true, false, false, false, false, false, false, false, false, false, false] rfl rfl (any_of HT_.out (by kernel_rfl)) (fun _ _ _ h => h) (Or.inl ⟨by rfl, ?_⟩) ?_ ?_
      rotate_left
      · intro w'
        go_simp
        with_reducible rfl
      rotate_left
      · simp only [Act.put, List.setIfInBounds_toArray, List.set_cons_zero, List.set_cons_succ, i64_w, i32_w]
        rfl
      refine pure_ (i := 4) (N := some 17) (v := ?_) (a' := ?_) #[true, false, true, false, true, false, false, false, false, false, false, false, false] rfl rfl (any_of HT_.out (by kernel_rfl)) (fun _ _ _ h => h) (Or.inl ⟨by rfl, ?_⟩) ?_ ?_
      rotate_left
      · intro w'
        go_simp
        with_reducible rfl
      rotate_left
      · simp only [Act.put, List.setIfInBounds_toArray, List.set_cons_zero, List.set_cons_succ, i64_w, i32_w]
        rfl
      refine pure_ (i := 6) (N := some 19) (v := ?_) (a' := ?_) #[true, false, true, false, true, false, true, false, false, false, false, false, false] rfl rfl (any_of HT_.out (by kernel_rfl)) (fun _ _ _ h => h) (Or.inl ⟨by rfl, ?_⟩) ?_ ?_
      rotate_left
      · intro w'
        go_simp
        with_reducible rfl
      rotate_left
      · simp only [Act.put, List.setIfInBounds_toArray, List.set_cons_zero, List.set_cons_succ, i64_w, i32_w]
        rfl
      refine take_ (i := 1) (N := some 14) (v := ?_) (a' := ?_) #[true, true, true, false, true, false, true, false, false, false, false, false, false] rfl rfl (take_ofW HT_.out HW_.out (by kernel_rfl)) (fun _ _ _ h => h) (Or.inl ⟨by rfl, ?_⟩) hHeld ?_ ?_
      rotate_left
      · rintro w' ⟨s0, s1, s2, s3, s4, s5, s6, s7, s8⟩
        go_simp
        with_reducible rfl
      rotate_left
      · simp only [Act.put, List.setIfInBounds_toArray, List.set_cons_zero, List.set_cons_succ, i64_w, i32_w]
        rfl
      refine take_ (i := 3) (N := some 16) (v := ?_) (a' := ?_) #[true, true, true, true, true, false, true, false, false, false, false, false, false] rfl rfl (take_ofW HT_.out HW_.out (by kernel_rfl)) (fun _ _ _ h => h) (Or.inl ⟨by rfl, ?_⟩) hHeld ?_ ?_
      rotate_left
      · rintro w' ⟨s0, s1, s2, s3, s4, s5, s6, s7, s8⟩
        go_simp
        with_reducible rfl
      rotate_left
      · simp only [Act.put, List.setIfInBounds_toArray, List.set_cons_zero, List.set_cons_succ, i64_w, i32_w]
        rfl
      refine take_ (i := 5) (N := some 18) (v := ?_) (a' := ?_) #[true, true, true, true, true, true, true, false, false, false, false, false, false] rfl rfl (take_ofW HT_.out HW_.out (by kernel_rfl)) (fun _ _ _ h => h) (Or.inl ⟨by rfl, ?_⟩) hHeld ?_ ?_
      rotate_left
      · rintro w' ⟨s0, s1, s2, s3, s4, s5, s6, s7, s8⟩
        go_simp
        with_reducible rfl
      rotate_left
      · simp only [Act.put, List.setIfInBounds_toArray, List.set_cons_zero, List.set_cons_succ, i64_w, i32_w]
        rfl
      refine take_ (i := 7) (N := some 20) (v := ?_) (a' := ?_) #[true, true, true, true, true, true, true, true, false, false, false, false, false] rfl rfl (take_ofW HT_.out HW_.out (by kernel_rfl)) (fun _ _ _ h => h) (Or.inl ⟨by rfl, ?_⟩) hHeld ?_ ?_
      rotate_left
      · rintro w' ⟨s0, s1, s2, s3, s4, s5, s6, s7, s8⟩
        go_simp
        with_reducible rfl
      rotate_left
      · simp only [Act.put, List.setIfInBounds_toArray, List.set_cons_zero, List.set_cons_succ, i64_w, i32_w]
        rfl
      refine one_ (i := 8) (N := some 6) #[true, true, true, true, true, true, true, true, true, false, false, false, false] rfl rfl (one_of HT_.out (by kernel_rfl)) (by decide) (fun K hK => ?_)
      refine box_step ?hg (N := 6) ?hd (cs := #[.bool false, .bool false, .bool false, .bool false]) (t := 24) ?hr ?_; (case hd => rfl); (case hg => rfl); (case hr => first | (go_simp; done) | (go_simp; rfl))
      intro gb132 hg w150 hbox hb
      have n0_ := Aside0.mk (blk_below (g := gb131) (o := .cells #[.int .i64 a0_0, .bool a0_1, .int .u32 a0_2, .int .u32 a0_3, .int .u32 a0_4, .bool a0_5, .bool a0_6, .bool a0_7, .bool a0_8] 26 (0, 0)) (by (with_reducible repeat (first | refine blk_drewN ?_ _ | refine blk_drew ?_ | refine blk_alloc ?_ _)); exact BK131.out) hb)
      have n1_ := Aside0.mk (below_step (by repeat (first | (with_reducible first | exact HB.out | apply below_alloc | apply pw_below_drewN | apply below_drew1 | refine below_set ?_ GE131.out) | exact HB.out)) hb)
      have n2_ := Aside0.mk (hbox)
      have n3_ := Aside0.mk ((by rw [hg]; exact (below_size (by repeat (first | (with_reducible first | exact HB.out | apply below_alloc | apply pw_below_drewN | apply below_drew1 | refine below_set ?_ GE131.out) | exact HB.out))) : w.heap.size ≤ gb132))
      have n4_ := Aside0.mk ((by rw [hg]; exact (below_size (by repeat (first | (with_reducible first | exact HB.out | apply below_alloc | apply pw_below_drewN | apply below_drew1 | refine below_set ?_ GE131.out) | exact HB.out))) : w.heap.size ≤ gb132))
      have n5_ := Aside0.mk ((by rw [hg]; exact Nat.ne_of_lt (blk_lt (g := gb131) (o := .cells #[.int .i64 a0_0, .bool a0_1, .int .u32 a0_2, .int .u32 a0_3, .int .u32 a0_4, .bool a0_5, .bool a0_6, .bool a0_7, .bool a0_8] 26 (0, 0)) (by (with_reducible repeat (first | refine blk_drewN ?_ _ | refine blk_drew ?_ | refine blk_alloc ?_ _)); exact BK131.out)) : gb131 ≠ gb132))
      have n6_ := Aside0.mk ((by rw [hg]; exact Nat.ne_of_gt (blk_lt (g := gb131) (o := .cells #[.int .i64 a0_0, .bool a0_1, .int .u32 a0_2, .int .u32 a0_3, .int .u32 a0_4, .bool a0_5, .bool a0_6, .bool a0_7, .bool a0_8] 26 (0, 0)) (by (with_reducible repeat (first | refine blk_drewN ?_ _ | refine blk_drew ?_ | refine blk_alloc ?_ _)); exact BK131.out)) : gb132 ≠ gb131))
      clear BK131
      clear HB
      have BK131 := n0_
      have HB := n1_
      have BK132 := n2_
      have GW132 := n3_
      have GE132 := n4_
      have NB131_132 := n5_
      have NB132_131 := n6_
      clear n0_ n1_ n2_ n3_ n4_ n5_ n6_
      clear hb hbox hg
      refine hK.out _ _ ⟨(blk_cell BK131.out 0).trans rfl, (blk_cell BK131.out 1).trans rfl, (blk_cell BK131.out 2).trans rfl, (blk_cell BK131.out 3).trans rfl, (blk_cell BK131.out 4).trans rfl, (blk_cell BK131.out 5).trans rfl, (blk_cell BK131.out 6).trans rfl, (blk_cell BK131.out 7).trans rfl, (blk_cell BK131.out 8).trans rfl⟩ (fun hHeld => ?_)
      clear hK K
      refine norm_ (a' := ?_) ?_ ?_
      rotate_left
      · show Act.put _ (some 6) _ = _
        simp only [Act.put, List.setIfInBounds_toArray, List.set_cons_zero, List.set_cons_succ, i64_w, i32_w]
        rfl
      refine pure_ (i := 9) (N := some 3) (v := ?_) (a' := ?_) #[true, true, true, true, true, true, true, true, true, true, false, false, false] rfl rfl (any_of HT_.out (by kernel_rfl)) (fun _ _ _ h => h) (Or.inl ⟨by rfl, ?_⟩) ?_ ?_
      rotate_left
      · intro w'
        go_simp
        with_reducible rfl
      rotate_left
      · simp only [Act.put, List.setIfInBounds_toArray, List.set_cons_zero, List.set_cons_succ, i64_w, i32_w]
        rfl
      refine pure_ (i := 10) (N := some 4) (v := ?_) (a' := ?_) #[true, true, true, true, true, true, true, true, true, true, true, false, false] rfl rfl (any_of HT_.out (by kernel_rfl)) (fun _ _ _ h => h) (Or.inl ⟨by rfl, ?_⟩) ?_ ?_
      rotate_left
      · intro w'
        go_simp
        with_reducible rfl
      rotate_left
      · simp only [Act.put, List.setIfInBounds_toArray, List.set_cons_zero, List.set_cons_succ, i64_w, i32_w]
        rfl
      refine pure_ (i := 11) (N := some 5) (v := ?_) (a' := ?_) #[true, true, true, true, true, true, true, true, true, true, true, true, false] rfl rfl (any_of HT_.out (by kernel_rfl)) (fun _ _ _ h => h) (Or.inl ⟨by rfl, ?_⟩) ?_ ?_
      rotate_left
      · intro w'
        go_simp
        with_reducible rfl
      rotate_left
      · simp only [Act.put, List.setIfInBounds_toArray, List.set_cons_zero, List.set_cons_succ, i64_w, i32_w]
        rfl
      refine one_ (i := 12) (N := none) #[true, true, true, true, true, true, true, true, true, true, true, true, true] rfl rfl (one_of HT_.out (by kernel_rfl)) (by decide) (fun K hK => ?_)
      have hs151 : w150.cell? ⟨gb132, 0, none⟩ = some (.bool false) := (blk_cell BK132.out 0).trans rfl
      have hfs151 := blk_frozen BK132.out 0
      have hns151_0 := NB131_132.out
      have hms151_0 := NB132_131.out
      have hs152 : w150.cell? ⟨gb132, 1, none⟩ = some (.bool false) := (blk_cell BK132.out 1).trans rfl
      have hfs152 := blk_frozen BK132.out 1
      have hns152_0 := NB131_132.out
      have hms152_0 := NB132_131.out
      have hs153 : w150.cell? ⟨gb132, 2, none⟩ = some (.bool false) := (blk_cell BK132.out 2).trans rfl
      have hfs153 := blk_frozen BK132.out 2
      have hns153_0 := NB131_132.out
      have hms153_0 := NB132_131.out
      have hs154 : w150.cell? ⟨gb132, 3, none⟩ = some (.bool false) := (blk_cell BK132.out 3).trans rfl
      have hfs154 := blk_frozen BK132.out 3
      have hns154_0 := NB131_132.out
      have hms154_0 := NB132_131.out
      refine skip_ (w1 := ?_) (by rfl) rfl ?_ ?_
      rotate_left
      · go_simp
        rfl
      refine hK.out _ _ ⟨((cell_far (p := ⟨gb132, _, none⟩) NB131_132.out _).trans (((cell_far (p := ⟨gb132, _, none⟩) NB131_132.out _).trans (((cell_far (p := ⟨gb132, _, none⟩) NB131_132.out _).trans (((cell_far (p := ⟨gb132, _, none⟩) NB131_132.out _).trans (hHeld.1)))))))), ((cell_far (p := ⟨gb132, _, none⟩) NB131_132.out _).trans (((cell_far (p := ⟨gb132, _, none⟩) NB131_132.out _).trans (((cell_far (p := ⟨gb132, _, none⟩) NB131_132.out _).trans (((cell_far (p := ⟨gb132, _, none⟩) NB131_132.out _).trans (hHeld.2.1)))))))), ((cell_far (p := ⟨gb132, _, none⟩) NB131_132.out _).trans (((cell_far (p := ⟨gb132, _, none⟩) NB131_132.out _).trans (((cell_far (p := ⟨gb132, _, none⟩) NB131_132.out _).trans (((cell_far (p := ⟨gb132, _, none⟩) NB131_132.out _).trans (hHeld.2.2.1)))))))), ((cell_far (p := ⟨gb132, _, none⟩) NB131_132.out _).trans (((cell_far (p := ⟨gb132, _, none⟩) NB131_132.out _).trans (((cell_far (p := ⟨gb132, _, none⟩) NB131_132.out _).trans (((cell_far (p := ⟨gb132, _, none⟩) NB131_132.out _).trans (hHeld.2.2.2.1)))))))), ((cell_far (p := ⟨gb132, _, none⟩) NB131_132.out _).trans (((cell_far (p := ⟨gb132, _, none⟩) NB131_132.out _).trans (((cell_far (p := ⟨gb132, _, none⟩) NB131_132.out _).trans (((cell_far (p := ⟨gb132, _, none⟩) NB131_132.out _).trans (hHeld.2.2.2.2.1)))))))), ((cell_far (p := ⟨gb132, _, none⟩) NB131_132.out _).trans (((cell_far (p := ⟨gb132, _, none⟩) NB131_132.out _).trans (((cell_far (p := ⟨gb132, _, none⟩) NB131_132.out _).trans (((cell_far (p := ⟨gb132, _, none⟩) NB131_132.out _).trans (hHeld.2.2.2.2.2.1)))))))), ((cell_far (p := ⟨gb132, _, none⟩) NB131_132.out _).trans (((cell_far (p := ⟨gb132, _, none⟩) NB131_132.out _).trans (((cell_far (p := ⟨gb132, _, none⟩) NB131_132.out _).trans (((cell_far (p := ⟨gb132, _, none⟩) NB131_132.out _).trans (hHeld.2.2.2.2.2.2.1)))))))), ((cell_far (p := ⟨gb132, _, none⟩) NB131_132.out _).trans (((cell_far (p := ⟨gb132, _, none⟩) NB131_132.out _).trans (((cell_far (p := ⟨gb132, _, none⟩) NB131_132.out _).trans (((cell_far (p := ⟨gb132, _, none⟩) NB131_132.out _).trans (hHeld.2.2.2.2.2.2.2.1)))))))), ((cell_far (p := ⟨gb132, _, none⟩) NB131_132.out _).trans (((cell_far (p := ⟨gb132, _, none⟩) NB131_132.out _).trans (((cell_far (p := ⟨gb132, _, none⟩) NB131_132.out _).trans (((cell_far (p := ⟨gb132, _, none⟩) NB131_132.out _).trans (hHeld.2.2.2.2.2.2.2.2))))))))⟩ (fun hHeld => ?_)
      clear hK K
      refine done_ (done_of HT_.out (by kernel_rfl)) ?_
      have hnb155 := NB132_131.out
      have hnc155 := NB131_132.out
      have hcz156_0 : w150.cell? ⟨gb132, 0, none⟩ = some (.bool false) := (blk_cell BK132.out 0).trans rfl
      have hcz156_1 : w150.cell? ⟨gb132, 1, none⟩ = some (.bool false) := (blk_cell BK132.out 1).trans rfl
      have hcz156_2 : w150.cell? ⟨gb132, 2, none⟩ = some (.bool false) := (blk_cell BK132.out 2).trans rfl
      have hcz156_3 : w150.cell? ⟨gb132, 3, none⟩ = some (.bool false) := (blk_cell BK132.out 3).trans rfl
      have hfz156_0 := blk_frozen BK132.out 0
      have hfz156_1 := blk_frozen BK132.out 1
      have hfz156_2 := blk_frozen BK132.out 2
      have hfz156_3 := blk_frozen BK132.out 3
      try go_wp2_with (first | ((with_reducible refine gate_callee (f := 9) rfl ?_); refine goesL_ (some 26) rfl rfl Try.func9 (by kernel_rfl) rfl #[.int .i64 9, .bool false, .int .u32 a0_2, .int .u32 a0_3, .int .u32 a0_4, .agg #[.bool a0_5, .bool a0_6, .bool a0_7, .bool a0_8]] rfl (by (try simp only [List.map_toArray, List.map_cons, List.map_nil]); first | done | rfl | (simp only [List.length_drop, List.length_take]; rfl)) ?_; (with_reducible refine (alu_Do.calls k 9 false a0_2 a0_3 a0_4 a0_5 a0_6 a0_7 a0_8 t133 t134 t135 t136 t137 t138 true _ A2.out).mono ?_); rintro e w157 ⟨rfl, hb⟩; refine ⟨_, rfl, ?_⟩; have n0_ := Aside0.mk (blk_below (g := gb131) (o := .cells #[.int .i64 a0_0, .bool a0_1, .int .u32 a0_2, .int .u32 a0_3, .int .u32 a0_4, .bool a0_5, .bool a0_6, .bool a0_7, .bool a0_8] 26 (0, 0)) (by (with_reducible repeat (first | refine blk_drewN ?_ _ | refine blk_drew ?_ | refine blk_alloc ?_ _)); refine blk_far ?_ NB131_132.out _; (with_reducible repeat (first | refine blk_drewN ?_ _ | refine blk_drew ?_ | refine blk_alloc ?_ _)); refine blk_far ?_ NB131_132.out _; (with_reducible repeat (first | refine blk_drewN ?_ _ | refine blk_drew ?_ | refine blk_alloc ?_ _)); refine blk_far ?_ NB131_132.out _; (with_reducible repeat (first | refine blk_drewN ?_ _ | refine blk_drew ?_ | refine blk_alloc ?_ _)); refine blk_far ?_ NB131_132.out _; (with_reducible repeat (first | refine blk_drewN ?_ _ | refine blk_drew ?_ | refine blk_alloc ?_ _)); exact BK131.out) hb); have n1_ := Aside0.mk (blk_below (g := gb132) (o := .cells #[.bool a0_5, .bool a0_6, .bool a0_7, .bool a0_8] 24 (0, 0)) (by (with_reducible repeat (first | refine blk_drewN ?_ _ | refine blk_drew ?_ | refine blk_alloc ?_ _)); refine blk_put (cs := #[.bool a0_5, .bool a0_6, .bool a0_7, .bool false]) ?_ 3 _ rfl; (with_reducible repeat (first | refine blk_drewN ?_ _ | refine blk_drew ?_ | refine blk_alloc ?_ _)); refine blk_put (cs := #[.bool a0_5, .bool a0_6, .bool false, .bool false]) ?_ 2 _ rfl; (with_reducible repeat (first | refine blk_drewN ?_ _ | refine blk_drew ?_ | refine blk_alloc ?_ _)); refine blk_put (cs := #[.bool a0_5, .bool false, .bool false, .bool false]) ?_ 1 _ rfl; (with_reducible repeat (first | refine blk_drewN ?_ _ | refine blk_drew ?_ | refine blk_alloc ?_ _)); refine blk_put (cs := #[.bool false, .bool false, .bool false, .bool false]) ?_ 0 _ rfl; (with_reducible repeat (first | refine blk_drewN ?_ _ | refine blk_drew ?_ | refine blk_alloc ?_ _)); exact BK132.out) hb); have n2_ := Aside0.mk (below_step (by repeat (first | (with_reducible first | exact HB.out | apply below_alloc | apply pw_below_drewN | apply below_drew1 | refine below_set ?_ GE131.out | refine below_set ?_ GE132.out) | exact HB.out)) hb); clear BK131; clear BK132; clear HB; have BK131 := n0_; have BK132 := n1_; have HB := n2_; clear n0_ n1_ n2_; (try clear hb); (try clear hb2); (try clear hk); (try clear hi)) | ((with_reducible refine gate_dst (N := 9) rfl ?_); refine box_event ?hg (N := 9) ?hd (cs := #[.bool false, .bool false, .bool false, .bool false]) (t := 24) ?hr ?_; (case hd => rfl); (case hg => rfl); (case hr => first | (go_simp; done) | (go_simp; rfl)); intro gb140 hg w158 hbox hb; have n0_ := Aside0.mk (blk_below (g := gb131) (o := .cells #[.int .i64 a0_0, .bool a0_1, .int .u32 a0_2, .int .u32 a0_3, .int .u32 a0_4, .bool a0_5, .bool a0_6, .bool a0_7, .bool a0_8] 26 (0, 0)) (by (with_reducible repeat (first | refine blk_drewN ?_ _ | refine blk_drew ?_ | refine blk_alloc ?_ _)); exact BK131.out) hb); have n1_ := Aside0.mk (blk_below (g := gb132) (o := .cells #[.bool a0_5, .bool a0_6, .bool a0_7, .bool a0_8] 24 (0, 0)) (by (with_reducible repeat (first | refine blk_drewN ?_ _ | refine blk_drew ?_ | refine blk_alloc ?_ _)); exact BK132.out) hb); have n2_ := Aside0.mk (below_step (by repeat (first | (with_reducible first | exact HB.out | apply below_alloc | apply pw_below_drewN | apply below_drew1 | refine below_set ?_ GE131.out | refine below_set ?_ GE132.out) | exact HB.out)) hb); have n3_ := Aside0.mk (hbox); have n4_ := Aside0.mk ((by rw [hg]; exact (below_size (by repeat (first | (with_reducible first | exact HB.out | apply below_alloc | apply pw_below_drewN | apply below_drew1 | refine below_set ?_ GE131.out | refine below_set ?_ GE132.out) | exact HB.out))) : w.heap.size ≤ gb140)); have n5_ := Aside0.mk ((by rw [hg]; exact (below_size (by repeat (first | (with_reducible first | exact HB.out | apply below_alloc | apply pw_below_drewN | apply below_drew1 | refine below_set ?_ GE131.out | refine below_set ?_ GE132.out) | exact HB.out))) : w.heap.size ≤ gb140)); have n6_ := Aside0.mk ((by rw [hg]; exact Nat.ne_of_lt (blk_lt (g := gb131) (o := .cells #[.int .i64 a0_0, .bool a0_1, .int .u32 a0_2, .int .u32 a0_3, .int .u32 a0_4, .bool a0_5, .bool a0_6, .bool a0_7, .bool a0_8] 26 (0, 0)) (by (with_reducible repeat (first | refine blk_drewN ?_ _ | refine blk_drew ?_ | refine blk_alloc ?_ _)); exact BK131.out)) : gb131 ≠ gb140)); have n7_ := Aside0.mk ((by rw [hg]; exact Nat.ne_of_gt (blk_lt (g := gb131) (o := .cells #[.int .i64 a0_0, .bool a0_1, .int .u32 a0_2, .int .u32 a0_3, .int .u32 a0_4, .bool a0_5, .bool a0_6, .bool a0_7, .bool a0_8] 26 (0, 0)) (by (with_reducible repeat (first | refine blk_drewN ?_ _ | refine blk_drew ?_ | refine blk_alloc ?_ _)); exact BK131.out)) : gb140 ≠ gb131)); have n8_ := Aside0.mk ((by rw [hg]; exact Nat.ne_of_lt (blk_lt (g := gb132) (o := .cells #[.bool a0_5, .bool a0_6, .bool a0_7, .bool a0_8] 24 (0, 0)) (by (with_reducible repeat (first | refine blk_drewN ?_ _ | refine blk_drew ?_ | refine blk_alloc ?_ _)); exact BK132.out)) : gb132 ≠ gb140)); have n9_ := Aside0.mk ((by rw [hg]; exact Nat.ne_of_gt (blk_lt (g := gb132) (o := .cells #[.bool a0_5, .bool a0_6, .bool a0_7, .bool a0_8] 24 (0, 0)) (by (with_reducible repeat (first | refine blk_drewN ?_ _ | refine blk_drew ?_ | refine blk_alloc ?_ _)); exact BK132.out)) : gb140 ≠ gb132)); clear BK131; clear BK132; clear HB; have BK131 := n0_; have BK132 := n1_; have HB := n2_; have BK140 := n3_; have GW140 := n4_; have GE140 := n5_; have NB131_140 := n6_; have NB140_131 := n7_; have NB132_140 := n8_; have NB140_132 := n9_; clear n0_ n1_ n2_ n3_ n4_ n5_ n6_ n7_ n8_ n9_; clear hb hbox hg; have hnb159 := NB140_131.out; have hnc159 := NB131_140.out; have hnb160 := NB140_132.out; have hnc160 := NB132_140.out; have hcz161_0 : w158.cell? ⟨gb140, 0, none⟩ = some (.bool false) := (blk_cell BK140.out 0).trans rfl; have hcz161_1 : w158.cell? ⟨gb140, 1, none⟩ = some (.bool false) := (blk_cell BK140.out 1).trans rfl; have hcz161_2 : w158.cell? ⟨gb140, 2, none⟩ = some (.bool false) := (blk_cell BK140.out 2).trans rfl; have hcz161_3 : w158.cell? ⟨gb140, 3, none⟩ = some (.bool false) := (blk_cell BK140.out 3).trans rfl; have hfz161_0 := blk_frozen BK140.out 0; have hfz161_1 := blk_frozen BK140.out 1; have hfz161_2 := blk_frozen BK140.out 2; have hfz161_3 := blk_frozen BK140.out 3) | (go_at_call 13; (with_reducible refine (alu_Holds.calls k 5 t135 t136 t137 t138 t141 _ A4.out).mono ?_); rintro e w162 ⟨rfl, hb⟩; have n0_ := Aside0.mk (blk_below (g := gb131) (o := .cells #[.int .i64 a0_0, .bool a0_1, .int .u32 a0_2, .int .u32 a0_3, .int .u32 a0_4, .bool a0_5, .bool a0_6, .bool a0_7, .bool a0_8] 26 (0, 0)) (by (with_reducible repeat (first | refine blk_drewN ?_ _ | refine blk_drew ?_ | refine blk_alloc ?_ _)); refine blk_far ?_ NB131_140.out _; (with_reducible repeat (first | refine blk_drewN ?_ _ | refine blk_drew ?_ | refine blk_alloc ?_ _)); refine blk_far ?_ NB131_140.out _; (with_reducible repeat (first | refine blk_drewN ?_ _ | refine blk_drew ?_ | refine blk_alloc ?_ _)); refine blk_far ?_ NB131_140.out _; (with_reducible repeat (first | refine blk_drewN ?_ _ | refine blk_drew ?_ | refine blk_alloc ?_ _)); refine blk_far ?_ NB131_140.out _; (with_reducible repeat (first | refine blk_drewN ?_ _ | refine blk_drew ?_ | refine blk_alloc ?_ _)); exact BK131.out) hb); have n1_ := Aside0.mk (blk_below (g := gb132) (o := .cells #[.bool a0_5, .bool a0_6, .bool a0_7, .bool a0_8] 24 (0, 0)) (by (with_reducible repeat (first | refine blk_drewN ?_ _ | refine blk_drew ?_ | refine blk_alloc ?_ _)); refine blk_far ?_ NB132_140.out _; (with_reducible repeat (first | refine blk_drewN ?_ _ | refine blk_drew ?_ | refine blk_alloc ?_ _)); refine blk_far ?_ NB132_140.out _; (with_reducible repeat (first | refine blk_drewN ?_ _ | refine blk_drew ?_ | refine blk_alloc ?_ _)); refine blk_far ?_ NB132_140.out _; (with_reducible repeat (first | refine blk_drewN ?_ _ | refine blk_drew ?_ | refine blk_alloc ?_ _)); refine blk_far ?_ NB132_140.out _; (with_reducible repeat (first | refine blk_drewN ?_ _ | refine blk_drew ?_ | refine blk_alloc ?_ _)); exact BK132.out) hb); have n2_ := Aside0.mk (blk_below (g := gb140) (o := .cells #[.bool t135, .bool t136, .bool t137, .bool t138] 24 (0, 0)) (by (with_reducible repeat (first | refine blk_drewN ?_ _ | refine blk_drew ?_ | refine blk_alloc ?_ _)); refine blk_put (cs := #[.bool t135, .bool t136, .bool t137, .bool false]) ?_ 3 _ rfl; (with_reducible repeat (first | refine blk_drewN ?_ _ | refine blk_drew ?_ | refine blk_alloc ?_ _)); refine blk_put (cs := #[.bool t135, .bool t136, .bool false, .bool false]) ?_ 2 _ rfl; (with_reducible repeat (first | refine blk_drewN ?_ _ | refine blk_drew ?_ | refine blk_alloc ?_ _)); refine blk_put (cs := #[.bool t135, .bool false, .bool false, .bool false]) ?_ 1 _ rfl; (with_reducible repeat (first | refine blk_drewN ?_ _ | refine blk_drew ?_ | refine blk_alloc ?_ _)); refine blk_put (cs := #[.bool false, .bool false, .bool false, .bool false]) ?_ 0 _ rfl; (with_reducible repeat (first | refine blk_drewN ?_ _ | refine blk_drew ?_ | refine blk_alloc ?_ _)); exact BK140.out) hb); have n3_ := Aside0.mk (below_step (by repeat (first | (with_reducible first | exact HB.out | apply below_alloc | apply pw_below_drewN | apply below_drew1 | refine below_set ?_ GE131.out | refine below_set ?_ GE132.out | refine below_set ?_ GE140.out) | exact HB.out)) hb); clear BK131; clear BK132; clear BK140; clear HB; have BK131 := n0_; have BK132 := n1_; have BK140 := n2_; have HB := n3_; clear n0_ n1_ n2_ n3_; (try clear hb); (try clear hb2); (try clear hk); (try clear hi)))
      go_ret
      exact ⟨by first | rfl | (simp [errW_none, errW_some] <;> rfl) | (simp [*, errW_none, errW_some] <;> rfl), by repeat (first | (with_reducible first | exact HB.out | apply below_alloc | apply pw_below_drewN | apply below_drew1 | refine below_set ?_ GE131.out | refine below_set ?_ GE132.out | refine below_set ?_ GE140.out) | exact HB.out)⟩
  · replace c3 := Bool.eq_false_iff.mpr c3
    subst c3
    have H1 : (some false) = some r := by rw [if_neg (show ¬ (false = true) by decide)] at H; exact H
    clear H
    have H := H1
    clear H1
    obtain rfl := Option.some.inj H
    go_enter Try.func5, Try.ntmps5
    try go_wp2_with (first | ((with_reducible refine gate_dst (N := 1) rfl ?_); refine box_event ?hg (N := 1) ?hd (cs := #[.int .i64 a0_0, .bool a0_1, .int .u32 a0_2, .int .u32 a0_3, .int .u32 a0_4, .bool a0_5, .bool a0_6, .bool a0_7, .bool a0_8]) (t := 26) ?hr ?_; (case hd => rfl); (case hg => rfl); (case hr => first | (go_simp; done) | (go_simp; rfl)); intro gb131 hg w163 hbox hb; have n0_ := Aside0.mk (below_step (by repeat (first | (with_reducible first | exact HB.out | apply below_alloc | apply pw_below_drewN | apply below_drew1) | exact HB.out)) hb); have n1_ := Aside0.mk (hbox); have n2_ := Aside0.mk ((by rw [hg]; exact (below_size (by repeat (first | (with_reducible first | exact HB.out | apply below_alloc | apply pw_below_drewN | apply below_drew1) | exact HB.out))) : w.heap.size ≤ gb131)); have n3_ := Aside0.mk ((by rw [hg]; exact (below_size (by repeat (first | (with_reducible first | exact HB.out | apply below_alloc | apply pw_below_drewN | apply below_drew1) | exact HB.out))) : w.heap.size ≤ gb131)); clear HB; have HB := n0_; have BK131 := n1_; have GW131 := n2_; have GE131 := n3_; clear n0_ n1_ n2_ n3_; clear hb hbox hg))
    have n0_ := Aside0.mk (blk_drew BK131.out)
    have n1_ := Aside0.mk (below_drew1 HB.out)
    clear BK131
    clear HB
    have BK131 := n0_
    have HB := n1_
    clear n0_ n1_
    refine start_ (n := 13) (S := fun w' => w'.cell? ⟨gb131, 0, none⟩ = some (.int .i64 a0_0) ∧ w'.cell? ⟨gb131, 1, none⟩ = some (.bool a0_1) ∧ w'.cell? ⟨gb131, 2, none⟩ = some (.int .u32 a0_2) ∧ w'.cell? ⟨gb131, 3, none⟩ = some (.int .u32 a0_3) ∧ w'.cell? ⟨gb131, 4, none⟩ = some (.int .u32 a0_4) ∧ w'.cell? ⟨gb131, 5, none⟩ = some (.bool a0_5) ∧ w'.cell? ⟨gb131, 6, none⟩ = some (.bool a0_6) ∧ w'.cell? ⟨gb131, 7, none⟩ = some (.bool a0_7) ∧ w'.cell? ⟨gb131, 8, none⟩ = some (.bool a0_8)) (ds := []) #[false, false, false, false, false, false, false, false, false, false, false, false, false] (by kernel_rfl) rfl rfl ⟨(blk_cell BK131.out 0).trans rfl, (blk_cell BK131.out 1).trans rfl, (blk_cell BK131.out 2).trans rfl, (blk_cell BK131.out 3).trans rfl, (blk_cell BK131.out 4).trans rfl, (blk_cell BK131.out 5).trans rfl, (blk_cell BK131.out 6).trans rfl, (blk_cell BK131.out 7).trans rfl, (blk_cell BK131.out 8).trans rfl⟩ (fun hHeld => ?_); refine with_tabW spinetlaw03_AluCompares.tab1 spinetlaw03_AluCompares.bits1 (fun HT_ HW_ => ?_)
    generalize w163.drew = w164 at BK131 HB hHeld ⊢
    refine pure_ (i := 0) (N := some 13) (v := ?_) (a' := ?_) #[true, false, false, false, false, false, false, false, false, false, false, false, false] rfl rfl (any_of HT_.out (by kernel_rfl)) (fun _ _ _ h => h) (Or.inl ⟨by rfl, ?_⟩) ?_ ?_
    rotate_left
    · intro w'
      go_simp
      with_reducible rfl
    rotate_left
    · simp only [Act.put, List.setIfInBounds_toArray, List.set_cons_zero, List.set_cons_succ, i64_w, i32_w]
      rfl
    refine pure_ (i := 2) (N := some 15) (v := ?_) (a' := ?_) #[true, false, true, false, false, false, false, false, false, false, false, false, false] rfl rfl (any_of HT_.out (by kernel_rfl)) (fun _ _ _ h => h) (Or.inl ⟨by rfl, ?_⟩) ?_ ?_
    rotate_left
    · intro w'
      go_simp
      with_reducible rfl
    rotate_left
    · simp only [Act.put, List.setIfInBounds_toArray, List.set_cons_zero, List.set_cons_succ, i64_w, i32_w]
      rfl
    refine pure_ (i := 4) (N := some 17) (v := ?_) (a' := ?_) #[true, false, true, false, true, false, false, false, false, false, false, false, false] rfl rfl (any_of HT_.out (by kernel_rfl)) (fun _ _ _ h => h) (Or.inl ⟨by rfl, ?_⟩) ?_ ?_
    rotate_left
    · intro w'
      go_simp
      with_reducible rfl
    rotate_left
    · simp only [Act.put, List.setIfInBounds_toArray, List.set_cons_zero, List.set_cons_succ, i64_w, i32_w]
      rfl
    refine pure_ (i := 6) (N := some 19) (v := ?_) (a' := ?_) #[true, false, true, false, true, false, true, false, false, false, false, false, false] rfl rfl (any_of HT_.out (by kernel_rfl)) (fun _ _ _ h => h) (Or.inl ⟨by rfl, ?_⟩) ?_ ?_
    rotate_left
    · intro w'
      go_simp
      with_reducible rfl
    rotate_left
    · simp only [Act.put, List.setIfInBounds_toArray, List.set_cons_zero, List.set_cons_succ, i64_w, i32_w]
      rfl
    refine take_ (i := 1) (N := some 14) (v := ?_) (a' := ?_) #[true, true, true, false, true, false, true, false, false, false, false, false, false] rfl rfl (take_ofW HT_.out HW_.out (by kernel_rfl)) (fun _ _ _ h => h) (Or.inl ⟨by rfl, ?_⟩) hHeld ?_ ?_
    rotate_left
    · rintro w' ⟨s0, s1, s2, s3, s4, s5, s6, s7, s8⟩
      go_simp
      with_reducible rfl
    rotate_left
    · simp only [Act.put, List.setIfInBounds_toArray, List.set_cons_zero, List.set_cons_succ, i64_w, i32_w]
      rfl
    refine take_ (i := 3) (N := some 16) (v := ?_) (a' := ?_) #[true, true, true, true, true, false, true, false, false, false, false, false, false] rfl rfl (take_ofW HT_.out HW_.out (by kernel_rfl)) (fun _ _ _ h => h) (Or.inl ⟨by rfl, ?_⟩) hHeld ?_ ?_
    rotate_left
    · rintro w' ⟨s0, s1, s2, s3, s4, s5, s6, s7, s8⟩
      go_simp
      with_reducible rfl
    rotate_left
    · simp only [Act.put, List.setIfInBounds_toArray, List.set_cons_zero, List.set_cons_succ, i64_w, i32_w]
      rfl
    refine take_ (i := 5) (N := some 18) (v := ?_) (a' := ?_) #[true, true, true, true, true, true, true, false, false, false, false, false, false] rfl rfl (take_ofW HT_.out HW_.out (by kernel_rfl)) (fun _ _ _ h => h) (Or.inl ⟨by rfl, ?_⟩) hHeld ?_ ?_
    rotate_left
    · rintro w' ⟨s0, s1, s2, s3, s4, s5, s6, s7, s8⟩
      go_simp
      with_reducible rfl
    rotate_left
    · simp only [Act.put, List.setIfInBounds_toArray, List.set_cons_zero, List.set_cons_succ, i64_w, i32_w]
      rfl
    refine take_ (i := 7) (N := some 20) (v := ?_) (a' := ?_) #[true, true, true, true, true, true, true, true, false, false, false, false, false] rfl rfl (take_ofW HT_.out HW_.out (by kernel_rfl)) (fun _ _ _ h => h) (Or.inl ⟨by rfl, ?_⟩) hHeld ?_ ?_
    rotate_left
    · rintro w' ⟨s0, s1, s2, s3, s4, s5, s6, s7, s8⟩
      go_simp
      with_reducible rfl
    rotate_left
    · simp only [Act.put, List.setIfInBounds_toArray, List.set_cons_zero, List.set_cons_succ, i64_w, i32_w]
      rfl
    refine one_ (i := 8) (N := some 6) #[true, true, true, true, true, true, true, true, true, false, false, false, false] rfl rfl (one_of HT_.out (by kernel_rfl)) (by decide) (fun K hK => ?_)
    refine box_step ?hg (N := 6) ?hd (cs := #[.bool false, .bool false, .bool false, .bool false]) (t := 24) ?hr ?_; (case hd => rfl); (case hg => rfl); (case hr => first | (go_simp; done) | (go_simp; rfl))
    intro gb132 hg w165 hbox hb
    have n0_ := Aside0.mk (blk_below (g := gb131) (o := .cells #[.int .i64 a0_0, .bool a0_1, .int .u32 a0_2, .int .u32 a0_3, .int .u32 a0_4, .bool a0_5, .bool a0_6, .bool a0_7, .bool a0_8] 26 (0, 0)) (by (with_reducible repeat (first | refine blk_drewN ?_ _ | refine blk_drew ?_ | refine blk_alloc ?_ _)); exact BK131.out) hb)
    have n1_ := Aside0.mk (below_step (by repeat (first | (with_reducible first | exact HB.out | apply below_alloc | apply pw_below_drewN | apply below_drew1 | refine below_set ?_ GE131.out) | exact HB.out)) hb)
    have n2_ := Aside0.mk (hbox)
    have n3_ := Aside0.mk ((by rw [hg]; exact (below_size (by repeat (first | (with_reducible first | exact HB.out | apply below_alloc | apply pw_below_drewN | apply below_drew1 | refine below_set ?_ GE131.out) | exact HB.out))) : w.heap.size ≤ gb132))
    have n4_ := Aside0.mk ((by rw [hg]; exact (below_size (by repeat (first | (with_reducible first | exact HB.out | apply below_alloc | apply pw_below_drewN | apply below_drew1 | refine below_set ?_ GE131.out) | exact HB.out))) : w.heap.size ≤ gb132))
    have n5_ := Aside0.mk ((by rw [hg]; exact Nat.ne_of_lt (blk_lt (g := gb131) (o := .cells #[.int .i64 a0_0, .bool a0_1, .int .u32 a0_2, .int .u32 a0_3, .int .u32 a0_4, .bool a0_5, .bool a0_6, .bool a0_7, .bool a0_8] 26 (0, 0)) (by (with_reducible repeat (first | refine blk_drewN ?_ _ | refine blk_drew ?_ | refine blk_alloc ?_ _)); exact BK131.out)) : gb131 ≠ gb132))
    have n6_ := Aside0.mk ((by rw [hg]; exact Nat.ne_of_gt (blk_lt (g := gb131) (o := .cells #[.int .i64 a0_0, .bool a0_1, .int .u32 a0_2, .int .u32 a0_3, .int .u32 a0_4, .bool a0_5, .bool a0_6, .bool a0_7, .bool a0_8] 26 (0, 0)) (by (with_reducible repeat (first | refine blk_drewN ?_ _ | refine blk_drew ?_ | refine blk_alloc ?_ _)); exact BK131.out)) : gb132 ≠ gb131))
    clear BK131
    clear HB
    have BK131 := n0_
    have HB := n1_
    have BK132 := n2_
    have GW132 := n3_
    have GE132 := n4_
    have NB131_132 := n5_
    have NB132_131 := n6_
    clear n0_ n1_ n2_ n3_ n4_ n5_ n6_
    clear hb hbox hg
    refine hK.out _ _ ⟨(blk_cell BK131.out 0).trans rfl, (blk_cell BK131.out 1).trans rfl, (blk_cell BK131.out 2).trans rfl, (blk_cell BK131.out 3).trans rfl, (blk_cell BK131.out 4).trans rfl, (blk_cell BK131.out 5).trans rfl, (blk_cell BK131.out 6).trans rfl, (blk_cell BK131.out 7).trans rfl, (blk_cell BK131.out 8).trans rfl⟩ (fun hHeld => ?_)
    clear hK K
    refine norm_ (a' := ?_) ?_ ?_
    rotate_left
    · show Act.put _ (some 6) _ = _
      simp only [Act.put, List.setIfInBounds_toArray, List.set_cons_zero, List.set_cons_succ, i64_w, i32_w]
      rfl
    refine pure_ (i := 9) (N := some 3) (v := ?_) (a' := ?_) #[true, true, true, true, true, true, true, true, true, true, false, false, false] rfl rfl (any_of HT_.out (by kernel_rfl)) (fun _ _ _ h => h) (Or.inl ⟨by rfl, ?_⟩) ?_ ?_
    rotate_left
    · intro w'
      go_simp
      with_reducible rfl
    rotate_left
    · simp only [Act.put, List.setIfInBounds_toArray, List.set_cons_zero, List.set_cons_succ, i64_w, i32_w]
      rfl
    refine pure_ (i := 10) (N := some 4) (v := ?_) (a' := ?_) #[true, true, true, true, true, true, true, true, true, true, true, false, false] rfl rfl (any_of HT_.out (by kernel_rfl)) (fun _ _ _ h => h) (Or.inl ⟨by rfl, ?_⟩) ?_ ?_
    rotate_left
    · intro w'
      go_simp
      with_reducible rfl
    rotate_left
    · simp only [Act.put, List.setIfInBounds_toArray, List.set_cons_zero, List.set_cons_succ, i64_w, i32_w]
      rfl
    refine pure_ (i := 11) (N := some 5) (v := ?_) (a' := ?_) #[true, true, true, true, true, true, true, true, true, true, true, true, false] rfl rfl (any_of HT_.out (by kernel_rfl)) (fun _ _ _ h => h) (Or.inl ⟨by rfl, ?_⟩) ?_ ?_
    rotate_left
    · intro w'
      go_simp
      with_reducible rfl
    rotate_left
    · simp only [Act.put, List.setIfInBounds_toArray, List.set_cons_zero, List.set_cons_succ, i64_w, i32_w]
      rfl
    refine one_ (i := 12) (N := none) #[true, true, true, true, true, true, true, true, true, true, true, true, true] rfl rfl (one_of HT_.out (by kernel_rfl)) (by decide) (fun K hK => ?_)
    have hs166 : w165.cell? ⟨gb132, 0, none⟩ = some (.bool false) := (blk_cell BK132.out 0).trans rfl
    have hfs166 := blk_frozen BK132.out 0
    have hns166_0 := NB131_132.out
    have hms166_0 := NB132_131.out
    have hs167 : w165.cell? ⟨gb132, 1, none⟩ = some (.bool false) := (blk_cell BK132.out 1).trans rfl
    have hfs167 := blk_frozen BK132.out 1
    have hns167_0 := NB131_132.out
    have hms167_0 := NB132_131.out
    have hs168 : w165.cell? ⟨gb132, 2, none⟩ = some (.bool false) := (blk_cell BK132.out 2).trans rfl
    have hfs168 := blk_frozen BK132.out 2
    have hns168_0 := NB131_132.out
    have hms168_0 := NB132_131.out
    have hs169 : w165.cell? ⟨gb132, 3, none⟩ = some (.bool false) := (blk_cell BK132.out 3).trans rfl
    have hfs169 := blk_frozen BK132.out 3
    have hns169_0 := NB131_132.out
    have hms169_0 := NB132_131.out
    refine skip_ (w1 := ?_) (by rfl) rfl ?_ ?_
    rotate_left
    · go_simp
      rfl
    refine hK.out _ _ ⟨((cell_far (p := ⟨gb132, _, none⟩) NB131_132.out _).trans (((cell_far (p := ⟨gb132, _, none⟩) NB131_132.out _).trans (((cell_far (p := ⟨gb132, _, none⟩) NB131_132.out _).trans (((cell_far (p := ⟨gb132, _, none⟩) NB131_132.out _).trans (hHeld.1)))))))), ((cell_far (p := ⟨gb132, _, none⟩) NB131_132.out _).trans (((cell_far (p := ⟨gb132, _, none⟩) NB131_132.out _).trans (((cell_far (p := ⟨gb132, _, none⟩) NB131_132.out _).trans (((cell_far (p := ⟨gb132, _, none⟩) NB131_132.out _).trans (hHeld.2.1)))))))), ((cell_far (p := ⟨gb132, _, none⟩) NB131_132.out _).trans (((cell_far (p := ⟨gb132, _, none⟩) NB131_132.out _).trans (((cell_far (p := ⟨gb132, _, none⟩) NB131_132.out _).trans (((cell_far (p := ⟨gb132, _, none⟩) NB131_132.out _).trans (hHeld.2.2.1)))))))), ((cell_far (p := ⟨gb132, _, none⟩) NB131_132.out _).trans (((cell_far (p := ⟨gb132, _, none⟩) NB131_132.out _).trans (((cell_far (p := ⟨gb132, _, none⟩) NB131_132.out _).trans (((cell_far (p := ⟨gb132, _, none⟩) NB131_132.out _).trans (hHeld.2.2.2.1)))))))), ((cell_far (p := ⟨gb132, _, none⟩) NB131_132.out _).trans (((cell_far (p := ⟨gb132, _, none⟩) NB131_132.out _).trans (((cell_far (p := ⟨gb132, _, none⟩) NB131_132.out _).trans (((cell_far (p := ⟨gb132, _, none⟩) NB131_132.out _).trans (hHeld.2.2.2.2.1)))))))), ((cell_far (p := ⟨gb132, _, none⟩) NB131_132.out _).trans (((cell_far (p := ⟨gb132, _, none⟩) NB131_132.out _).trans (((cell_far (p := ⟨gb132, _, none⟩) NB131_132.out _).trans (((cell_far (p := ⟨gb132, _, none⟩) NB131_132.out _).trans (hHeld.2.2.2.2.2.1)))))))), ((cell_far (p := ⟨gb132, _, none⟩) NB131_132.out _).trans (((cell_far (p := ⟨gb132, _, none⟩) NB131_132.out _).trans (((cell_far (p := ⟨gb132, _, none⟩) NB131_132.out _).trans (((cell_far (p := ⟨gb132, _, none⟩) NB131_132.out _).trans (hHeld.2.2.2.2.2.2.1)))))))), ((cell_far (p := ⟨gb132, _, none⟩) NB131_132.out _).trans (((cell_far (p := ⟨gb132, _, none⟩) NB131_132.out _).trans (((cell_far (p := ⟨gb132, _, none⟩) NB131_132.out _).trans (((cell_far (p := ⟨gb132, _, none⟩) NB131_132.out _).trans (hHeld.2.2.2.2.2.2.2.1)))))))), ((cell_far (p := ⟨gb132, _, none⟩) NB131_132.out _).trans (((cell_far (p := ⟨gb132, _, none⟩) NB131_132.out _).trans (((cell_far (p := ⟨gb132, _, none⟩) NB131_132.out _).trans (((cell_far (p := ⟨gb132, _, none⟩) NB131_132.out _).trans (hHeld.2.2.2.2.2.2.2.2))))))))⟩ (fun hHeld => ?_)
    clear hK K
    refine done_ (done_of HT_.out (by kernel_rfl)) ?_
    have hnb170 := NB132_131.out
    have hnc170 := NB131_132.out
    have hcz171_0 : w165.cell? ⟨gb132, 0, none⟩ = some (.bool false) := (blk_cell BK132.out 0).trans rfl
    have hcz171_1 : w165.cell? ⟨gb132, 1, none⟩ = some (.bool false) := (blk_cell BK132.out 1).trans rfl
    have hcz171_2 : w165.cell? ⟨gb132, 2, none⟩ = some (.bool false) := (blk_cell BK132.out 2).trans rfl
    have hcz171_3 : w165.cell? ⟨gb132, 3, none⟩ = some (.bool false) := (blk_cell BK132.out 3).trans rfl
    have hfz171_0 := blk_frozen BK132.out 0
    have hfz171_1 := blk_frozen BK132.out 1
    have hfz171_2 := blk_frozen BK132.out 2
    have hfz171_3 := blk_frozen BK132.out 3
    try go_wp2_with (first | ((with_reducible refine gate_callee (f := 9) rfl ?_); refine goesL_ (some 26) rfl rfl Try.func9 (by kernel_rfl) rfl #[.int .i64 9, .bool false, .int .u32 a0_2, .int .u32 a0_3, .int .u32 a0_4, .agg #[.bool a0_5, .bool a0_6, .bool a0_7, .bool a0_8]] rfl (by (try simp only [List.map_toArray, List.map_cons, List.map_nil]); first | done | rfl | (simp only [List.length_drop, List.length_take]; rfl)) ?_; (with_reducible refine (alu_Do.calls k 9 false a0_2 a0_3 a0_4 a0_5 a0_6 a0_7 a0_8 t133 t134 t135 t136 t137 t138 false _ A2.out).mono ?_); rintro e w172 ⟨rfl, hb⟩; refine ⟨_, rfl, ?_⟩; have n0_ := Aside0.mk (blk_below (g := gb131) (o := .cells #[.int .i64 a0_0, .bool a0_1, .int .u32 a0_2, .int .u32 a0_3, .int .u32 a0_4, .bool a0_5, .bool a0_6, .bool a0_7, .bool a0_8] 26 (0, 0)) (by (with_reducible repeat (first | refine blk_drewN ?_ _ | refine blk_drew ?_ | refine blk_alloc ?_ _)); refine blk_far ?_ NB131_132.out _; (with_reducible repeat (first | refine blk_drewN ?_ _ | refine blk_drew ?_ | refine blk_alloc ?_ _)); refine blk_far ?_ NB131_132.out _; (with_reducible repeat (first | refine blk_drewN ?_ _ | refine blk_drew ?_ | refine blk_alloc ?_ _)); refine blk_far ?_ NB131_132.out _; (with_reducible repeat (first | refine blk_drewN ?_ _ | refine blk_drew ?_ | refine blk_alloc ?_ _)); refine blk_far ?_ NB131_132.out _; (with_reducible repeat (first | refine blk_drewN ?_ _ | refine blk_drew ?_ | refine blk_alloc ?_ _)); exact BK131.out) hb); have n1_ := Aside0.mk (blk_below (g := gb132) (o := .cells #[.bool a0_5, .bool a0_6, .bool a0_7, .bool a0_8] 24 (0, 0)) (by (with_reducible repeat (first | refine blk_drewN ?_ _ | refine blk_drew ?_ | refine blk_alloc ?_ _)); refine blk_put (cs := #[.bool a0_5, .bool a0_6, .bool a0_7, .bool false]) ?_ 3 _ rfl; (with_reducible repeat (first | refine blk_drewN ?_ _ | refine blk_drew ?_ | refine blk_alloc ?_ _)); refine blk_put (cs := #[.bool a0_5, .bool a0_6, .bool false, .bool false]) ?_ 2 _ rfl; (with_reducible repeat (first | refine blk_drewN ?_ _ | refine blk_drew ?_ | refine blk_alloc ?_ _)); refine blk_put (cs := #[.bool a0_5, .bool false, .bool false, .bool false]) ?_ 1 _ rfl; (with_reducible repeat (first | refine blk_drewN ?_ _ | refine blk_drew ?_ | refine blk_alloc ?_ _)); refine blk_put (cs := #[.bool false, .bool false, .bool false, .bool false]) ?_ 0 _ rfl; (with_reducible repeat (first | refine blk_drewN ?_ _ | refine blk_drew ?_ | refine blk_alloc ?_ _)); exact BK132.out) hb); have n2_ := Aside0.mk (below_step (by repeat (first | (with_reducible first | exact HB.out | apply below_alloc | apply pw_below_drewN | apply below_drew1 | refine below_set ?_ GE131.out | refine below_set ?_ GE132.out) | exact HB.out)) hb); clear BK131; clear BK132; clear HB; have BK131 := n0_; have BK132 := n1_; have HB := n2_; clear n0_ n1_ n2_; (try clear hb); (try clear hb2); (try clear hk); (try clear hi)) | ((with_reducible refine gate_dst (N := 9) rfl ?_); refine box_event ?hg (N := 9) ?hd (cs := #[.bool false, .bool false, .bool false, .bool false]) (t := 24) ?hr ?_; (case hd => rfl); (case hg => rfl); (case hr => first | (go_simp; done) | (go_simp; rfl)); intro gb140 hg w173 hbox hb; have n0_ := Aside0.mk (blk_below (g := gb131) (o := .cells #[.int .i64 a0_0, .bool a0_1, .int .u32 a0_2, .int .u32 a0_3, .int .u32 a0_4, .bool a0_5, .bool a0_6, .bool a0_7, .bool a0_8] 26 (0, 0)) (by (with_reducible repeat (first | refine blk_drewN ?_ _ | refine blk_drew ?_ | refine blk_alloc ?_ _)); exact BK131.out) hb); have n1_ := Aside0.mk (blk_below (g := gb132) (o := .cells #[.bool a0_5, .bool a0_6, .bool a0_7, .bool a0_8] 24 (0, 0)) (by (with_reducible repeat (first | refine blk_drewN ?_ _ | refine blk_drew ?_ | refine blk_alloc ?_ _)); exact BK132.out) hb); have n2_ := Aside0.mk (below_step (by repeat (first | (with_reducible first | exact HB.out | apply below_alloc | apply pw_below_drewN | apply below_drew1 | refine below_set ?_ GE131.out | refine below_set ?_ GE132.out) | exact HB.out)) hb); have n3_ := Aside0.mk (hbox); have n4_ := Aside0.mk ((by rw [hg]; exact (below_size (by repeat (first | (with_reducible first | exact HB.out | apply below_alloc | apply pw_below_drewN | apply below_drew1 | refine below_set ?_ GE131.out | refine below_set ?_ GE132.out) | exact HB.out))) : w.heap.size ≤ gb140)); have n5_ := Aside0.mk ((by rw [hg]; exact (below_size (by repeat (first | (with_reducible first | exact HB.out | apply below_alloc | apply pw_below_drewN | apply below_drew1 | refine below_set ?_ GE131.out | refine below_set ?_ GE132.out) | exact HB.out))) : w.heap.size ≤ gb140)); have n6_ := Aside0.mk ((by rw [hg]; exact Nat.ne_of_lt (blk_lt (g := gb131) (o := .cells #[.int .i64 a0_0, .bool a0_1, .int .u32 a0_2, .int .u32 a0_3, .int .u32 a0_4, .bool a0_5, .bool a0_6, .bool a0_7, .bool a0_8] 26 (0, 0)) (by (with_reducible repeat (first | refine blk_drewN ?_ _ | refine blk_drew ?_ | refine blk_alloc ?_ _)); exact BK131.out)) : gb131 ≠ gb140)); have n7_ := Aside0.mk ((by rw [hg]; exact Nat.ne_of_gt (blk_lt (g := gb131) (o := .cells #[.int .i64 a0_0, .bool a0_1, .int .u32 a0_2, .int .u32 a0_3, .int .u32 a0_4, .bool a0_5, .bool a0_6, .bool a0_7, .bool a0_8] 26 (0, 0)) (by (with_reducible repeat (first | refine blk_drewN ?_ _ | refine blk_drew ?_ | refine blk_alloc ?_ _)); exact BK131.out)) : gb140 ≠ gb131)); have n8_ := Aside0.mk ((by rw [hg]; exact Nat.ne_of_lt (blk_lt (g := gb132) (o := .cells #[.bool a0_5, .bool a0_6, .bool a0_7, .bool a0_8] 24 (0, 0)) (by (with_reducible repeat (first | refine blk_drewN ?_ _ | refine blk_drew ?_ | refine blk_alloc ?_ _)); exact BK132.out)) : gb132 ≠ gb140)); have n9_ := Aside0.mk ((by rw [hg]; exact Nat.ne_of_gt (blk_lt (g := gb132) (o := .cells #[.bool a0_5, .bool a0_6, .bool a0_7, .bool a0_8] 24 (0, 0)) (by (with_reducible repeat (first | refine blk_drewN ?_ _ | refine blk_drew ?_ | refine blk_alloc ?_ _)); exact BK132.out)) : gb140 ≠ gb132)); clear BK131; clear BK132; clear HB; have BK131 := n0_; have BK132 := n1_; have HB := n2_; have BK140 := n3_; have GW140 := n4_; have GE140 := n5_; have NB131_140 := n6_; have NB140_131 := n7_; have NB132_140 := n8_; have NB140_132 := n9_; clear n0_ n1_ n2_ n3_ n4_ n5_ n6_ n7_ n8_ n9_; clear hb hbox hg; have hnb174 := NB140_131.out; have hnc174 := NB131_140.out; have hnb175 := NB140_132.out; have hnc175 := NB132_140.out; have hcz176_0 : w173.cell? ⟨gb140, 0, none⟩ = some (.bool false) := (blk_cell BK140.out 0).trans rfl; have hcz176_1 : w173.cell? ⟨gb140, 1, none⟩ = some (.bool false) := (blk_cell BK140.out 1).trans rfl; have hcz176_2 : w173.cell? ⟨gb140, 2, none⟩ = some (.bool false) := (blk_cell BK140.out 2).trans rfl; have hcz176_3 : w173.cell? ⟨gb140, 3, none⟩ = some (.bool false) := (blk_cell BK140.out 3).trans rfl; have hfz176_0 := blk_frozen BK140.out 0; have hfz176_1 := blk_frozen BK140.out 1; have hfz176_2 := blk_frozen BK140.out 2; have hfz176_3 := blk_frozen BK140.out 3))
    go_ret
    exact ⟨by first | rfl | (simp [errW_none, errW_some] <;> rfl) | (simp [*, errW_none, errW_some] <;> rfl), by repeat (first | (with_reducible first | exact HB.out | apply below_alloc | apply pw_below_drewN | apply below_drew1 | refine below_set ?_ GE131.out | refine below_set ?_ GE132.out | refine below_set ?_ GE140.out) | exact HB.out)⟩


end Go.Proofs.Ytbcoanjgpebedaa.PAluDoes
