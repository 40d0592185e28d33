/- The law ConstsDivides: quotient and rest are put together again; walked. -/
import Derived.Test.YtjimcgmefpienaaConstsWakes
namespace Go.Proofs.Ytjimcgmefpienaa.LawDivides
open Go.RowKit Go.Maps Go.Proofs.Ytjimcgmefpienaa.Tab Go.Proofs.Ytjimcgmefpienaa.Plain Go.Proofs.Ytjimcgmefpienaa.Small Go.Proofs.Ytjimcgmefpienaa.Rels Go.Proofs.Ytjimcgmefpienaa.Two Go.Proofs.Ytjimcgmefpienaa.Nums Go.Proofs.Ytjimcgmefpienaa.Wakes Go.Proofs.YtjimcgmefpienaaW.PrintWords Go.Proofs.YtjimcgmefpienaaW.PrintLast Go.Proofs.YtjimcgmefpienaaW.PrintMore
set_option linter.unusedVariables false
set_option linter.unusedSimpArgs false

theorem t_div : total 1 1 (ByteArray.mk #[68, 73, 86]).data.toList = some (58, some 62) := by decide +kernel
theorem t_mod : total 1 1 (ByteArray.mk #[77, 79, 68]).data.toList = some (58, some 64) := by decide +kernel
theorem two_div (a b : Int) (w : World) (a0 : -2147483648 ≤ a) (a1 : a < 2147483648) (b0 : -2147483648 ≤ b) (b1 : b < 2147483648) :
    Calls Try.prog 12 #[.string (ByteArray.mk #[68, 73, 86]), V 1 a E0, V 1 b E0] w fun e w' => e = .returned (VR (divR true a b)) ∧ Below w.heap.size w w' :=
  two_ints _ a b w (by unfold maxLen; decide) a0 a1 b0 b1 _ (by rw [t_div]; simp [entR])
theorem two_mod (a b : Int) (w : World) (a0 : -2147483648 ≤ a) (a1 : a < 2147483648) (b0 : -2147483648 ≤ b) (b1 : b < 2147483648) :
    Calls Try.prog 12 #[.string (ByteArray.mk #[77, 79, 68]), V 1 a E0, V 1 b E0] w fun e w' => e = .returned (VR (divR false a b)) ∧ Below w.heap.size w w' :=
  two_ints _ a b w (by unfold maxLen; decide) a0 a1 b0 b1 _ (by rw [t_mod]; simp [entR])

set_option maxRecDepth 100000 in
set_option maxHeartbeats 4000000 in
theorem walk_out (a b : Int) (w : World) (hn : (decide (-2147483648 ≤ a) && decide (a < 2147483648) && (decide (-2147483648 ≤ b) && decide (b < 2147483648))) = false) :
    Calls Try.prog 5 #[.int .i64 a, .int .i64 b] w fun e w' => e = .returned (.bool true) ∧ Below w.heap.size w w' := by
  have I1 := Aside0.mk (fun W => two_none (ByteArray.mk #[43]) 1 a 1 b E0 E0 _ _ W hn (good_int a) (good_int b))
  have Wk := Aside0.mk wakes_any
  have cs : (decide (a < -2147483648) = true) ∨ (decide (a < -2147483648) = false ∧ decide (2147483648 ≤ a) = true) ∨ (decide (a < -2147483648) = false ∧ decide (2147483648 ≤ a) = false ∧ decide (b < -2147483648) = true) ∨
      (decide (a < -2147483648) = false ∧ decide (2147483648 ≤ a) = false ∧ decide (b < -2147483648) = false ∧ decide (2147483648 ≤ b) = true) := by
    simp at hn ⊢; omega
  clear hn
  rcases cs with d1 | ⟨d1, d2⟩ | ⟨d1, d2, d3⟩ | ⟨d1, d2, d3, d4⟩
  all_goals
    go_enter Try.func5, Try.ntmps5
    go_wp2_with fail
    refine (num_any _ _).mono ?_
    rintro e w1 ⟨rfl, hb1⟩
    have G1 := Aside0.mk hb1
    clear hb1
    go_wp2_with fail
    refine (num_any _ _).mono ?_
    rintro e w2 ⟨rfl, hb2⟩
    have G2 := Aside0.mk (below_step G1.out hb2)
    clear hb2
    go_wp2_with fail
    refine (I1.out _).mono ?_
    rintro e w3 ⟨rfl, hb3⟩
    have G3 := Aside0.mk (below_step G2.out hb3)
    clear hb3
    go_wp2_with fail
    refine (Wk.out _).mono ?_
    rintro e w4 ⟨rfl, hb4⟩
    have G4 := Aside0.mk (below_step (below_alloc G3.out _) hb4)
    clear hb4
    go_wp2_with fail
    go_ret
    exact ⟨rfl, G4.out⟩
set_option maxRecDepth 100000 in
set_option maxHeartbeats 4000000 in
theorem walk_in (a b : Int) (w : World) (a0 : -2147483648 ≤ a) (a1 : a < 2147483648) (b0 : -2147483648 ≤ b) (b1 : b < 2147483648) :
    Calls Try.prog 5 #[.int .i64 a, .int .i64 b] w fun e w' => e = .returned (.bool true) ∧ Below w.heap.size w w' := by
  have I1 := Aside0.mk (fun W => two_div a b W a0 a1 b0 b1)
  have I2 := Aside0.mk (fun W => two_mod a b W a0 a1 b0 b1)
  have Wk := Aside0.mk wakes_any
  have d1 : decide (a < -2147483648) = false := decide_eq_false (by omega)
  have d2 : decide (2147483648 ≤ a) = false := decide_eq_false (by omega)
  have d3 : decide (b < -2147483648) = false := decide_eq_false (by omega)
  have d4 : decide (2147483648 ≤ b) = false := decide_eq_false (by omega)
  by_cases hb : b ≤ 0
  · simp only [divR, if_pos hb] at I1 I2
    have d5 : decide (b ≤ 0) = true := decide_eq_true hb
    clear hb a0 a1 b0 b1
    go_enter Try.func5, Try.ntmps5
    go_wp2_with fail
    refine (num_any _ _).mono ?_
    rintro e w1 ⟨rfl, hb1⟩
    have G1 := Aside0.mk hb1
    clear hb1
    go_wp2_with fail
    refine (num_any _ _).mono ?_
    rintro e w2 ⟨rfl, hb2⟩
    have G2 := Aside0.mk (below_step G1.out hb2)
    clear hb2
    go_wp2_with fail
    refine (I1.out _).mono ?_
    rintro e w3 ⟨rfl, hb3⟩
    have G3 := Aside0.mk (below_step G2.out hb3)
    clear hb3
    go_wp2_with fail
    refine (num_any _ _).mono ?_
    rintro e w4 ⟨rfl, hb4⟩
    have G4 := Aside0.mk (below_step (below_alloc G3.out _) hb4)
    clear hb4
    go_wp2_with fail
    refine (num_any _ _).mono ?_
    rintro e w5 ⟨rfl, hb5⟩
    have G5 := Aside0.mk (below_step G4.out hb5)
    clear hb5
    go_wp2_with fail
    refine (I2.out _).mono ?_
    rintro e w6 ⟨rfl, hb6⟩
    have G6 := Aside0.mk (below_step G5.out hb6)
    clear hb6
    go_wp2_with fail
    refine (Wk.out _).mono ?_
    rintro e w7 ⟨rfl, hb7⟩
    have G7 := Aside0.mk (below_step (below_alloc G6.out _) hb7)
    clear hb7
    go_wp2_with fail
    go_ret
    exact ⟨rfl, G7.out⟩
  · simp only [divR, if_neg hb, if_true, Bool.false_eq_true, if_false] at I1 I2
    have d5 : decide (b ≤ 0) = false := decide_eq_false hb
    have hm := Int.emod_add_mul_ediv a b
    have m0 := Int.emod_nonneg a (show b ≠ 0 by omega)
    have m1 := Int.emod_lt_of_pos a (show 0 < b by omega)
    have q0 : -2147483648 ≤ a / b := by
      rw [Int.le_ediv_iff_mul_le (by omega)]
      omega
    have q1 : a / b < 2147483648 := by
      rw [Int.ediv_lt_iff_lt_mul (by omega)]
      omega
    generalize a / b = q at *
    generalize a % b = m at *
    have hp : wrap64 (q * b) = a - m := by
      have : q * b = b * q := Int.mul_comm _ _
      rw [this, show b * q = a - m by omega, w64 (by omega) (by omega)]
    have hs : wrap64 (a - m + m) = a := by rw [w64 (by omega) (by omega)]; omega
    have hs3 : wrap64 a = a := w64 (by omega) (by omega)
    have hs2 : (a - m + m == a) = true := by simp
    have d6 : decide (0 ≤ m) = true := decide_eq_true m0
    have d7 : decide (m < b) = true := decide_eq_true m1
    clear hb a0 a1 b0 b1 hm m0 m1 q0 q1
    go_enter Try.func5, Try.ntmps5
    go_wp2_with fail
    refine (num_any _ _).mono ?_
    rintro e w1 ⟨rfl, hb1⟩
    have G1 := Aside0.mk hb1
    clear hb1
    go_wp2_with fail
    refine (num_any _ _).mono ?_
    rintro e w2 ⟨rfl, hb2⟩
    have G2 := Aside0.mk (below_step G1.out hb2)
    clear hb2
    go_wp2_with fail
    refine (I1.out _).mono ?_
    rintro e w3 ⟨rfl, hb3⟩
    have G3 := Aside0.mk (below_step G2.out hb3)
    clear hb3
    go_wp2_with fail
    refine (num_any _ _).mono ?_
    rintro e w4 ⟨rfl, hb4⟩
    have B4 := Aside0.mk (mid _ hb4)
    have G4 := Aside0.mk (below_step (below_alloc G3.out _) hb4)
    clear hb4
    go_wp2_with fail
    refine (num_any _ _).mono ?_
    rintro e w5 ⟨rfl, hb5⟩
    have B5 := Aside0.mk (blk_below B4.out hb5)
    have G5 := Aside0.mk (below_step G4.out hb5)
    clear hb5
    go_wp2_with fail
    refine (I2.out _).mono ?_
    rintro e w6 ⟨rfl, hb6⟩
    have B6 := Aside0.mk (blk_below B5.out hb6)
    have G6 := Aside0.mk (below_step G5.out hb6)
    clear hb6
    have b1 : ∀ o, (w6.alloc o).cell? ⟨w3.heap.size, 1, none⟩ = some (.int .i64 q) := Fill.cell1 (cells3 B6.out).2.1
    go_wp2_with fail
    refine (Wk.out _).mono ?_
    rintro e w7 ⟨rfl, hb7⟩
    have G7 := Aside0.mk (below_step (below_alloc G6.out _) hb7)
    clear hb7
    go_wp2_with fail
    go_ret
    exact ⟨rfl, G7.out⟩
theorem walk (a b : Int) (w : World) :
    Calls Try.prog 5 #[.int .i64 a, .int .i64 b] w fun e w' => e = .returned (.bool true) ∧ Below w.heap.size w w' := by
  by_cases h : (decide (-2147483648 ≤ a) && decide (a < 2147483648) && (decide (-2147483648 ≤ b) && decide (b < 2147483648))) = true
  · have h := h
    simp at h
    exact walk_in a b w h.1.1 h.1.2 h.2.1 h.2.2
  · exact walk_out a b w (by simpa using h)
end Go.Proofs.Ytjimcgmefpienaa.LawDivides
