/- The document's Int (layer 20), walked, and what it tells. -/
import Derived.Test.YtkkgocbecnefnaaRef01Pure
import Derived.Test.YtkkgocbecnefnaaWakes
namespace Go.Proofs.Ytkkgocbecnefnaa.RefInt
open Go.RowKit Go.Proofs.Ytkkgocbecnefnaa Go.Proofs.Ytkkgocbecnefnaa.Plain Go.Proofs.Ytkkgocbecnefnaa.PArithConsts Go.Proofs.Ytkkgocbecnefnaa.Ref01Pure Go.Proofs.YtkkgocbecnefnaaW.PrintWords Go.Proofs.YtkkgocbecnefnaaW.PrintLast Go.Proofs.YtkkgocbecnefnaaW.PrintMore
set_option linter.unusedVariables false
set_option linter.unusedSimpArgs false

set_option maxRecDepth 100000 in
set_option maxHeartbeats 2000000 in
theorem do11_y (b n : Int) (w : World) (b0 : 0 ≤ b) (b1 : b < 4294967296) (n0 : 0 ≤ n) (n1 : n < 4294967296) (hy : 0 < wrap32 n) :
    Calls Try.prog 40 #[.int .i64 11, .bool false, .int .u32 b, .int .u32 n, .int .u32 0, .agg #[.bool false, .bool false, .bool false, .bool false]] w fun e w' => e = .returned (.agg #[.int .u32 (wrap32 b / wrap32 n % 4294967296), .int .u32 (wrap32 b % wrap32 n % 4294967296), .bool (decide (wrap32 b / wrap32 n % 4294967296 ≥ 2147483648)), .bool (wrap32 b / wrap32 n % 4294967296 == 0), .bool false, .bool false, .bool true]) ∧ Below w.heap.size w w' := by
  have k1 := w32b b
  have k2 := w32b n
  have SB := Aside0.mk (signed_of b b0 b1)
  have SN := Aside0.mk (signed_of n n0 n1)
  have FL := Aside0.mk (rfloor_of (wrap32 b) (wrap32 n) hy (by omega) (by omega) (by omega))
  have hf := floor_of (wrap32 b) (wrap32 n) hy
  have ht := tdiv_bound (wrap32 b) (wrap32 n) 2147483648 (by omega) (by omega) (by omega)
  have e3 : wrap32 n * (wrap32 b / wrap32 n) + wrap32 b % wrap32 n = wrap32 b := Int.mul_ediv_add_emod _ _
  have m0 := Int.emod_nonneg (wrap32 b) (show wrap32 n ≠ 0 by omega)
  have m1 := Int.emod_lt_of_pos (wrap32 b) hy
  have q0 : -2147483649 ≤ wrap32 b / wrap32 n ∧ wrap32 b / wrap32 n ≤ 2147483648 := by
    by_cases h : Int.tmod (wrap32 b) (wrap32 n) < 0
    · have := (hf.1 h).1; omega
    · have := (hf.2 h).1; omega
  have e4 : wrap64 (wrap32 b - wrap64 (wrap32 b / wrap32 n * wrap32 n)) = wrap32 b % wrap32 n := by
    rw [Int.mul_comm (wrap32 b / wrap32 n), w64 (n := wrap32 n * (wrap32 b / wrap32 n)) (by omega) (by omega), w64 (by omega) (by omega)]; omega
  have W1 := Aside0.mk (word_of (wrap32 b / wrap32 n) (by omega) (by omega))
  have W2 : Aside0 (spinetref01_Word.f (wrap64 (wrap32 b - wrap64 (wrap32 b / wrap32 n * wrap32 n))) = some (wrap32 b % wrap32 n % 4294967296)) := ⟨by rw [e4]; exact word_of _ (by omega) (by omega)⟩
  have hyb : decide (wrap32 n > 0) = true := decide_eq_true hy
  clear hf ht e3 m0 m1 e4 k1 k2 q0
  go_enter Try.func40, Try.ntmps40
  go_wp2_with (first | (go_at_call 39; (with_reducible refine (spinetref01_Signed.calls b (wrap32 b) _ SB.out).mono ?_); rintro e w' ⟨rfl, nd1, rfl⟩) | (go_at_call 39; (with_reducible refine (spinetref01_Signed.calls n (wrap32 n) _ SN.out).mono ?_); rintro e w' ⟨rfl, nd2, rfl⟩) | (go_at_call 68; (with_reducible refine (spinetref03_floor.calls _ _ _ _ FL.out).mono ?_); rintro e w' ⟨rfl, nd3, rfl⟩) | (go_at_call 38; (with_reducible refine (spinetref01_Word.calls _ _ _ W1.out).mono ?_); rintro e w' ⟨rfl, nd4, rfl⟩) | (go_at_call 38; (with_reducible refine (spinetref01_Word.calls _ _ _ W2.out).mono ?_); rintro e w' ⟨rfl, nd5, rfl⟩) | go_in)
  refine bodyPost_ret (v := _) (by first | (simp [results, Try.results40, go_sem]; done) | (simp [results, Try.results40, go_sem]; rfl)) rfl ⟨?_, ?_⟩
  · rfl
  · exact by repeat (first | (with_reducible exact Below.refl _ _) | (with_reducible apply below_alloc) | (with_reducible apply pw_below_drewN) | (with_reducible apply Below.drew) | (refine Below.setCell ?_ (by first | exact Nat.le_refl _ | exact Nat.le_succ _ | (simp; done) | (simp; omega)) _))

open Go.Proofs.Ytkkgocbecnefnaa.Wakes
theorem mul_mod (a b : Int) : wrap32 (((a % 4294967296) * (b % 4294967296)) % 4294967296) = wrap32 (wrap32 a * wrap32 b) := by
  have e : ∀ n m : Int, n % 4294967296 = m % 4294967296 → wrap32 n = wrap32 m := fun n m h => by unfold wrap32; omega
  apply e
  have ha : wrap32 a % 4294967296 = a % 4294967296 := by unfold wrap32; omega
  have hb : wrap32 b % 4294967296 = b % 4294967296 := by unfold wrap32; omega
  rw [Int.emod_emod_of_dvd _ (by decide), Int.mul_emod (wrap32 a), ha, hb]

section
variable (s : ByteArray) (a b : Int) (w : World) (a0 : -9223372036854775808 ≤ a) (a1 : a ≤ 9223372036854775807) (b0 : -9223372036854775808 ≤ b) (b1 : b ≤ 9223372036854775807)
include a0 a1 b0 b1
set_option maxRecDepth 100000
set_option maxHeartbeats 2000000
theorem refint_any : Calls Try.prog 13 #[.string s, .int .i64 a, .int .i64 b] w fun e w' => e = .returned (.tuple #[.int .i64 (intF s.toList a b).1, .int .i64 (intF s.toList a b).2.1, .bool (intF s.toList a b).2.2]) ∧ Below w.heap.size w w' := by
  have wa : wrap32 (a % 4294967296) = wrap32 a := by unfold wrap32; omega
  have wb : wrap32 (b % 4294967296) = wrap32 b := by unfold wrap32; omega
  have WA := Aside0.mk (word_of a a0 a1)
  have WB := Aside0.mk (word_of b b0 b1)
  have la : 0 ≤ a % 4294967296 ∧ a % 4294967296 < 4294967296 := by omega
  have lb : 0 ≤ b % 4294967296 ∧ b % 4294967296 < 4294967296 := by omega
  obtain ⟨la0, la1⟩ := la
  obtain ⟨lb0, lb1⟩ := lb
  have S1 := Aside0.mk (signed_of ((a + b) % 4294967296) (by omega) (by omega))
  have S2 := Aside0.mk (signed_of ((a - b) % 4294967296) (by omega) (by omega))
  have S3 := Aside0.mk (signed_of ((a % 4294967296 * (b % 4294967296)) % 4294967296) (by omega) (by omega))
  have SB := Aside0.mk (signed_of (b % 4294967296) lb0 lb1)
  have E1 : wrap32 ((a + b) % 4294967296) = wrap32 (wrap32 a + wrap32 b) := by unfold wrap32; omega
  have E2 : wrap32 ((a - b) % 4294967296) = wrap32 (wrap32 a - wrap32 b) := by unfold wrap32; omega
  have E3 := mul_mod a b
  have X1 := Aside0.mk E1
  have X2 := Aside0.mk E2
  have X3 := Aside0.mk E3
  have Xb := Aside0.mk wb
  have Xa := Aside0.mk wa
  clear E1 E2 E3 wa wb a0 a1 b0 b1
  by_cases h1 : s.toList = [43]
  · have FN : Aside0 (intF s.toList a b = (wrap32 ((a + b) % 4294967296), 0, true)) := ⟨by simp [intF, h1, X1.out]⟩
    go_enter Try.func13, Try.ntmps13
    go_wp2_with (first | (go_at_call 38; (with_reducible refine (spinetref01_Word.calls a _ _ WA.out).mono ?_); rintro e w' ⟨rfl, nd1, rfl⟩) | (go_at_call 38; (with_reducible refine (spinetref01_Word.calls b _ _ WB.out).mono ?_); rintro e w' ⟨rfl, nd2, rfl⟩) | (go_at_call 39; (with_reducible refine (spinetref01_Signed.calls _ _ _ S1.out).mono ?_); rintro e w' ⟨rfl, nd3, rfl⟩))
    go_ret3
    exact ⟨by rw [FN.out]; rfl, by repeat (first | (with_reducible exact Below.refl _ _) | (with_reducible apply pw_below_drewN))⟩
  by_cases h2 : s.toList = [45]
  · have FN : Aside0 (intF s.toList a b = (wrap32 ((a - b) % 4294967296), 0, true)) := ⟨by simp [intF, h2, X2.out]⟩
    go_enter Try.func13, Try.ntmps13
    go_wp2_with (first | (go_at_call 38; (with_reducible refine (spinetref01_Word.calls a _ _ WA.out).mono ?_); rintro e w' ⟨rfl, nd1, rfl⟩) | (go_at_call 38; (with_reducible refine (spinetref01_Word.calls b _ _ WB.out).mono ?_); rintro e w' ⟨rfl, nd2, rfl⟩) | (go_at_call 39; (with_reducible refine (spinetref01_Signed.calls _ _ _ S2.out).mono ?_); rintro e w' ⟨rfl, nd3, rfl⟩))
    go_ret3
    exact ⟨by rw [FN.out]; rfl, by repeat (first | (with_reducible exact Below.refl _ _) | (with_reducible apply pw_below_drewN))⟩
  by_cases h3 : s.toList = [42]
  · have FN : Aside0 (intF s.toList a b = (wrap32 ((a % 4294967296 * (b % 4294967296)) % 4294967296), 0, true)) := ⟨by simp [intF, h3, X3.out]⟩
    go_enter Try.func13, Try.ntmps13
    go_wp2_with (first | (go_at_call 38; (with_reducible refine (spinetref01_Word.calls a _ _ WA.out).mono ?_); rintro e w' ⟨rfl, nd1, rfl⟩) | (go_at_call 38; (with_reducible refine (spinetref01_Word.calls b _ _ WB.out).mono ?_); rintro e w' ⟨rfl, nd2, rfl⟩) | (go_at_call 39; (with_reducible refine (spinetref01_Signed.calls _ _ _ S3.out).mono ?_); rintro e w' ⟨rfl, nd3, rfl⟩))
    go_ret3
    exact ⟨by rw [FN.out]; rfl, by repeat (first | (with_reducible exact Below.refl _ _) | (with_reducible apply pw_below_drewN))⟩
  have g1 : (s.toList == [43]) = false := by simpa using h1
  have g2 : (s.toList == [45]) = false := by simpa using h2
  have g3 : (s.toList == [42]) = false := by simpa using h3
  by_cases h4 : s.toList = [68, 73, 86] ∨ s.toList = [77, 79, 68]
  · by_cases hb : wrap32 b ≤ 0
    · have FN : Aside0 (intF s.toList a b = (0, 6, true)) := ⟨by rcases h4 with h | h <;> simp [intF, h, hb]⟩
      have hbb : decide (wrap32 (b % 4294967296) ≤ 0) = true := decide_eq_true (by rw [Xb.out]; exact hb)
      clear h1 h2 h3 hb
      rcases h4 with h | h
      all_goals
        clear g1 g2 g3
        go_enter Try.func13, Try.ntmps13
        go_wp2_with (first | (go_at_call 38; (with_reducible refine (spinetref01_Word.calls a _ _ WA.out).mono ?_); rintro e w' ⟨rfl, nd1, rfl⟩) | (go_at_call 38; (with_reducible refine (spinetref01_Word.calls b _ _ WB.out).mono ?_); rintro e w' ⟨rfl, nd2, rfl⟩) | (go_at_call 39; (with_reducible refine (spinetref01_Signed.calls _ _ _ SB.out).mono ?_); rintro e w' ⟨rfl, nd3, rfl⟩))
        go_ret3
        exact ⟨by rw [FN.out]; rfl, by repeat (first | (with_reducible exact Below.refl _ _) | (with_reducible apply pw_below_drewN))⟩
    · have hp : 0 < wrap32 (b % 4294967296) := by rw [Xb.out]; omega
      have hbb : decide (wrap32 (b % 4294967296) ≤ 0) = false := decide_eq_false (by omega)
      have DO := fun W => do11_y (a % 4294967296) (b % 4294967296) W la0 la1 lb0 lb1 hp
      have SQ := Aside0.mk (signed_of (wrap32 (a % 4294967296) / wrap32 (b % 4294967296) % 4294967296) (by omega) (by omega))
      have SR := Aside0.mk (signed_of (wrap32 (a % 4294967296) % wrap32 (b % 4294967296) % 4294967296) (by omega) (by omega))
      have EQ : ∀ n : Int, wrap32 (n % 4294967296) = wrap32 n := fun n => by unfold wrap32; omega
      have FN : Aside0 (s.toList = [68, 73, 86] → intF s.toList a b = (wrap32 (wrap32 (a % 4294967296) / wrap32 (b % 4294967296) % 4294967296), 0, true)) := ⟨fun h => by rw [EQ, EQ, EQ]; simp [intF, h, hb]⟩
      have FM : Aside0 (s.toList = [77, 79, 68] → intF s.toList a b = (wrap32 (wrap32 (a % 4294967296) % wrap32 (b % 4294967296) % 4294967296), 0, true)) := ⟨fun h => by rw [EQ, EQ, EQ]; simp [intF, h, hb]⟩
      have DO2 := Aside0.mk DO
      clear h1 h2 h3 hb DO EQ
      rcases h4 with h | h
      · have F := Aside0.mk (FN.out h)
        clear g1 g2 g3 FN FM
        go_enter Try.func13, Try.ntmps13
        go_wp2_with (first | (go_at_call 38; (with_reducible refine (spinetref01_Word.calls a _ _ WA.out).mono ?_); rintro e w' ⟨rfl, nd1, rfl⟩) | (go_at_call 38; (with_reducible refine (spinetref01_Word.calls b _ _ WB.out).mono ?_); rintro e w' ⟨rfl, nd2, rfl⟩) | (go_at_call 39; (with_reducible refine (spinetref01_Signed.calls _ _ _ SB.out).mono ?_); rintro e w' ⟨rfl, nd3, rfl⟩) | (go_at_call 40; refine (DO2.out _).mono ?_; rintro e w' ⟨rfl, hbel⟩; have HB := Aside0.mk hbel; clear hbel) | (go_at_call 39; (with_reducible refine (spinetref01_Signed.calls _ _ _ SQ.out).mono ?_); rintro e w' ⟨rfl, nd4, rfl⟩))
        go_ret3
        exact ⟨by rw [F.out]; rfl, by repeat (first | (with_reducible exact Below.refl _ _) | (with_reducible apply below_alloc) | (with_reducible apply pw_below_drewN) | exact below_step (by repeat (first | (with_reducible exact Below.refl _ _) | (with_reducible apply below_alloc) | (with_reducible apply pw_below_drewN))) HB.out)⟩
      · have F := Aside0.mk (FM.out h)
        clear g1 g2 g3 FN FM
        go_enter Try.func13, Try.ntmps13
        go_wp2_with (first | (go_at_call 38; (with_reducible refine (spinetref01_Word.calls a _ _ WA.out).mono ?_); rintro e w' ⟨rfl, nd1, rfl⟩) | (go_at_call 38; (with_reducible refine (spinetref01_Word.calls b _ _ WB.out).mono ?_); rintro e w' ⟨rfl, nd2, rfl⟩) | (go_at_call 39; (with_reducible refine (spinetref01_Signed.calls _ _ _ SB.out).mono ?_); rintro e w' ⟨rfl, nd3, rfl⟩) | (go_at_call 40; refine (DO2.out _).mono ?_; rintro e w' ⟨rfl, hbel⟩; have HB := Aside0.mk hbel; clear hbel) | (go_at_call 39; (with_reducible refine (spinetref01_Signed.calls _ _ _ SR.out).mono ?_); rintro e w' ⟨rfl, nd4, rfl⟩))
        go_ret3
        exact ⟨by rw [F.out]; rfl, by repeat (first | (with_reducible exact Below.refl _ _) | (with_reducible apply below_alloc) | (with_reducible apply pw_below_drewN) | exact below_step (by repeat (first | (with_reducible exact Below.refl _ _) | (with_reducible apply below_alloc) | (with_reducible apply pw_below_drewN))) HB.out)⟩
  · have g4 : (s.toList == [68, 73, 86]) = false := by simp only [beq_eq_false_iff_ne, ne_eq]; exact fun h => h4 (.inl h)
    have g5 : (s.toList == [77, 79, 68]) = false := by simp only [beq_eq_false_iff_ne, ne_eq]; exact fun h => h4 (.inr h)
    have FN : Aside0 (intF s.toList a b = (0, 0, false)) := ⟨by
      have k4 : ¬ s.toList = [68, 73, 86] := fun h => h4 (.inl h)
      have k5 : ¬ s.toList = [77, 79, 68] := fun h => h4 (.inr h)
      simp [intF, h1, h2, h3, k4, k5]⟩
    clear h1 h2 h3 h4
    go_enter Try.func13, Try.ntmps13
    go_wp2_with (first | (go_at_call 38; (with_reducible refine (spinetref01_Word.calls a _ _ WA.out).mono ?_); rintro e w' ⟨rfl, nd1, rfl⟩) | (go_at_call 38; (with_reducible refine (spinetref01_Word.calls b _ _ WB.out).mono ?_); rintro e w' ⟨rfl, nd2, rfl⟩))
    go_ret3
    exact ⟨by rw [FN.out]; rfl, by repeat (first | (with_reducible exact Below.refl _ _) | (with_reducible apply pw_below_drewN))⟩
end
end Go.Proofs.Ytkkgocbecnefnaa.RefInt
