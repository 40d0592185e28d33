/- The law ArithSets: both functions tell the same; walked. -/
import Derived.Test.YtkkgocbecnefnaaSets20Pure
import Derived.Test.YtkkgocbecnefnaaWakes
import Derived.Deep.RegionHeld3
namespace Go.Proofs.Ytkkgocbecnefnaa.LawArithSets
open Go.RowKit Go.Proofs.Ytkkgocbecnefnaa Go.Proofs.Ytkkgocbecnefnaa.Plain Go.Proofs.Ytkkgocbecnefnaa.PArithConsts Go.Proofs.Ytkkgocbecnefnaa.Ref01Pure Go.Proofs.Ytkkgocbecnefnaa.Wakes Go.Proofs.YtkkgocbecnefnaaW.PrintWords Go.Proofs.YtkkgocbecnefnaaW.PrintLast Go.Proofs.YtkkgocbecnefnaaW.PrintMore
set_option linter.unusedVariables false
set_option linter.unusedSimpArgs false

theorem wp_of_world {p : Program} {c : Code} {Q : Exit → Act → World → Prop} {a : Act} {w0 : World} (S : World → Prop) (h : S w0) (hw : ∀ w, S w → Code.wp p c Q a w) : Code.wp p c Q a w0 := hw w0 h
set_option maxRecDepth 100000 in
set_option maxHeartbeats 2000000 in
theorem walk (op : ByteArray) (s t n m : Int) (w : World) (s0 : 0 ≤ s) (s1 : s < 4294967296) (n0 : -9223372036854775808 ≤ n) (n1 : n ≤ 9223372036854775807) (m0 : -9223372036854775808 ≤ m) (m1 : m ≤ 9223372036854775807) :
    Calls Try.prog 5 #[.string op, .agg #[.int .u32 s, .int .u32 t], .agg #[.int .i64 n, .int .i64 m]] w fun e w' => e = .returned (.bool true) ∧ Below w.heap.size w w' := by
  obtain ⟨r, ok, R1, R2⟩ := set_some op s t
  obtain ⟨E1, E2⟩ := elem_both n s n0 n1 s0 s1
  obtain ⟨q, Q1, Q2⟩ := range_both n m n0 n1 m0 m1
  generalize (s / 2 ^ (n % 32).toNat % 2 == 1) = el at E1 E2
  have P1 := Aside0.mk R1
  have P2 := Aside0.mk R2
  have P3 := Aside0.mk E1
  have P4 := Aside0.mk E2
  have P5 := Aside0.mk Q1
  have P6 := Aside0.mk Q2
  clear R1 R2 E1 E2 Q1 Q2 n0 n1 m0 m1 s0 s1
  go_enter Try.func5, Try.ntmps5
  go_wp2_with fail
  go_quiet (fail)
  go_wp2_with fail
  refine (arith_Set.calls op s t r ok _ P1.out).mono ?_
  rintro e w1 ⟨rfl, n1, rfl⟩
  go_wp2_with fail
  refine (spinetref20_Set.calls op s t r ok _ P2.out).mono ?_
  rintro e w1 ⟨rfl, n2, rfl⟩
  go_wp2_with fail
  refine wp_of_world (fun w' => w'.cell? ⟨w.heap.size + 1, 0, none⟩ = some (.int .i64 n) ∧ w'.cell? ⟨w.heap.size + 1, 1, none⟩ = some (.int .i64 m) ∧ Below w.heap.size w w') ⟨by simp [go_sem], by simp [go_sem], ?_⟩ ?_
  · repeat (first | (with_reducible exact Below.refl _ _) | (with_reducible apply pw_below_drewN) | (with_reducible apply below_alloc) | (with_reducible apply Below.drew))
  rintro w3 ⟨c0, c1, hb3⟩
  have G3 := Aside0.mk hb3
  clear hb3
  go_region_held3 (fun w' => w'.cell? ⟨w.heap.size + 1, 0, none⟩ = some (.int .i64 n) ∧ w'.cell? ⟨w.heap.size + 1, 1, none⟩ = some (.int .i64 m) ∧ Aside0 (Below w.heap.size w w'))
    (first
      | (go_keep; done)
      | (exact ⟨by simp [go_sem, *], by simp [go_sem, *], ⟨Below.drew (Aside0.out (by assumption))⟩⟩)
      | (exact ⟨by simp [go_sem, *], by simp [go_sem, *], ⟨pw_below_drewN (Aside0.out (by assumption)) _⟩⟩)
      | (exact ⟨by simp [go_sem, *], by simp [go_sem, *], ⟨pw_below_drewN (Aside0.out (And.right (And.right (by assumption)))) _⟩⟩)
      | (exact ⟨pw_cell_below hb (by simp [go_sem, *]), pw_cell_below hb (by simp [go_sem, *]), ⟨below_step (by first | exact Aside0.out (by assumption) | exact pw_below_drewN (Aside0.out (by assumption)) _ | exact Aside0.out (And.right (And.right (by assumption))) | exact pw_below_drewN (Aside0.out (And.right (And.right (by assumption)))) _) hb⟩⟩))
    (first
      | (go_at_call 18; (with_reducible refine (arith_Elem.calls n s el _ P3.out).mono ?_); rintro e w' ⟨rfl, n3, rfl⟩)
      | (go_at_call 19; (with_reducible refine (spinetref20_Elem.calls 39 n s el _ P4.out).mono ?_); rintro e w' ⟨rfl, n3, rfl⟩)
      | (go_at_call 20; (with_reducible refine (arith_Range.calls 80 n m q _ P5.out).mono ?_); rintro e w' ⟨rfl, hb⟩)
      | (go_at_call 21; (with_reducible refine (spinetref20_Range.calls 80 n m q _ P6.out).mono ?_); rintro e w' ⟨rfl, n3, rfl⟩)
      | (go_at_call 9; refine (wakes_any _).mono ?_; rintro e w' ⟨rfl, hb⟩))
  all_goals (rename_i hHeld; have GE := hHeld.2.2; clear hHeld; go_wp2_with fail; go_ret; exact ⟨rfl, GE.out⟩)
end Go.Proofs.Ytkkgocbecnefnaa.LawArithSets
