/- consts.Good of numbers and sets; values of numbers and sets made by the law; walked. -/
import Derived.Test.YtkkgocbecnefnaaConstsSmall
namespace Go.Proofs.Ytkkgocbecnefnaa.Nums
open Go.RowKit Go.Maps Go.Proofs.Ytkkgocbecnefnaa.Tab Go.Proofs.Ytkkgocbecnefnaa.Plain Go.Proofs.Ytkkgocbecnefnaa.Small Go.Proofs.YtkkgocbecnefnaaW.PrintWords Go.Proofs.YtkkgocbecnefnaaW.PrintLast Go.Proofs.YtkkgocbecnefnaaW.PrintMore
set_option linter.unusedVariables false
set_option linter.unusedSimpArgs false

theorem e0l : E0.toList = [] := by decide +kernel
set_option maxRecDepth 100000 in
set_option maxHeartbeats 4000000 in
theorem good_int (n : Int) (w : World) : Calls Try.prog 53 #[V 1 n E0] w fun e w' => e = .returned (.bool (decide (-2147483648 ≤ n) && decide (n < 2147483648))) ∧ Below w.heap.size w w' := by
  have F := Aside0.mk (fits32 n)
  generalize (decide (-2147483648 ≤ n) && decide (n < 2147483648)) = g at *
  have d := e0l
  go_enter Try.func53, Try.ntmps53
  go_wp2_with fail
  refine (F.out _).mono ?_
  rintro e w1 ⟨rfl, rfl⟩
  go_wp2_with fail
  go_ret
  exact ⟨rfl, by (repeat (first | (with_reducible exact Below.refl _ _) | (with_reducible exact Aside0.out (by assumption)) | (with_reducible apply below_alloc) | (with_reducible apply pw_below_drewN) | (with_reducible apply Below.drew) | ((with_reducible refine Below.setCell ?_ ?_ _); rotate_left; (first | (simp; done) | (simp; omega) | exact Nat.le_refl _))))⟩
set_option maxRecDepth 100000 in
set_option maxHeartbeats 4000000 in
theorem good_set (n : Int) (w : World) (h0 : 0 ≤ n) (h1 : n < 4294967296) : Calls Try.prog 53 #[V 4 n E0] w fun e w' => e = .returned (.bool true) ∧ Below w.heap.size w w' := by
  have d := e0l
  have hn : n % 4294967296 = n := by omega
  have hw : wrap64 n = n := w64 (by omega) (by omega)
  go_enter Try.func53, Try.ntmps53
  go_wp2_with fail
  go_ret
  exact ⟨by first | rfl | (simp [*]; done), by (repeat (first | (with_reducible exact Below.refl _ _) | (with_reducible exact Aside0.out (by assumption)) | (with_reducible apply below_alloc) | (with_reducible apply pw_below_drewN) | (with_reducible apply Below.drew) | ((with_reducible refine Below.setCell ?_ ?_ _); rotate_left; (first | (simp; done) | (simp; omega) | exact Nat.le_refl _))))⟩
end Go.Proofs.Ytkkgocbecnefnaa.Nums
