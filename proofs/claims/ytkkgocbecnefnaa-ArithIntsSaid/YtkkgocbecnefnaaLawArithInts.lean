/- The law ArithInts, walked. -/
import Derived.Test.YtkkgocbecnefnaaRefInt
namespace Go.Proofs.Ytkkgocbecnefnaa.LawArithInts
open Go.RowKit Go.Proofs.Ytkkgocbecnefnaa Go.Proofs.Ytkkgocbecnefnaa.Plain Go.Proofs.Ytkkgocbecnefnaa.PArithConsts Go.Proofs.Ytkkgocbecnefnaa.Ref01Pure Go.Proofs.Ytkkgocbecnefnaa.Wakes Go.Proofs.YtkkgocbecnefnaaW.PrintWords Go.Proofs.YtkkgocbecnefnaaW.PrintLast Go.Proofs.YtkkgocbecnefnaaW.PrintMore
set_option linter.unusedVariables false
set_option linter.unusedSimpArgs false

set_option maxRecDepth 100000 in
set_option maxHeartbeats 2000000 in
theorem walk (s : ByteArray) (a b : Int) (w : World) (hs : s.size ≤ 140737488351232) (a0 : -9223372036854775808 ≤ a) (a1 : a ≤ 9223372036854775807) (b0 : -9223372036854775808 ≤ b) (b1 : b ≤ 9223372036854775807) :
    Calls Try.prog 4 #[.string s, .int .i64 a, .int .i64 b] w fun e w' => e = .returned (.bool true) ∧ Below w.heap.size w w' := by
  obtain ⟨x, y, R1, R2, _⟩ := relate_both s a b a0 a1 b0 b1
  have P1 := Aside0.mk R1
  have P2 := Aside0.mk R2
  clear R1 R2
  have I1 := Aside0.mk (fun W => int_any s a b W (by unfold maxLen; omega))
  have I2 := Aside0.mk (fun W => RefInt.refint_any s a b W a0 a1 b0 b1)
  clear a0 a1 b0 b1
  generalize intF s.toList a b = t at *
  obtain ⟨n, trap, ok⟩ := t
  go_enter Try.func4, Try.ntmps4
  go_wp2_with fail
  refine (I1.out _).mono ?_
  rintro e w1 ⟨rfl, hb1⟩
  have G1 := Aside0.mk hb1
  clear hb1
  go_wp2_with fail
  refine (I2.out _).mono ?_
  rintro e w2 ⟨rfl, hb2⟩
  have G2 := Aside0.mk (below_step G1.out hb2)
  clear hb2
  go_wp2_with fail
  refine (arith_Relate.calls s a b x y _ P1.out).mono ?_
  rintro e w3 ⟨rfl, n3, rfl⟩
  have G3 := Aside0.mk (pw_below_drewN G2.out n3)
  go_wp2_with fail
  refine (spinetref20_Relate.calls s a b x y _ P2.out).mono ?_
  rintro e w4 ⟨rfl, n4, rfl⟩
  have G4 := Aside0.mk (pw_below_drewN G3.out n4)
  go_wp2_with fail
  refine (wakes_any _).mono ?_
  rintro e w5 ⟨rfl, hb5⟩
  have G5 : Aside0 (Below w.heap.size w w5) := ⟨by first | exact below_step G4.out hb5 | exact below_step (pw_below_drewN G2.out _) hb5⟩
  clear hb5
  go_wp2_with fail
  go_ret
  exact ⟨rfl, G5.out⟩
end Go.Proofs.Ytkkgocbecnefnaa.LawArithInts
