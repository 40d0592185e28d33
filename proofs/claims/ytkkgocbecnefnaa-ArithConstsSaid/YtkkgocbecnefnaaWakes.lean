/- What Int tells, in one word; the small input that each law of layer 20 asks first. -/
import Derived.Test.YtkkgocbecnefnaaInt
import Derived.Test.YtkkgocbecnefnaaText
import Derived.Test.YtkkgocbecnefnaaBase20
namespace Go.Proofs.Ytkkgocbecnefnaa.Wakes
open Go.RowKit Go.Proofs.Ytkkgocbecnefnaa Go.Proofs.Ytkkgocbecnefnaa.PArithConsts Go.Proofs.YtkkgocbecnefnaaW.PrintWords Go.Proofs.YtkkgocbecnefnaaW.PrintLast Go.Proofs.YtkkgocbecnefnaaW.PrintMore
set_option linter.unusedVariables false
set_option linter.unusedSimpArgs false

theorem w32w64 (n : Int) : wrap32 (wrap64 n) = wrap32 n := by unfold wrap32 wrap64; omega

/-- What Int tells: the number, the trap, whether there is such an operation. -/
def intF (l : List UInt8) (a b : Int) : Int × Int × Bool :=
  if l = [43] then (wrap32 (wrap32 a + wrap32 b), 0, true)
  else if l = [45] then (wrap32 (wrap32 a - wrap32 b), 0, true)
  else if l = [42] then (wrap32 (wrap32 a * wrap32 b), 0, true)
  else if l = [68, 73, 86] then (if wrap32 b ≤ 0 then (0, 6, true) else (wrap32 (wrap32 a / wrap32 b), 0, true))
  else if l = [77, 79, 68] then (if wrap32 b ≤ 0 then (0, 6, true) else (wrap32 (wrap32 a % wrap32 b), 0, true))
  else (0, 0, false)

theorem div_exact (a b : Int) (h : 0 < wrap32 b) : wrap32 (wrap64 ((wrap64 (wrap32 a - wrap32 a % wrap32 b)).tdiv (wrap32 b))) = wrap32 (wrap32 a / wrap32 b) := by
  have ka : -2147483648 ≤ wrap32 a ∧ wrap32 a < 2147483648 := by unfold wrap32; omega
  have kb : wrap32 b < 2147483648 := by unfold wrap32; omega
  generalize wrap32 a = x at *
  generalize wrap32 b = y at *
  have m0 := Int.emod_nonneg x (show y ≠ 0 by omega)
  have m1 := Int.emod_lt_of_pos x h
  have e := Int.mul_ediv_add_emod x y
  have e1 : wrap64 (x - x % y) = y * (x / y) := by unfold wrap64; omega
  rw [e1, Int.mul_tdiv_cancel_left _ (by omega), w32w64]

theorem int_any (s : ByteArray) (a b : Int) (w : World) (hsz : s.size ≤ maxLen) :
    Calls Try.prog 12 #[.string s, .int .i64 a, .int .i64 b] w fun e w' => e = .returned (.tuple #[.int .i64 (intF s.toList a b).1, .int .i64 (intF s.toList a b).2.1, .bool (intF s.toList a b).2.2]) ∧ Below w.heap.size w w' := by
  unfold intF
  by_cases h1 : s.toList = [43]
  · have := Int12.int_add s a b w h1 hsz
    rw [w32w64] at this
    simpa [h1] using this
  by_cases h2 : s.toList = [45]
  · have := Int12.int_sub s a b w h2 hsz
    rw [w32w64] at this
    simpa [h2] using this
  by_cases h3 : s.toList = [42]
  · have := Int12.int_mul s a b w h3 hsz
    rw [w32w64] at this
    simpa [h3] using this
  by_cases h4 : s.toList = [68, 73, 86]
  · by_cases hb : wrap32 b ≤ 0
    · have := Int12.int_divz s a b w h4 hsz hb
      simpa [h4, hb] using this
    · have := Int12.int_div s a b w h4 hsz (by omega)
      rw [div_exact a b (by omega)] at this
      simpa [h4, hb] using this
  by_cases h5 : s.toList = [77, 79, 68]
  · by_cases hb : wrap32 b ≤ 0
    · have := Int12.int_modz s a b w h5 hsz hb
      simpa [h5, hb] using this
    · have := Int12.int_mod s a b w h5 hsz (by omega)
      simpa [h5, hb] using this
  have := Int12.int_none s a b w ⟨h1, h2, h3, h4, h5⟩ hsz
  simpa [h1, h2, h3, h4, h5] using this

theorem wakes_any (w : World) : Calls Try.prog 9 #[] w fun e w' => e = .returned (.bool true) ∧ Below w.heap.size w w' := by
  have I1 : ∀ W, Calls Try.prog 12 #[.string (ByteArray.mk #[43]), .int .i64 2147483647, .int .i64 1] W fun e w' => e = .returned (.tuple #[.int .i64 (-2147483648), .int .i64 0, .bool true]) ∧ Below W.heap.size W w' := fun W => by
    have h := int_any (ByteArray.mk #[43]) 2147483647 1 W (by unfold maxLen; decide)
    rwa [show intF (ByteArray.mk #[43]).toList 2147483647 1 = (-2147483648, 0, true) by decide +kernel] at h
  have I2 : ∀ W, Calls Try.prog 12 #[.string (ByteArray.mk #[68, 73, 86]), .int .i64 1, .int .i64 0] W fun e w' => e = .returned (.tuple #[.int .i64 0, .int .i64 6, .bool true]) ∧ Below W.heap.size W w' := fun W => by
    have h := int_any (ByteArray.mk #[68, 73, 86]) 1 0 W (by unfold maxLen; decide)
    rwa [show intF (ByteArray.mk #[68, 73, 86]).toList 1 0 = (0, 6, true) by decide +kernel] at h
  have I3 : arith_holds.f (ByteArray.mk #[60]) (Lib.compareBytes (Text.endOf (ByteArray.mk #[97, 98, 0, 122])).data.toList (Text.endOf (ByteArray.mk #[98])).data.toList) = some (true, true) := by decide +kernel
  have I4 : arith_Range.f 40 1 2 = some 6 := by decide +kernel
  go_enter Try.func9, Try.ntmps9
  go_wp2_with fail
  refine (I1 _).mono ?_
  rintro e w1 ⟨rfl, hb1⟩
  have G1 := Aside0.mk hb1
  clear hb1
  go_wp2_with fail
  refine (Text.texts_any _ _ _ _ _ _ (by decide) (by decide) I3).mono ?_
  rintro e w2 ⟨rfl, n2, rfl⟩
  have G2 := Aside0.mk (pw_below_drewN G1.out n2)
  go_wp2_with fail
  refine (I2 _).mono ?_
  rintro e w3 ⟨rfl, hb3⟩
  have G3 := Aside0.mk (below_step G2.out hb3)
  clear hb3
  go_wp2_with fail
  refine (arith_Range.calls 40 1 2 6 _ I4).mono ?_
  rintro e w4 ⟨rfl, hb4⟩
  have G4 := Aside0.mk (below_step G3.out hb4)
  clear hb4
  go_wp2_with fail
  go_ret
  exact ⟨rfl, G4.out⟩
end Go.Proofs.Ytkkgocbecnefnaa.Wakes
