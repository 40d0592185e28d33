/- The document's operation of two constants, as it was printed. -/
import Derived.Test.YtjimcgmefpienaaRef12b
namespace Go.Proofs.Ytjimcgmefpienaa.PConstsCalls
open Go.RowKit Go.Proofs.YtjimcgmefpienaaW.PrintWords Go.Proofs.YtjimcgmefpienaaW.PrintLast Go.Proofs.YtjimcgmefpienaaW.PrintMore
attribute [local go_sem] max2_int min2_int max_two min_two max_three min_three max_four min_four
set_option linter.unusedVariables false
set_option linter.unusedSimpArgs false

/-! ### spinetref12_Two: function 13 -/
mutual
def spinetref12_Two.j0 : Nat → ByteArray → Bool → Int → Int → ByteArray → Int → Int → ByteArray → Option (Int × Int × ByteArray × Int)
  | 0, _, _, _, _, _, _, _, _ => none
  | k + 1, x0, x20, x202000, x202001, x202002, x203000, x203001, x203002 => if x20 = true then ((spinetref12_none.f).bind fun bt206 => (some (bt206.1, bt206.2.1, bt206.2.2.1, bt206.2.2.2))) else (if x202000 = 3 then ((spinetref12_Char.f x203000 x203001 x203002).bind fun bt210 => (spinetref12_Two.j1 k x0 x202000 x202001 x202002 bt210.1 bt210.2.1 bt210.2.2)) else (spinetref12_Two.j1 k x0 x202000 x202001 x202002 x203000 x203001 x203002))
def spinetref12_Two.j1 : Nat → ByteArray → Int → Int → ByteArray → Int → Int → ByteArray → Option (Int × Int × ByteArray × Int)
  | 0, _, _, _, _, _, _, _ => none
  | k + 1, x0, x202000, x202001, x202002, x203000, x203001, x203002 => if x203000 = 3 then ((spinetref12_Char.f x202000 x202001 x202002).bind fun bt213 => (spinetref12_Two.j2 k x0 bt213.1 bt213.2.1 bt213.2.2 x203000 x203001 x203002)) else (spinetref12_Two.j2 k x0 x202000 x202001 x202002 x203000 x203001 x203002)
def spinetref12_Two.j2 : Nat → ByteArray → Int → Int → ByteArray → Int → Int → ByteArray → Option (Int × Int × ByteArray × Int)
  | 0, _, _, _, _, _, _, _ => none
  | k + 1, x0, x202000, x202001, x202002, x203000, x203001, x203002 => if x0.toList = ([73, 78] : List UInt8) then (if x202000 = 1 then (spinetref12_Two.j3 k x0 (x203000 == 4) x202000 x202001 x202002 x203000 x203001 x203002) else (spinetref12_Two.j3 k x0 false x202000 x202001 x202002 x203000 x203001 x203002)) else (spinetref12_Two.j3 k x0 false x202000 x202001 x202002 x203000 x203001 x203002)
def spinetref12_Two.j3 : Nat → ByteArray → Bool → Int → Int → ByteArray → Int → Int → ByteArray → Option (Int × Int × ByteArray × Int)
  | 0, _, _, _, _, _, _, _, _ => none
  | k + 1, x0, x45, x202000, x202001, x202002, x203000, x203001, x203002 => if x45 = true then (if x202001 < 0 then (spinetref12_Two.j4 k true x202000 x202001 x202002 x203000 x203001 x203002) else (spinetref12_Two.j4 k (decide (x202001 > 31)) x202000 x202001 x202002 x203000 x203001 x203002)) else (if x202000 = x203000 then ((spinetref12_order.f x202002 x203002).bind fun t225 => (if x202001 = x203001 then (spinetref12_Two.j5 k x0 t225 x202000 x202001 x202002 x203000 x203001 x203002) else (if x202001 < x203001 then (spinetref12_Two.j5 k x0 (-1) x202000 x202001 x202002 x203000 x203001 x203002) else (spinetref12_Two.j5 k x0 1 x202000 x202001 x202002 x203000 x203001 x203002)))) else ((spinetref12_none.f).bind fun bt221 => (some (bt221.1, bt221.2.1, bt221.2.2.1, bt221.2.2.2))))
def spinetref12_Two.j4 : Nat → Bool → Int → Int → ByteArray → Int → Int → ByteArray → Option (Int × Int × ByteArray × Int)
  | 0, _, _, _, _, _, _, _ => none
  | k + 1, x53, x202000, x202001, x202002, x203000, x203001, x203002 => if x53 = true then (some (0, 0, (⟨#[]⟩ : ByteArray), 91)) else ((spinetref01_Get.f k ((x203001) % 4294967296) x202001 1).bind fun t216 => ((spinetref12_truth.f (t216 == 1)).bind fun bt217 => (some (bt217.1, bt217.2.1, bt217.2.2.1, bt217.2.2.2))))
def spinetref12_Two.j5 : Nat → ByteArray → Int → Int → Int → ByteArray → Int → Int → ByteArray → Option (Int × Int × ByteArray × Int)
  | 0, _, _, _, _, _, _, _, _ => none
  | k + 1, x0, x8, x202000, x202001, x202002, x203000, x203001, x203002 => (spinetref12_Relate.f x0 x8).bind fun bt226 => (if bt226.2 = true then (if x0.toList = ([61] : List UInt8) then (spinetref12_Two.j6 k x0 bt226.1 true x202000 x202001 x202002 x203000 x203001 x203002) else (if x0.toList = ([35] : List UInt8) then (spinetref12_Two.j6 k x0 bt226.1 true x202000 x202001 x202002 x203000 x203001 x203002) else (if x202000 = 1 then (spinetref12_Two.j6 k x0 bt226.1 true x202000 x202001 x202002 x203000 x203001 x203002) else (if x202000 = 3 then (spinetref12_Two.j6 k x0 bt226.1 true x202000 x202001 x202002 x203000 x203001 x203002) else (spinetref12_Two.j6 k x0 bt226.1 (x202000 == 6) x202000 x202001 x202002 x203000 x203001 x203002))))) else (spinetref12_Two.j6 k x0 bt226.1 false x202000 x202001 x202002 x203000 x203001 x203002))
def spinetref12_Two.j6 : Nat → ByteArray → Bool → Bool → Int → Int → ByteArray → Int → Int → ByteArray → Option (Int × Int × ByteArray × Int)
  | 0, _, _, _, _, _, _, _, _, _ => none
  | k + 1, x0, x9, x117, x202000, x202001, x202002, x203000, x203001, x203002 => if x117 = true then ((spinetref12_truth.f x9).bind fun bt228 => (some (bt228.1, bt228.2.1, bt228.2.2.1, bt228.2.2.2))) else (if x202000 = 1 then ((spinetref12_ints.f k x0 x202001 x203001).bind fun bt232 => (some (bt232.1, bt232.2.1, bt232.2.2.1, bt232.2.2.2))) else (if x202000 = 4 then ((spinetref12_SetOp.f x0 ((x202001) % 4294967296) ((x203001) % 4294967296)).bind fun bt236 => (if bt236.2 = true then ((spinetref12_set.f bt236.1).bind fun bt238 => (some (bt238.1, bt238.2.1, bt238.2.2.1, bt238.2.2.2))) else ((spinetref12_none.f).bind fun bt242 => (some (bt242.1, bt242.2.1, bt242.2.2.1, bt242.2.2.2))))) else (if x202000 = 2 then (if x0.toList = ([38] : List UInt8) then (if x202001 = 1 then ((spinetref12_truth.f (x203001 == 1)).bind fun bt246 => (some (bt246.1, bt246.2.1, bt246.2.2.1, bt246.2.2.2))) else ((spinetref12_truth.f false).bind fun bt250 => (some (bt250.1, bt250.2.1, bt250.2.2.1, bt250.2.2.2)))) else (if x0.toList = ([79, 82] : List UInt8) then (if x202001 = 1 then ((spinetref12_truth.f true).bind fun bt254 => (some (bt254.1, bt254.2.1, bt254.2.2.1, bt254.2.2.2))) else ((spinetref12_truth.f (x203001 == 1)).bind fun bt258 => (some (bt258.1, bt258.2.1, bt258.2.2.1, bt258.2.2.2)))) else ((spinetref12_none.f).bind fun bt262 => (some (bt262.1, bt262.2.1, bt262.2.2.1, bt262.2.2.2))))) else ((spinetref12_none.f).bind fun bt266 => (some (bt266.1, bt266.2.1, bt266.2.2.1, bt266.2.2.2))))))
end
def spinetref12_Two.f (k : Nat) (a0 : ByteArray) (a1_0 : Int) (a1_1 : Int) (a1_2 : ByteArray) (a2_0 : Int) (a2_1 : Int) (a2_2 : ByteArray) : Option (Int × Int × ByteArray × Int) := (spinetref12_Good.f k a1_0 a1_1 a1_2).bind fun t204 => (if t204 = true then ((spinetref12_Good.f k a2_0 a2_1 a2_2).bind fun t205 => (spinetref12_Two.j0 k a0 (!t205) a1_0 a1_1 a1_2 a2_0 a2_1 a2_2)) else (spinetref12_Two.j0 k a0 true a1_0 a1_1 a1_2 a2_0 a2_1 a2_2))
theorem spinetref12_Two.mono_l : ∀ k, (∀ y0 y1 y2 y3 y4 y5 y6 y7, LeO (spinetref12_Two.j0 k y0 y1 y2 y3 y4 y5 y6 y7) (spinetref12_Two.j0 (k + 1) y0 y1 y2 y3 y4 y5 y6 y7)) ∧ (∀ y0 y1 y2 y3 y4 y5 y6, LeO (spinetref12_Two.j1 k y0 y1 y2 y3 y4 y5 y6) (spinetref12_Two.j1 (k + 1) y0 y1 y2 y3 y4 y5 y6)) ∧ (∀ y0 y1 y2 y3 y4 y5 y6, LeO (spinetref12_Two.j2 k y0 y1 y2 y3 y4 y5 y6) (spinetref12_Two.j2 (k + 1) y0 y1 y2 y3 y4 y5 y6)) ∧ (∀ y0 y1 y2 y3 y4 y5 y6 y7, LeO (spinetref12_Two.j3 k y0 y1 y2 y3 y4 y5 y6 y7) (spinetref12_Two.j3 (k + 1) y0 y1 y2 y3 y4 y5 y6 y7)) ∧ (∀ y0 y1 y2 y3 y4 y5 y6, LeO (spinetref12_Two.j4 k y0 y1 y2 y3 y4 y5 y6) (spinetref12_Two.j4 (k + 1) y0 y1 y2 y3 y4 y5 y6)) ∧ (∀ y0 y1 y2 y3 y4 y5 y6 y7, LeO (spinetref12_Two.j5 k y0 y1 y2 y3 y4 y5 y6 y7) (spinetref12_Two.j5 (k + 1) y0 y1 y2 y3 y4 y5 y6 y7)) ∧ (∀ y0 y1 y2 y3 y4 y5 y6 y7 y8, LeO (spinetref12_Two.j6 k y0 y1 y2 y3 y4 y5 y6 y7 y8) (spinetref12_Two.j6 (k + 1) y0 y1 y2 y3 y4 y5 y6 y7 y8))
  | 0 => ⟨fun _ _ _ _ _ _ _ _ r h => by simp [spinetref12_Two.j0] at h, fun _ _ _ _ _ _ _ r h => by simp [spinetref12_Two.j1] at h, fun _ _ _ _ _ _ _ r h => by simp [spinetref12_Two.j2] at h, fun _ _ _ _ _ _ _ _ r h => by simp [spinetref12_Two.j3] at h, fun _ _ _ _ _ _ _ r h => by simp [spinetref12_Two.j4] at h, fun _ _ _ _ _ _ _ _ r h => by simp [spinetref12_Two.j5] at h, fun _ _ _ _ _ _ _ _ _ r h => by simp [spinetref12_Two.j6] at h⟩
  | k + 1 => by
    obtain ⟨ih0, ih1, ih2, ih3, ih4, ih5, ih6⟩ := spinetref12_Two.mono_l k
    refine ⟨?_, ?_, ?_, ?_, ?_, ?_, ?_⟩
    · intro y0 y1 y2 y3 y4 y5 y6 y7
      unfold spinetref12_Two.j0
      repeat' first
      | (with_reducible exact ih0 _ _ _ _ _ _ _ _)
      | (with_reducible exact ih1 _ _ _ _ _ _ _)
      | (with_reducible exact ih2 _ _ _ _ _ _ _)
      | (with_reducible exact ih3 _ _ _ _ _ _ _ _)
      | (with_reducible exact ih4 _ _ _ _ _ _ _)
      | (with_reducible exact ih5 _ _ _ _ _ _ _ _)
      | (with_reducible exact ih6 _ _ _ _ _ _ _ _ _)
      | (with_reducible exact spinetref01_Get.mono _ _ _ _)
      | (with_reducible exact spinetref12_Good.mono _ _ _ _)
      | (with_reducible exact spinetref12_ints.mono _ _ _ _)
      | (with_reducible exact LeO.refl _)
      | (with_reducible exact LeO.none _)
      | (with_reducible refine LeO.ite ?_ ?_)
      | (with_reducible refine LeO.bind ?_ (fun _ => ?_))
      | exact ih0 _ _ _ _ _ _ _ _
      | exact ih1 _ _ _ _ _ _ _
      | exact ih2 _ _ _ _ _ _ _
      | exact ih3 _ _ _ _ _ _ _ _
      | exact ih4 _ _ _ _ _ _ _
      | exact ih5 _ _ _ _ _ _ _ _
      | exact ih6 _ _ _ _ _ _ _ _ _
      | exact spinetref01_Get.mono _ _ _ _
      | exact spinetref12_Good.mono _ _ _ _
      | exact spinetref12_ints.mono _ _ _ _
      | exact LeO.none _
      | refine LeO.ite ?_ ?_
      | refine LeO.bind ?_ (fun _ => ?_)
    · intro y0 y1 y2 y3 y4 y5 y6
      unfold spinetref12_Two.j1
      repeat' first
      | (with_reducible exact ih0 _ _ _ _ _ _ _ _)
      | (with_reducible exact ih1 _ _ _ _ _ _ _)
      | (with_reducible exact ih2 _ _ _ _ _ _ _)
      | (with_reducible exact ih3 _ _ _ _ _ _ _ _)
      | (with_reducible exact ih4 _ _ _ _ _ _ _)
      | (with_reducible exact ih5 _ _ _ _ _ _ _ _)
      | (with_reducible exact ih6 _ _ _ _ _ _ _ _ _)
      | (with_reducible exact spinetref01_Get.mono _ _ _ _)
      | (with_reducible exact spinetref12_Good.mono _ _ _ _)
      | (with_reducible exact spinetref12_ints.mono _ _ _ _)
      | (with_reducible exact LeO.refl _)
      | (with_reducible exact LeO.none _)
      | (with_reducible refine LeO.ite ?_ ?_)
      | (with_reducible refine LeO.bind ?_ (fun _ => ?_))
      | exact ih0 _ _ _ _ _ _ _ _
      | exact ih1 _ _ _ _ _ _ _
      | exact ih2 _ _ _ _ _ _ _
      | exact ih3 _ _ _ _ _ _ _ _
      | exact ih4 _ _ _ _ _ _ _
      | exact ih5 _ _ _ _ _ _ _ _
      | exact ih6 _ _ _ _ _ _ _ _ _
      | exact spinetref01_Get.mono _ _ _ _
      | exact spinetref12_Good.mono _ _ _ _
      | exact spinetref12_ints.mono _ _ _ _
      | exact LeO.none _
      | refine LeO.ite ?_ ?_
      | refine LeO.bind ?_ (fun _ => ?_)
    · intro y0 y1 y2 y3 y4 y5 y6
      unfold spinetref12_Two.j2
      repeat' first
      | (with_reducible exact ih0 _ _ _ _ _ _ _ _)
      | (with_reducible exact ih1 _ _ _ _ _ _ _)
      | (with_reducible exact ih2 _ _ _ _ _ _ _)
      | (with_reducible exact ih3 _ _ _ _ _ _ _ _)
      | (with_reducible exact ih4 _ _ _ _ _ _ _)
      | (with_reducible exact ih5 _ _ _ _ _ _ _ _)
      | (with_reducible exact ih6 _ _ _ _ _ _ _ _ _)
      | (with_reducible exact spinetref01_Get.mono _ _ _ _)
      | (with_reducible exact spinetref12_Good.mono _ _ _ _)
      | (with_reducible exact spinetref12_ints.mono _ _ _ _)
      | (with_reducible exact LeO.refl _)
      | (with_reducible exact LeO.none _)
      | (with_reducible refine LeO.ite ?_ ?_)
      | (with_reducible refine LeO.bind ?_ (fun _ => ?_))
      | exact ih0 _ _ _ _ _ _ _ _
      | exact ih1 _ _ _ _ _ _ _
      | exact ih2 _ _ _ _ _ _ _
      | exact ih3 _ _ _ _ _ _ _ _
      | exact ih4 _ _ _ _ _ _ _
      | exact ih5 _ _ _ _ _ _ _ _
      | exact ih6 _ _ _ _ _ _ _ _ _
      | exact spinetref01_Get.mono _ _ _ _
      | exact spinetref12_Good.mono _ _ _ _
      | exact spinetref12_ints.mono _ _ _ _
      | exact LeO.none _
      | refine LeO.ite ?_ ?_
      | refine LeO.bind ?_ (fun _ => ?_)
    · intro y0 y1 y2 y3 y4 y5 y6 y7
      unfold spinetref12_Two.j3
      repeat' first
      | (with_reducible exact ih0 _ _ _ _ _ _ _ _)
      | (with_reducible exact ih1 _ _ _ _ _ _ _)
      | (with_reducible exact ih2 _ _ _ _ _ _ _)
      | (with_reducible exact ih3 _ _ _ _ _ _ _ _)
      | (with_reducible exact ih4 _ _ _ _ _ _ _)
      | (with_reducible exact ih5 _ _ _ _ _ _ _ _)
      | (with_reducible exact ih6 _ _ _ _ _ _ _ _ _)
      | (with_reducible exact spinetref01_Get.mono _ _ _ _)
      | (with_reducible exact spinetref12_Good.mono _ _ _ _)
      | (with_reducible exact spinetref12_ints.mono _ _ _ _)
      | (with_reducible exact LeO.refl _)
      | (with_reducible exact LeO.none _)
      | (with_reducible refine LeO.ite ?_ ?_)
      | (with_reducible refine LeO.bind ?_ (fun _ => ?_))
      | exact ih0 _ _ _ _ _ _ _ _
      | exact ih1 _ _ _ _ _ _ _
      | exact ih2 _ _ _ _ _ _ _
      | exact ih3 _ _ _ _ _ _ _ _
      | exact ih4 _ _ _ _ _ _ _
      | exact ih5 _ _ _ _ _ _ _ _
      | exact ih6 _ _ _ _ _ _ _ _ _
      | exact spinetref01_Get.mono _ _ _ _
      | exact spinetref12_Good.mono _ _ _ _
      | exact spinetref12_ints.mono _ _ _ _
      | exact LeO.none _
      | refine LeO.ite ?_ ?_
      | refine LeO.bind ?_ (fun _ => ?_)
    · intro y0 y1 y2 y3 y4 y5 y6
      unfold spinetref12_Two.j4
      repeat' first
      | (with_reducible exact ih0 _ _ _ _ _ _ _ _)
      | (with_reducible exact ih1 _ _ _ _ _ _ _)
      | (with_reducible exact ih2 _ _ _ _ _ _ _)
      | (with_reducible exact ih3 _ _ _ _ _ _ _ _)
      | (with_reducible exact ih4 _ _ _ _ _ _ _)
      | (with_reducible exact ih5 _ _ _ _ _ _ _ _)
      | (with_reducible exact ih6 _ _ _ _ _ _ _ _ _)
      | (with_reducible exact spinetref01_Get.mono _ _ _ _)
      | (with_reducible exact spinetref12_Good.mono _ _ _ _)
      | (with_reducible exact spinetref12_ints.mono _ _ _ _)
      | (with_reducible exact LeO.refl _)
      | (with_reducible exact LeO.none _)
      | (with_reducible refine LeO.ite ?_ ?_)
      | (with_reducible refine LeO.bind ?_ (fun _ => ?_))
      | exact ih0 _ _ _ _ _ _ _ _
      | exact ih1 _ _ _ _ _ _ _
      | exact ih2 _ _ _ _ _ _ _
      | exact ih3 _ _ _ _ _ _ _ _
      | exact ih4 _ _ _ _ _ _ _
      | exact ih5 _ _ _ _ _ _ _ _
      | exact ih6 _ _ _ _ _ _ _ _ _
      | exact spinetref01_Get.mono _ _ _ _
      | exact spinetref12_Good.mono _ _ _ _
      | exact spinetref12_ints.mono _ _ _ _
      | exact LeO.none _
      | refine LeO.ite ?_ ?_
      | refine LeO.bind ?_ (fun _ => ?_)
    · intro y0 y1 y2 y3 y4 y5 y6 y7
      unfold spinetref12_Two.j5
      repeat' first
      | (with_reducible exact ih0 _ _ _ _ _ _ _ _)
      | (with_reducible exact ih1 _ _ _ _ _ _ _)
      | (with_reducible exact ih2 _ _ _ _ _ _ _)
      | (with_reducible exact ih3 _ _ _ _ _ _ _ _)
      | (with_reducible exact ih4 _ _ _ _ _ _ _)
      | (with_reducible exact ih5 _ _ _ _ _ _ _ _)
      | (with_reducible exact ih6 _ _ _ _ _ _ _ _ _)
      | (with_reducible exact spinetref01_Get.mono _ _ _ _)
      | (with_reducible exact spinetref12_Good.mono _ _ _ _)
      | (with_reducible exact spinetref12_ints.mono _ _ _ _)
      | (with_reducible exact LeO.refl _)
      | (with_reducible exact LeO.none _)
      | (with_reducible refine LeO.ite ?_ ?_)
      | (with_reducible refine LeO.bind ?_ (fun _ => ?_))
      | exact ih0 _ _ _ _ _ _ _ _
      | exact ih1 _ _ _ _ _ _ _
      | exact ih2 _ _ _ _ _ _ _
      | exact ih3 _ _ _ _ _ _ _ _
      | exact ih4 _ _ _ _ _ _ _
      | exact ih5 _ _ _ _ _ _ _ _
      | exact ih6 _ _ _ _ _ _ _ _ _
      | exact spinetref01_Get.mono _ _ _ _
      | exact spinetref12_Good.mono _ _ _ _
      | exact spinetref12_ints.mono _ _ _ _
      | exact LeO.none _
      | refine LeO.ite ?_ ?_
      | refine LeO.bind ?_ (fun _ => ?_)
    · intro y0 y1 y2 y3 y4 y5 y6 y7 y8
      unfold spinetref12_Two.j6
      repeat' first
      | (with_reducible exact ih0 _ _ _ _ _ _ _ _)
      | (with_reducible exact ih1 _ _ _ _ _ _ _)
      | (with_reducible exact ih2 _ _ _ _ _ _ _)
      | (with_reducible exact ih3 _ _ _ _ _ _ _ _)
      | (with_reducible exact ih4 _ _ _ _ _ _ _)
      | (with_reducible exact ih5 _ _ _ _ _ _ _ _)
      | (with_reducible exact ih6 _ _ _ _ _ _ _ _ _)
      | (with_reducible exact spinetref01_Get.mono _ _ _ _)
      | (with_reducible exact spinetref12_Good.mono _ _ _ _)
      | (with_reducible exact spinetref12_ints.mono _ _ _ _)
      | (with_reducible exact LeO.refl _)
      | (with_reducible exact LeO.none _)
      | (with_reducible refine LeO.ite ?_ ?_)
      | (with_reducible refine LeO.bind ?_ (fun _ => ?_))
      | exact ih0 _ _ _ _ _ _ _ _
      | exact ih1 _ _ _ _ _ _ _
      | exact ih2 _ _ _ _ _ _ _
      | exact ih3 _ _ _ _ _ _ _ _
      | exact ih4 _ _ _ _ _ _ _
      | exact ih5 _ _ _ _ _ _ _ _
      | exact ih6 _ _ _ _ _ _ _ _ _
      | exact spinetref01_Get.mono _ _ _ _
      | exact spinetref12_Good.mono _ _ _ _
      | exact spinetref12_ints.mono _ _ _ _
      | exact LeO.none _
      | refine LeO.ite ?_ ?_
      | refine LeO.bind ?_ (fun _ => ?_)
theorem spinetref12_Two.mono : ∀ a0 a1 a2 a3 a4 a5 a6 k, LeO (spinetref12_Two.f k a0 a1 a2 a3 a4 a5 a6) (spinetref12_Two.f (k + 1) a0 a1 a2 a3 a4 a5 a6) := by
  intro a0 a1 a2 a3 a4 a5 a6 k
  obtain ⟨ih0, ih1, ih2, ih3, ih4, ih5, ih6⟩ := spinetref12_Two.mono_l k
  unfold spinetref12_Two.f
  repeat' first
      | (with_reducible exact ih0 _ _ _ _ _ _ _ _)
      | (with_reducible exact ih1 _ _ _ _ _ _ _)
      | (with_reducible exact ih2 _ _ _ _ _ _ _)
      | (with_reducible exact ih3 _ _ _ _ _ _ _ _)
      | (with_reducible exact ih4 _ _ _ _ _ _ _)
      | (with_reducible exact ih5 _ _ _ _ _ _ _ _)
      | (with_reducible exact ih6 _ _ _ _ _ _ _ _ _)
      | (with_reducible exact spinetref01_Get.mono _ _ _ _)
      | (with_reducible exact spinetref12_Good.mono _ _ _ _)
      | (with_reducible exact spinetref12_ints.mono _ _ _ _)
      | (with_reducible exact LeO.refl _)
      | (with_reducible exact LeO.none _)
      | (with_reducible refine LeO.ite ?_ ?_)
      | (with_reducible refine LeO.bind ?_ (fun _ => ?_))
      | exact ih0 _ _ _ _ _ _ _ _
      | exact ih1 _ _ _ _ _ _ _
      | exact ih2 _ _ _ _ _ _ _
      | exact ih3 _ _ _ _ _ _ _ _
      | exact ih4 _ _ _ _ _ _ _
      | exact ih5 _ _ _ _ _ _ _ _
      | exact ih6 _ _ _ _ _ _ _ _ _
      | exact spinetref01_Get.mono _ _ _ _
      | exact spinetref12_Good.mono _ _ _ _
      | exact spinetref12_ints.mono _ _ _ _
      | exact LeO.none _
      | refine LeO.ite ?_ ?_
      | refine LeO.bind ?_ (fun _ => ?_)
set_option maxHeartbeats 8000000 in
set_option maxRecDepth 100000 in
theorem spinetref12_Two.calls (k : Nat) (a0 : ByteArray) (a1_0 : Int) (a1_1 : Int) (a1_2 : ByteArray) (a2_0 : Int) (a2_1 : Int) (a2_2 : ByteArray) (r1 : Int) (r2 : Int) (r3 : ByteArray) (r4 : Int) (w : World) (h : spinetref12_Two.f k a0 a1_0 a1_1 a1_2 a2_0 a2_1 a2_2 = some (r1, r2, r3, r4)) :
    Calls Try.prog 13 #[.string a0, .agg #[.int .i64 a1_0, .int .i64 a1_1, .string a1_2], .agg #[.int .i64 a2_0, .int .i64 a2_1, .string a2_2]] w fun e w' => e = .returned (.tuple #[.agg #[.int .i64 r1, .int .i64 r2, .string r3], .int .i64 r4]) ∧ Below w.heap.size w w' := by
  have hu23 := Try.underlying23
  have HB := Aside0.mk (Below.refl w.heap.size w)
  have H : ((spinetref12_Good.f k a1_0 a1_1 a1_2).bind fun t204 => (if t204 = true then ((spinetref12_Good.f k a2_0 a2_1 a2_2).bind fun t205 => (spinetref12_Two.j0 k a0 (!t205) a1_0 a1_1 a1_2 a2_0 a2_1 a2_2)) else (spinetref12_Two.j0 k a0 true a1_0 a1_1 a1_2 a2_0 a2_1 a2_2))) = some (r1, r2, r3, r4) := h
  clear h
  have HC4 := Aside0.mk H
  clear H
  go_enter Try.func13, Try.ntmps13
  go_upto_region 1 with (first | ((with_reducible refine gate_dst (N := 4) rfl ?_); refine box_event ?hg (N := 4) ?hd (cs := #[.int .i64 a1_0, .int .i64 a1_1, .string a1_2]) (t := 23) ?hr ?_; (case hd => rfl); (case hg => rfl); (case hr => first | (go_simp; done) | (go_simp; rfl)); intro gb201 hg w5 hbox hb; have n0_ := Aside0.mk (below_step (by repeat (first | (with_reducible first | exact HB.out | apply below_alloc | apply pw_below_drewN | apply below_drew1) | exact HB.out)) hb); have n1_ := Aside0.mk (hbox); have n2_ := Aside0.mk ((by rw [hg]; exact (below_size (by repeat (first | (with_reducible first | exact HB.out | apply below_alloc | apply pw_below_drewN | apply below_drew1) | exact HB.out))) : w.heap.size ≤ gb201)); have n3_ := Aside0.mk ((by rw [hg]; exact (below_size (by repeat (first | (with_reducible first | exact HB.out | apply below_alloc | apply pw_below_drewN | apply below_drew1) | exact HB.out))) : w.heap.size ≤ gb201)); clear HB; have HB := n0_; have BK201 := n1_; have GW201 := n2_; have GE201 := n3_; clear n0_ n1_ n2_ n3_; clear hb hbox hg) | ((with_reducible refine gate_dst (N := 5) rfl ?_); refine box_event ?hg (N := 5) ?hd (cs := #[.int .i64 a2_0, .int .i64 a2_1, .string a2_2]) (t := 23) ?hr ?_; (case hd => rfl); (case hg => rfl); (case hr => first | (go_simp; done) | (go_simp; rfl)); intro gb202 hg w6 hbox hb; have n0_ := Aside0.mk (blk_below (g := gb201) (o := .cells #[.int .i64 a1_0, .int .i64 a1_1, .string a1_2] 23 (0, 0)) (by (with_reducible repeat (first | refine blk_drewN ?_ _ | refine blk_drew ?_ | refine blk_alloc ?_ _)); exact BK201.out) hb); have n1_ := Aside0.mk (below_step (by repeat (first | (with_reducible first | exact HB.out | apply below_alloc | apply pw_below_drewN | apply below_drew1 | refine below_set ?_ GE201.out) | exact HB.out)) hb); have n2_ := Aside0.mk (hbox); have n3_ := Aside0.mk ((by rw [hg]; exact (below_size (by repeat (first | (with_reducible first | exact HB.out | apply below_alloc | apply pw_below_drewN | apply below_drew1 | refine below_set ?_ GE201.out) | exact HB.out))) : w.heap.size ≤ gb202)); have n4_ := Aside0.mk ((by rw [hg]; exact (below_size (by repeat (first | (with_reducible first | exact HB.out | apply below_alloc | apply pw_below_drewN | apply below_drew1 | refine below_set ?_ GE201.out) | exact HB.out))) : w.heap.size ≤ gb202)); have n5_ := Aside0.mk ((by rw [hg]; exact Nat.ne_of_lt (blk_lt (g := gb201) (o := .cells #[.int .i64 a1_0, .int .i64 a1_1, .string a1_2] 23 (0, 0)) (by (with_reducible repeat (first | refine blk_drewN ?_ _ | refine blk_drew ?_ | refine blk_alloc ?_ _)); exact BK201.out)) : gb201 ≠ gb202)); have n6_ := Aside0.mk ((by rw [hg]; exact Nat.ne_of_gt (blk_lt (g := gb201) (o := .cells #[.int .i64 a1_0, .int .i64 a1_1, .string a1_2] 23 (0, 0)) (by (with_reducible repeat (first | refine blk_drewN ?_ _ | refine blk_drew ?_ | refine blk_alloc ?_ _)); exact BK201.out)) : gb202 ≠ gb201)); clear BK201; clear HB; have BK201 := n0_; have HB := n1_; have BK202 := n2_; have GW202 := n3_; have GE202 := n4_; have NB201_202 := n5_; have NB202_201 := n6_; clear n0_ n1_ n2_ n3_ n4_ n5_ n6_; clear hb hbox hg) | ((with_reducible refine gate_dst (N := 6) rfl ?_); refine box_event ?hg (N := 6) ?hd (cs := #[.int .i64 0, .int .i64 0, .string (⟨#[]⟩ : ByteArray)]) (t := 23) ?hr ?_; (case hd => rfl); (case hg => rfl); (case hr => first | (go_simp; done) | (go_simp; rfl)); intro gb203 hg w7 hbox hb; have n0_ := Aside0.mk (blk_below (g := gb201) (o := .cells #[.int .i64 a1_0, .int .i64 a1_1, .string a1_2] 23 (0, 0)) (by (with_reducible repeat (first | refine blk_drewN ?_ _ | refine blk_drew ?_ | refine blk_alloc ?_ _)); exact BK201.out) hb); have n1_ := Aside0.mk (blk_below (g := gb202) (o := .cells #[.int .i64 a2_0, .int .i64 a2_1, .string a2_2] 23 (0, 0)) (by (with_reducible repeat (first | refine blk_drewN ?_ _ | refine blk_drew ?_ | refine blk_alloc ?_ _)); exact BK202.out) hb); have n2_ := Aside0.mk (below_step (by repeat (first | (with_reducible first | exact HB.out | apply below_alloc | apply pw_below_drewN | apply below_drew1 | refine below_set ?_ GE201.out | refine below_set ?_ GE202.out) | exact HB.out)) hb); have n3_ := Aside0.mk (hbox); have n4_ := Aside0.mk ((by rw [hg]; exact (below_size (by repeat (first | (with_reducible first | exact HB.out | apply below_alloc | apply pw_below_drewN | apply below_drew1 | refine below_set ?_ GE201.out | refine below_set ?_ GE202.out) | exact HB.out))) : w.heap.size ≤ gb203)); have n5_ := Aside0.mk ((by rw [hg]; exact (below_size (by repeat (first | (with_reducible first | exact HB.out | apply below_alloc | apply pw_below_drewN | apply below_drew1 | refine below_set ?_ GE201.out | refine below_set ?_ GE202.out) | exact HB.out))) : w.heap.size ≤ gb203)); have n6_ := Aside0.mk ((by rw [hg]; exact Nat.ne_of_lt (blk_lt (g := gb201) (o := .cells #[.int .i64 a1_0, .int .i64 a1_1, .string a1_2] 23 (0, 0)) (by (with_reducible repeat (first | refine blk_drewN ?_ _ | refine blk_drew ?_ | refine blk_alloc ?_ _)); exact BK201.out)) : gb201 ≠ gb203)); have n7_ := Aside0.mk ((by rw [hg]; exact Nat.ne_of_gt (blk_lt (g := gb201) (o := .cells #[.int .i64 a1_0, .int .i64 a1_1, .string a1_2] 23 (0, 0)) (by (with_reducible repeat (first | refine blk_drewN ?_ _ | refine blk_drew ?_ | refine blk_alloc ?_ _)); exact BK201.out)) : gb203 ≠ gb201)); have n8_ := Aside0.mk ((by rw [hg]; exact Nat.ne_of_lt (blk_lt (g := gb202) (o := .cells #[.int .i64 a2_0, .int .i64 a2_1, .string a2_2] 23 (0, 0)) (by (with_reducible repeat (first | refine blk_drewN ?_ _ | refine blk_drew ?_ | refine blk_alloc ?_ _)); exact BK202.out)) : gb202 ≠ gb203)); have n9_ := Aside0.mk ((by rw [hg]; exact Nat.ne_of_gt (blk_lt (g := gb202) (o := .cells #[.int .i64 a2_0, .int .i64 a2_1, .string a2_2] 23 (0, 0)) (by (with_reducible repeat (first | refine blk_drewN ?_ _ | refine blk_drew ?_ | refine blk_alloc ?_ _)); exact BK202.out)) : gb203 ≠ gb202)); clear BK201; clear BK202; clear HB; have BK201 := n0_; have BK202 := n1_; have HB := n2_; have BK203 := n3_; have GW203 := n4_; have GE203 := n5_; have NB201_203 := n6_; have NB203_201 := n7_; have NB202_203 := n8_; have NB203_202 := n9_; clear n0_ n1_ n2_ n3_ n4_ n5_ n6_ n7_ n8_ n9_; clear hb hbox hg))
  (try simp only [Act.put, List.setIfInBounds_toArray, List.set_cons_zero, List.set_cons_succ])
  go_cut [20] (fun v20 wc => ∃ (kq : Nat) (x20_3 : Bool), v20 = .bool x20_3 ∧ Aside0 (spinetref12_Two.j0 kq a0 x20_3 a1_0 a1_1 a1_2 a2_0 a2_1 a2_2 = some (r1, r2, r3, r4)) ∧ Aside0 (kq ≤ k) ∧ Aside0 (wc.heap[gb201]? = some (.cells #[.int .i64 a1_0, .int .i64 a1_1, .string a1_2] 23 (0, 0))) ∧ Aside0 (wc.heap[gb202]? = some (.cells #[.int .i64 a2_0, .int .i64 a2_1, .string a2_2] 23 (0, 0))) ∧ Aside0 (wc.heap[gb203]? = some (.cells #[.int .i64 0, .int .i64 0, .string (⟨#[]⟩ : ByteArray)] 23 (0, 0))) ∧ Aside0 (Below w.heap.size w wc))
  case first => as_aux_lemma =>
    have H := HC4.out
    clear HC4
    replace H := Option.bind_eq_some_iff.mp H
    obtain ⟨t204, A80, H⟩ := H
    replace H : (if t204 = true then ((spinetref12_Good.f k a2_0 a2_1 a2_2).bind fun t205 => (spinetref12_Two.j0 k a0 (!t205) a1_0 a1_1 a1_2 a2_0 a2_1 a2_2)) else (spinetref12_Two.j0 k a0 true a1_0 a1_1 a1_2 a2_0 a2_1 a2_2)) = some (r1, r2, r3, r4) := H
    have A8 := Aside0.mk A80
    clear A80
    by_cases c9 : t204 = true
    · subst c9
      have H1 : ((spinetref12_Good.f k a2_0 a2_1 a2_2).bind fun t205 => (spinetref12_Two.j0 k a0 (!t205) a1_0 a1_1 a1_2 a2_0 a2_1 a2_2)) = some (r1, r2, r3, r4) := by rw [if_pos rfl] at H; exact H
      clear H
      have H := H1
      clear H1
      replace H := Option.bind_eq_some_iff.mp H
      obtain ⟨t205, A100, H⟩ := H
      replace H : (spinetref12_Two.j0 k a0 (!t205) a1_0 a1_1 a1_2 a2_0 a2_1 a2_2) = some (r1, r2, r3, r4) := H
      have A10 := Aside0.mk A100
      clear A100
      have H' := Aside0.mk H
      clear H
      have hnb11 := NB201_202.out
      have hnc11 := NB202_201.out
      have hnb12 := NB201_203.out
      have hnc12 := NB203_201.out
      have hcz13_0 : w7.cell? ⟨gb201, 0, none⟩ = some (.int .i64 a1_0) := (blk_cell BK201.out 0).trans rfl
      have hcz13_1 : w7.cell? ⟨gb201, 1, none⟩ = some (.int .i64 a1_1) := (blk_cell BK201.out 1).trans rfl
      have hcz13_2 : w7.cell? ⟨gb201, 2, none⟩ = some (.string a1_2) := (blk_cell BK201.out 2).trans rfl
      have hfz13_0 := blk_frozen BK201.out 0
      have hfz13_1 := blk_frozen BK201.out 1
      have hfz13_2 := blk_frozen BK201.out 2
      go_wp2_with (first | ((with_reducible refine gate_callee (f := 21) rfl ?_); refine goesL_ (some 14) rfl rfl Try.func21 (by kernel_rfl) rfl #[.agg #[.int .i64 a1_0, .int .i64 a1_1, .string a1_2]] rfl (by (try simp only [List.map_toArray, List.map_cons, List.map_nil]); first | done | rfl | (simp only [List.length_drop, List.length_take]; rfl)) ?_; (with_reducible refine (spinetref12_Good.calls k a1_0 a1_1 a1_2 true _ A8.out).mono ?_); rintro e w14 ⟨rfl, hb⟩; refine ⟨_, rfl, ?_⟩; have n0_ := Aside0.mk (blk_below (g := gb201) (o := .cells #[.int .i64 a1_0, .int .i64 a1_1, .string a1_2] 23 (0, 0)) (by (with_reducible repeat (first | refine blk_drewN ?_ _ | refine blk_drew ?_ | refine blk_alloc ?_ _)); exact BK201.out) hb); have n1_ := Aside0.mk (blk_below (g := gb202) (o := .cells #[.int .i64 a2_0, .int .i64 a2_1, .string a2_2] 23 (0, 0)) (by (with_reducible repeat (first | refine blk_drewN ?_ _ | refine blk_drew ?_ | refine blk_alloc ?_ _)); exact BK202.out) hb); have n2_ := Aside0.mk (blk_below (g := gb203) (o := .cells #[.int .i64 0, .int .i64 0, .string (⟨#[]⟩ : ByteArray)] 23 (0, 0)) (by (with_reducible repeat (first | refine blk_drewN ?_ _ | refine blk_drew ?_ | refine blk_alloc ?_ _)); exact BK203.out) hb); have n3_ := Aside0.mk (below_step (by repeat (first | (with_reducible first | exact HB.out | apply below_alloc | apply pw_below_drewN | apply below_drew1 | refine below_set ?_ GE201.out | refine below_set ?_ GE202.out | refine below_set ?_ GE203.out) | exact HB.out)) hb); clear BK201; clear BK202; clear BK203; clear HB; have BK201 := n0_; have BK202 := n1_; have BK203 := n2_; have HB := n3_; clear n0_ n1_ n2_ n3_; (try clear hb); (try clear hb2); (try clear hk); (try clear hi); have hnb15 := NB202_203.out; have hnc15 := NB203_202.out; have hcz16_0 : w14.cell? ⟨gb202, 0, none⟩ = some (.int .i64 a2_0) := (blk_cell BK202.out 0).trans rfl; have hcz16_1 : w14.cell? ⟨gb202, 1, none⟩ = some (.int .i64 a2_1) := (blk_cell BK202.out 1).trans rfl; have hcz16_2 : w14.cell? ⟨gb202, 2, none⟩ = some (.string a2_2) := (blk_cell BK202.out 2).trans rfl; have hfz16_0 := blk_frozen BK202.out 0; have hfz16_1 := blk_frozen BK202.out 1; have hfz16_2 := blk_frozen BK202.out 2) | (go_at_call 21; (with_reducible refine (spinetref12_Good.calls k a2_0 a2_1 a2_2 t205 _ A10.out).mono ?_); rintro e w17 ⟨rfl, hb⟩; have n0_ := Aside0.mk (blk_below (g := gb201) (o := .cells #[.int .i64 a1_0, .int .i64 a1_1, .string a1_2] 23 (0, 0)) (by (with_reducible repeat (first | refine blk_drewN ?_ _ | refine blk_drew ?_ | refine blk_alloc ?_ _)); exact BK201.out) hb); have n1_ := Aside0.mk (blk_below (g := gb202) (o := .cells #[.int .i64 a2_0, .int .i64 a2_1, .string a2_2] 23 (0, 0)) (by (with_reducible repeat (first | refine blk_drewN ?_ _ | refine blk_drew ?_ | refine blk_alloc ?_ _)); exact BK202.out) hb); have n2_ := Aside0.mk (blk_below (g := gb203) (o := .cells #[.int .i64 0, .int .i64 0, .string (⟨#[]⟩ : ByteArray)] 23 (0, 0)) (by (with_reducible repeat (first | refine blk_drewN ?_ _ | refine blk_drew ?_ | refine blk_alloc ?_ _)); exact BK203.out) hb); have n3_ := Aside0.mk (below_step (by repeat (first | (with_reducible first | exact HB.out | apply below_alloc | apply pw_below_drewN | apply below_drew1 | refine below_set ?_ GE201.out | refine below_set ?_ GE202.out | refine below_set ?_ GE203.out) | exact HB.out)) hb); clear BK201; clear BK202; clear BK203; clear HB; have BK201 := n0_; have BK202 := n1_; have BK203 := n2_; have HB := n3_; clear n0_ n1_ n2_ n3_; (try clear hb); (try clear hb2); (try clear hk); (try clear hi)))
      go_meet
      case rel => exact ⟨_, (!t205), (by first | rfl | (simp; done) | (simp [*]; done)), H', ⟨by first | omega | exact Nat.le_refl _⟩, ⟨by (with_reducible repeat (first | refine blk_drewN ?_ _ | refine blk_drew ?_ | refine blk_alloc ?_ _)); exact BK201.out⟩, ⟨by (with_reducible repeat (first | refine blk_drewN ?_ _ | refine blk_drew ?_ | refine blk_alloc ?_ _)); exact BK202.out⟩, ⟨by (with_reducible repeat (first | refine blk_drewN ?_ _ | refine blk_drew ?_ | refine blk_alloc ?_ _)); exact BK203.out⟩, ⟨by repeat (first | (with_reducible first | exact HB.out | apply below_alloc | apply pw_below_drewN | apply below_drew1 | refine below_set ?_ GE201.out | refine below_set ?_ GE202.out | refine below_set ?_ GE203.out) | exact HB.out)⟩⟩
    · replace c9 := Bool.eq_false_iff.mpr c9
      subst c9
      have H1 : (spinetref12_Two.j0 k a0 true a1_0 a1_1 a1_2 a2_0 a2_1 a2_2) = some (r1, r2, r3, r4) := by rw [if_neg (show ¬ (false = true) by decide)] at H; exact H
      clear H
      have H := H1
      clear H1
      have H' := Aside0.mk H
      clear H
      have hnb18 := NB201_202.out
      have hnc18 := NB202_201.out
      have hnb19 := NB201_203.out
      have hnc19 := NB203_201.out
      have hcz20_0 : w7.cell? ⟨gb201, 0, none⟩ = some (.int .i64 a1_0) := (blk_cell BK201.out 0).trans rfl
      have hcz20_1 : w7.cell? ⟨gb201, 1, none⟩ = some (.int .i64 a1_1) := (blk_cell BK201.out 1).trans rfl
      have hcz20_2 : w7.cell? ⟨gb201, 2, none⟩ = some (.string a1_2) := (blk_cell BK201.out 2).trans rfl
      have hfz20_0 := blk_frozen BK201.out 0
      have hfz20_1 := blk_frozen BK201.out 1
      have hfz20_2 := blk_frozen BK201.out 2
      go_wp2_with (first | ((with_reducible refine gate_callee (f := 21) rfl ?_); refine goesL_ (some 14) rfl rfl Try.func21 (by kernel_rfl) rfl #[.agg #[.int .i64 a1_0, .int .i64 a1_1, .string a1_2]] rfl (by (try simp only [List.map_toArray, List.map_cons, List.map_nil]); first | done | rfl | (simp only [List.length_drop, List.length_take]; rfl)) ?_; (with_reducible refine (spinetref12_Good.calls k a1_0 a1_1 a1_2 false _ A8.out).mono ?_); rintro e w21 ⟨rfl, hb⟩; refine ⟨_, rfl, ?_⟩; have n0_ := Aside0.mk (blk_below (g := gb201) (o := .cells #[.int .i64 a1_0, .int .i64 a1_1, .string a1_2] 23 (0, 0)) (by (with_reducible repeat (first | refine blk_drewN ?_ _ | refine blk_drew ?_ | refine blk_alloc ?_ _)); exact BK201.out) hb); have n1_ := Aside0.mk (blk_below (g := gb202) (o := .cells #[.int .i64 a2_0, .int .i64 a2_1, .string a2_2] 23 (0, 0)) (by (with_reducible repeat (first | refine blk_drewN ?_ _ | refine blk_drew ?_ | refine blk_alloc ?_ _)); exact BK202.out) hb); have n2_ := Aside0.mk (blk_below (g := gb203) (o := .cells #[.int .i64 0, .int .i64 0, .string (⟨#[]⟩ : ByteArray)] 23 (0, 0)) (by (with_reducible repeat (first | refine blk_drewN ?_ _ | refine blk_drew ?_ | refine blk_alloc ?_ _)); exact BK203.out) hb); have n3_ := Aside0.mk (below_step (by repeat (first | (with_reducible first | exact HB.out | apply below_alloc | apply pw_below_drewN | apply below_drew1 | refine below_set ?_ GE201.out | refine below_set ?_ GE202.out | refine below_set ?_ GE203.out) | exact HB.out)) hb); clear BK201; clear BK202; clear BK203; clear HB; have BK201 := n0_; have BK202 := n1_; have BK203 := n2_; have HB := n3_; clear n0_ n1_ n2_ n3_; (try clear hb); (try clear hb2); (try clear hk); (try clear hi)))
      go_meet
      case rel => exact ⟨_, (true), (by first | rfl | (simp; done) | (simp [*]; done)), H', ⟨by first | omega | exact Nat.le_refl _⟩, ⟨by (with_reducible repeat (first | refine blk_drewN ?_ _ | refine blk_drew ?_ | refine blk_alloc ?_ _)); exact BK201.out⟩, ⟨by (with_reducible repeat (first | refine blk_drewN ?_ _ | refine blk_drew ?_ | refine blk_alloc ?_ _)); exact BK202.out⟩, ⟨by (with_reducible repeat (first | refine blk_drewN ?_ _ | refine blk_drew ?_ | refine blk_alloc ?_ _)); exact BK203.out⟩, ⟨by repeat (first | (with_reducible first | exact HB.out | apply below_alloc | apply pw_below_drewN | apply below_drew1 | refine below_set ?_ GE201.out | refine below_set ?_ GE202.out | refine below_set ?_ GE203.out) | exact HB.out)⟩⟩
  case rest => as_aux_lemma =>
    clear HC4
    try clear c1
    try clear c2
    try clear p2
    try clear c9
    try clear c11
    try clear c12
    try clear c13
    try clear c15
    try clear c18
    try clear c19
    try clear c21
    try clear hcz13_0
    try clear hcz13_1
    try clear hcz13_2
    try clear hcz16_0
    try clear hcz16_1
    try clear hcz16_2
    try clear hcz20_0
    try clear hcz20_1
    try clear hcz20_2
    try clear hfz13_0
    try clear hfz13_1
    try clear hfz13_2
    try clear hfz16_0
    try clear hfz16_1
    try clear hfz16_2
    try clear hfz20_0
    try clear hfz20_1
    try clear hfz20_2
    obtain ⟨kq, x20_3, rfl, HA, HJ3, BK201, BK202, BK203, HB⟩ := hcut
    cases kq with
    | zero => exact absurd HA.out (by simp [spinetref12_Two.j0])
    | succ kj3 =>
      have H := HA.out
      clear HA
      simp only [spinetref12_Two.j0] at H
      by_cases c22 : x20_3 = true
      · subst c22
        have H1 : ((spinetref12_none.f).bind fun bt206 => (some (bt206.1, bt206.2.1, bt206.2.2.1, bt206.2.2.2))) = some (r1, r2, r3, r4) := by rw [if_pos rfl] at H; exact H
        clear H
        have H := H1
        clear H1
        replace H := Option.bind_eq_some_iff.mp H
        obtain ⟨⟨t206, t207, t208, t209⟩, A230, H⟩ := H
        replace H : (some (t206, t207, t208, t209)) = some (r1, r2, r3, r4) := H
        have A23 := Aside0.mk A230
        clear A230
        simp only [Option.some.injEq, Prod.mk.injEq] at H
        obtain ⟨rfl, rfl, rfl, rfl⟩ := H
        go_wp2_with (first | ((with_reducible refine gate_callee (f := 33) rfl ?_); refine goesL_ (some 21) rfl rfl Try.func33 (by kernel_rfl) rfl #[] rfl (by (try simp only [List.map_toArray, List.map_cons, List.map_nil]); first | done | rfl | (simp only [List.length_drop, List.length_take]; rfl)) ?_; (with_reducible refine (spinetref12_none.calls  t206 t207 t208 t209 _ A23.out).mono ?_); rintro e w24 ⟨rfl, hb⟩; refine ⟨_, rfl, ?_⟩; have n0_ := Aside0.mk (blk_below (g := gb201) (o := .cells #[.int .i64 a1_0, .int .i64 a1_1, .string a1_2] 23 (0, 0)) (by (with_reducible repeat (first | refine blk_drewN ?_ _ | refine blk_drew ?_ | refine blk_alloc ?_ _)); exact BK201.out) hb); have n1_ := Aside0.mk (blk_below (g := gb202) (o := .cells #[.int .i64 a2_0, .int .i64 a2_1, .string a2_2] 23 (0, 0)) (by (with_reducible repeat (first | refine blk_drewN ?_ _ | refine blk_drew ?_ | refine blk_alloc ?_ _)); exact BK202.out) hb); have n2_ := Aside0.mk (blk_below (g := gb203) (o := .cells #[.int .i64 0, .int .i64 0, .string (⟨#[]⟩ : ByteArray)] 23 (0, 0)) (by (with_reducible repeat (first | refine blk_drewN ?_ _ | refine blk_drew ?_ | refine blk_alloc ?_ _)); exact BK203.out) hb); have n3_ := Aside0.mk (below_step (by repeat (first | (with_reducible first | exact HB.out | apply below_alloc | apply pw_below_drewN | apply below_drew1 | refine below_set ?_ GE201.out | refine below_set ?_ GE202.out | refine below_set ?_ GE203.out) | exact HB.out)) hb); clear BK201; clear BK202; clear BK203; clear HB; have BK201 := n0_; have BK202 := n1_; have BK203 := n2_; have HB := n3_; clear n0_ n1_ n2_ n3_; (try clear hb); (try clear hb2); (try clear hk); (try clear hi); have hnb25 := NB203_201.out; have hnc25 := NB201_203.out; have hnb26 := NB203_202.out; have hnc26 := NB202_203.out; have hcz27_0 : w24.cell? ⟨gb203, 0, none⟩ = some (.int .i64 0) := (blk_cell BK203.out 0).trans rfl; have hcz27_1 : w24.cell? ⟨gb203, 1, none⟩ = some (.int .i64 0) := (blk_cell BK203.out 1).trans rfl; have hcz27_2 : w24.cell? ⟨gb203, 2, none⟩ = some (.string (⟨#[]⟩ : ByteArray)) := (blk_cell BK203.out 2).trans rfl; have hfz27_0 := blk_frozen BK203.out 0; have hfz27_1 := blk_frozen BK203.out 1; have hfz27_2 := blk_frozen BK203.out 2))
        refine bodyPost_ret (results_ct rfl _ _ gb203 23 #[.int .i64 t206, .int .i64 t207, .string t208] (0, 0) _ rfl (by (with_reducible repeat (first | refine blk_drewN ?_ _ | refine blk_drew ?_ | refine blk_alloc ?_ _)); refine blk_put (cs := #[.int .i64 t206, .int .i64 t207, .string (⟨#[]⟩ : ByteArray)]) ?_ 2 _ rfl; (with_reducible repeat (first | refine blk_drewN ?_ _ | refine blk_drew ?_ | refine blk_alloc ?_ _)); refine blk_put (cs := #[.int .i64 t206, .int .i64 0, .string (⟨#[]⟩ : ByteArray)]) ?_ 1 _ rfl; (with_reducible repeat (first | refine blk_drewN ?_ _ | refine blk_drew ?_ | refine blk_alloc ?_ _)); refine blk_put (cs := #[.int .i64 0, .int .i64 0, .string (⟨#[]⟩ : ByteArray)]) ?_ 0 _ rfl; (with_reducible repeat (first | refine blk_drewN ?_ _ | refine blk_drew ?_ | refine blk_alloc ?_ _)); exact BK203.out) Try.underlying23 rfl (by kernel_rfl)) rfl ?_
        exact ⟨by first | rfl | (simp [errW_none, errW_some] <;> rfl) | (simp [*, errW_none, errW_some] <;> rfl), by repeat (first | (with_reducible first | exact HB.out | apply below_alloc | apply pw_below_drewN | apply below_drew1 | refine below_set ?_ GE201.out | refine below_set ?_ GE202.out | refine below_set ?_ GE203.out) | exact HB.out)⟩
      · replace c22 := Bool.eq_false_iff.mpr c22
        subst c22
        have H1 : (if a1_0 = 3 then ((spinetref12_Char.f a2_0 a2_1 a2_2).bind fun bt210 => (spinetref12_Two.j1 kj3 a0 a1_0 a1_1 a1_2 bt210.1 bt210.2.1 bt210.2.2)) else (spinetref12_Two.j1 kj3 a0 a1_0 a1_1 a1_2 a2_0 a2_1 a2_2)) = some (r1, r2, r3, r4) := by rw [if_neg (show ¬ (false = true) by decide)] at H; exact H
        clear H
        have H := H1
        clear H1
        have HC28 := Aside0.mk H
        clear H
        have hnb29 := NB201_202.out
        have hnc29 := NB202_201.out
        have hnb30 := NB201_203.out
        have hnc30 := NB203_201.out
        have hcz31_0 : wc.cell? ⟨gb201, 0, none⟩ = some (.int .i64 a1_0) := (blk_cell BK201.out 0).trans rfl
        have hcz31_1 : wc.cell? ⟨gb201, 1, none⟩ = some (.int .i64 a1_1) := (blk_cell BK201.out 1).trans rfl
        have hcz31_2 : wc.cell? ⟨gb201, 2, none⟩ = some (.string a1_2) := (blk_cell BK201.out 2).trans rfl
        have hfz31_0 := blk_frozen BK201.out 0
        have hfz31_1 := blk_frozen BK201.out 1
        have hfz31_2 := blk_frozen BK201.out 2
        go_upto_if 26 with (fail)
        go_cut [] (fun wc => ∃ (kq : Nat) (x203000_27 : Int) (x203001_27 : Int) (x203002_27 : ByteArray), Aside0 (spinetref12_Two.j1 kq a0 a1_0 a1_1 a1_2 x203000_27 x203001_27 x203002_27 = some (r1, r2, r3, r4)) ∧ Aside0 (kq ≤ kj3) ∧ Aside0 (wc.heap[gb201]? = some (.cells #[.int .i64 a1_0, .int .i64 a1_1, .string a1_2] 23 (0, 0))) ∧ Aside0 (wc.heap[gb202]? = some (.cells #[.int .i64 x203000_27, .int .i64 x203001_27, .string x203002_27] 23 (0, 0))) ∧ Aside0 (wc.heap[gb203]? = some (.cells #[.int .i64 0, .int .i64 0, .string (⟨#[]⟩ : ByteArray)] 23 (0, 0))) ∧ Aside0 (Below w.heap.size w wc))
        case first => as_aux_lemma =>
          have H := HC28.out
          clear HC28
          by_cases c32 : a1_0 = 3
          · rw [if_pos c32] at H
            have c32b0 : (a1_0 == 3) = true := beq_iff_eq.mpr c32
            have c32b1 : (a1_0 != 3) = false := bne_eq_false_iff_eq.mpr c32
            clear c32
            (first | rw [c32b0] | (simp only [i64_w, i32_w]; rw [c32b0]) | skip)
            replace H := Option.bind_eq_some_iff.mp H
            obtain ⟨⟨t210, t211, t212⟩, A330, H⟩ := H
            replace H : (spinetref12_Two.j1 kj3 a0 a1_0 a1_1 a1_2 t210 t211 t212) = some (r1, r2, r3, r4) := H
            have A33 := Aside0.mk A330
            clear A330
            have H' := Aside0.mk H
            clear H
            have hnb34 := NB202_201.out
            have hnc34 := NB201_202.out
            have hnb35 := NB202_203.out
            have hnc35 := NB203_202.out
            have hcz36_0 : wc.cell? ⟨gb202, 0, none⟩ = some (.int .i64 a2_0) := (blk_cell BK202.out 0).trans rfl
            have hcz36_1 : wc.cell? ⟨gb202, 1, none⟩ = some (.int .i64 a2_1) := (blk_cell BK202.out 1).trans rfl
            have hcz36_2 : wc.cell? ⟨gb202, 2, none⟩ = some (.string a2_2) := (blk_cell BK202.out 2).trans rfl
            have hfz36_0 := blk_frozen BK202.out 0
            have hfz36_1 := blk_frozen BK202.out 1
            have hfz36_2 := blk_frozen BK202.out 2
            go_wp2_with (first | ((with_reducible refine gate_callee (f := 34) rfl ?_); refine goesL_ (some 28) rfl rfl Try.func34 (by kernel_rfl) rfl #[.agg #[.int .i64 a2_0, .int .i64 a2_1, .string a2_2]] rfl (by (try simp only [List.map_toArray, List.map_cons, List.map_nil]); first | done | rfl | (simp only [List.length_drop, List.length_take]; rfl)) ?_; (with_reducible refine (spinetref12_Char.calls a2_0 a2_1 a2_2 t210 t211 t212 _ A33.out).mono ?_); rintro e w37 ⟨rfl, hb⟩; refine ⟨_, rfl, ?_⟩; have n0_ := Aside0.mk (blk_below (g := gb201) (o := .cells #[.int .i64 a1_0, .int .i64 a1_1, .string a1_2] 23 (0, 0)) (by (with_reducible repeat (first | refine blk_drewN ?_ _ | refine blk_drew ?_ | refine blk_alloc ?_ _)); exact BK201.out) hb); have n1_ := Aside0.mk (blk_below (g := gb202) (o := .cells #[.int .i64 a2_0, .int .i64 a2_1, .string a2_2] 23 (0, 0)) (by (with_reducible repeat (first | refine blk_drewN ?_ _ | refine blk_drew ?_ | refine blk_alloc ?_ _)); exact BK202.out) hb); have n2_ := Aside0.mk (blk_below (g := gb203) (o := .cells #[.int .i64 0, .int .i64 0, .string (⟨#[]⟩ : ByteArray)] 23 (0, 0)) (by (with_reducible repeat (first | refine blk_drewN ?_ _ | refine blk_drew ?_ | refine blk_alloc ?_ _)); exact BK203.out) hb); have n3_ := Aside0.mk (below_step (by repeat (first | (with_reducible first | exact HB.out | apply below_alloc | apply pw_below_drewN | apply below_drew1 | refine below_set ?_ GE201.out | refine below_set ?_ GE202.out | refine below_set ?_ GE203.out) | exact HB.out)) hb); clear BK201; clear BK202; clear BK203; clear HB; have BK201 := n0_; have BK202 := n1_; have BK203 := n2_; have HB := n3_; clear n0_ n1_ n2_ n3_; (try clear hb); (try clear hb2); (try clear hk); (try clear hi); have hcz38_0 : w37.cell? ⟨gb202, 0, none⟩ = some (.int .i64 a2_0) := (blk_cell BK202.out 0).trans rfl; have hcz38_1 : w37.cell? ⟨gb202, 1, none⟩ = some (.int .i64 a2_1) := (blk_cell BK202.out 1).trans rfl; have hcz38_2 : w37.cell? ⟨gb202, 2, none⟩ = some (.string a2_2) := (blk_cell BK202.out 2).trans rfl; have hfz38_0 := blk_frozen BK202.out 0; have hfz38_1 := blk_frozen BK202.out 1; have hfz38_2 := blk_frozen BK202.out 2))
            go_meet
            case rel => exact ⟨_, (t210), (t211), (t212), H', ⟨by have := HJ3.out; first | omega | exact Nat.le_refl _⟩, ⟨by (with_reducible repeat (first | refine blk_drewN ?_ _ | refine blk_drew ?_ | refine blk_alloc ?_ _)); refine blk_far ?_ NB201_202.out _; (with_reducible repeat (first | refine blk_drewN ?_ _ | refine blk_drew ?_ | refine blk_alloc ?_ _)); refine blk_far ?_ NB201_202.out _; (with_reducible repeat (first | refine blk_drewN ?_ _ | refine blk_drew ?_ | refine blk_alloc ?_ _)); refine blk_far ?_ NB201_202.out _; (with_reducible repeat (first | refine blk_drewN ?_ _ | refine blk_drew ?_ | refine blk_alloc ?_ _)); exact BK201.out⟩, ⟨by (with_reducible repeat (first | refine blk_drewN ?_ _ | refine blk_drew ?_ | refine blk_alloc ?_ _)); refine blk_put (cs := #[.int .i64 t210, .int .i64 t211, .string a2_2]) ?_ 2 _ rfl; (with_reducible repeat (first | refine blk_drewN ?_ _ | refine blk_drew ?_ | refine blk_alloc ?_ _)); refine blk_put (cs := #[.int .i64 t210, .int .i64 a2_1, .string a2_2]) ?_ 1 _ rfl; (with_reducible repeat (first | refine blk_drewN ?_ _ | refine blk_drew ?_ | refine blk_alloc ?_ _)); refine blk_put (cs := #[.int .i64 a2_0, .int .i64 a2_1, .string a2_2]) ?_ 0 _ rfl; (with_reducible repeat (first | refine blk_drewN ?_ _ | refine blk_drew ?_ | refine blk_alloc ?_ _)); exact BK202.out⟩, ⟨by (with_reducible repeat (first | refine blk_drewN ?_ _ | refine blk_drew ?_ | refine blk_alloc ?_ _)); refine blk_far ?_ NB203_202.out _; (with_reducible repeat (first | refine blk_drewN ?_ _ | refine blk_drew ?_ | refine blk_alloc ?_ _)); refine blk_far ?_ NB203_202.out _; (with_reducible repeat (first | refine blk_drewN ?_ _ | refine blk_drew ?_ | refine blk_alloc ?_ _)); refine blk_far ?_ NB203_202.out _; (with_reducible repeat (first | refine blk_drewN ?_ _ | refine blk_drew ?_ | refine blk_alloc ?_ _)); exact BK203.out⟩, ⟨by repeat (first | (with_reducible first | exact HB.out | apply below_alloc | apply pw_below_drewN | apply below_drew1 | refine below_set ?_ GE201.out | refine below_set ?_ GE202.out | refine below_set ?_ GE203.out) | exact HB.out)⟩⟩
          · rw [if_neg c32] at H
            have c32b0 : (a1_0 == 3) = false := beq_eq_false_iff_ne.mpr c32
            have c32b1 : (a1_0 != 3) = true := bne_iff_ne.mpr c32
            (first | rw [c32b0] | (simp only [i64_w, i32_w]; rw [c32b0]) | skip)
            have H' := Aside0.mk H
            clear H
            go_wp2
            go_meet
            case rel => exact ⟨_, (a2_0), (a2_1), (a2_2), H', ⟨by have := HJ3.out; first | omega | exact Nat.le_refl _⟩, ⟨by (with_reducible repeat (first | refine blk_drewN ?_ _ | refine blk_drew ?_ | refine blk_alloc ?_ _)); exact BK201.out⟩, ⟨by (with_reducible repeat (first | refine blk_drewN ?_ _ | refine blk_drew ?_ | refine blk_alloc ?_ _)); exact BK202.out⟩, ⟨by (with_reducible repeat (first | refine blk_drewN ?_ _ | refine blk_drew ?_ | refine blk_alloc ?_ _)); exact BK203.out⟩, ⟨by repeat (first | (with_reducible first | exact HB.out | apply below_alloc | apply pw_below_drewN | apply below_drew1 | refine below_set ?_ GE201.out | refine below_set ?_ GE202.out | refine below_set ?_ GE203.out) | exact HB.out)⟩⟩
        case rest => as_aux_lemma =>
          clear HC28
          try clear c1
          try clear c2
          try clear p2
          try clear c3
          try clear c9
          try clear c11
          try clear c12
          try clear c13
          try clear c15
          try clear c18
          try clear c19
          try clear c21
          try clear c22
          try clear c25
          try clear c26
          try clear c29
          try clear c30
          try clear c32
          try clear c32b0
          try clear c32b1
          try clear c33
          try clear c34
          try clear c35
          try clear hcz13_0
          try clear hcz13_1
          try clear hcz13_2
          try clear hcz16_0
          try clear hcz16_1
          try clear hcz16_2
          try clear hcz20_0
          try clear hcz20_1
          try clear hcz20_2
          try clear hcz27_0
          try clear hcz27_1
          try clear hcz27_2
          try clear hcz31_0
          try clear hcz31_1
          try clear hcz31_2
          try clear hcz36_0
          try clear hcz36_1
          try clear hcz36_2
          try clear hcz38_0
          try clear hcz38_1
          try clear hcz38_2
          try clear hfz13_0
          try clear hfz13_1
          try clear hfz13_2
          try clear hfz16_0
          try clear hfz16_1
          try clear hfz16_2
          try clear hfz20_0
          try clear hfz20_1
          try clear hfz20_2
          try clear hfz27_0
          try clear hfz27_1
          try clear hfz27_2
          try clear hfz31_0
          try clear hfz31_1
          try clear hfz31_2
          try clear hfz36_0
          try clear hfz36_1
          try clear hfz36_2
          try clear hfz38_0
          try clear hfz38_1
          try clear hfz38_2
          try clear p2
          obtain ⟨kq, x203000_27, x203001_27, x203002_27, HA, HJ27, BK201, BK202, BK203, HB⟩ := hcut
          cases kq with
          | zero => exact absurd HA.out (by simp [spinetref12_Two.j1])
          | succ kj27 =>
            have H := HA.out
            clear HA
            simp only [spinetref12_Two.j1] at H
            have HC39 := Aside0.mk H
            clear H
            have hnb40 := NB202_201.out
            have hnc40 := NB201_202.out
            have hnb41 := NB202_203.out
            have hnc41 := NB203_202.out
            have hcz42_0 : wc.cell? ⟨gb202, 0, none⟩ = some (.int .i64 x203000_27) := (blk_cell BK202.out 0).trans rfl
            have hcz42_1 : wc.cell? ⟨gb202, 1, none⟩ = some (.int .i64 x203001_27) := (blk_cell BK202.out 1).trans rfl
            have hcz42_2 : wc.cell? ⟨gb202, 2, none⟩ = some (.string x203002_27) := (blk_cell BK202.out 2).trans rfl
            have hfz42_0 := blk_frozen BK202.out 0
            have hfz42_1 := blk_frozen BK202.out 1
            have hfz42_2 := blk_frozen BK202.out 2
            go_upto_if 31 with (fail)
            go_cut [] (fun wc => ∃ (kq : Nat) (x202000_38 : Int) (x202001_38 : Int) (x202002_38 : ByteArray), Aside0 (spinetref12_Two.j2 kq a0 x202000_38 x202001_38 x202002_38 x203000_27 x203001_27 x203002_27 = some (r1, r2, r3, r4)) ∧ Aside0 (kq ≤ kj27) ∧ Aside0 (wc.heap[gb201]? = some (.cells #[.int .i64 x202000_38, .int .i64 x202001_38, .string x202002_38] 23 (0, 0))) ∧ Aside0 (wc.heap[gb202]? = some (.cells #[.int .i64 x203000_27, .int .i64 x203001_27, .string x203002_27] 23 (0, 0))) ∧ Aside0 (wc.heap[gb203]? = some (.cells #[.int .i64 0, .int .i64 0, .string (⟨#[]⟩ : ByteArray)] 23 (0, 0))) ∧ Aside0 (Below w.heap.size w wc))
            case first => as_aux_lemma =>
              have H := HC39.out
              clear HC39
              by_cases c43 : x203000_27 = 3
              · rw [if_pos c43] at H
                have c43b0 : (x203000_27 == 3) = true := beq_iff_eq.mpr c43
                have c43b1 : (x203000_27 != 3) = false := bne_eq_false_iff_eq.mpr c43
                clear c43
                (first | rw [c43b0] | (simp only [i64_w, i32_w]; rw [c43b0]) | skip)
                replace H := Option.bind_eq_some_iff.mp H
                obtain ⟨⟨t213, t214, t215⟩, A440, H⟩ := H
                replace H : (spinetref12_Two.j2 kj27 a0 t213 t214 t215 x203000_27 x203001_27 x203002_27) = some (r1, r2, r3, r4) := H
                have A44 := Aside0.mk A440
                clear A440
                have H' := Aside0.mk H
                clear H
                have hnb45 := NB201_202.out
                have hnc45 := NB202_201.out
                have hnb46 := NB201_203.out
                have hnc46 := NB203_201.out
                have hcz47_0 : wc.cell? ⟨gb201, 0, none⟩ = some (.int .i64 a1_0) := (blk_cell BK201.out 0).trans rfl
                have hcz47_1 : wc.cell? ⟨gb201, 1, none⟩ = some (.int .i64 a1_1) := (blk_cell BK201.out 1).trans rfl
                have hcz47_2 : wc.cell? ⟨gb201, 2, none⟩ = some (.string a1_2) := (blk_cell BK201.out 2).trans rfl
                have hfz47_0 := blk_frozen BK201.out 0
                have hfz47_1 := blk_frozen BK201.out 1
                have hfz47_2 := blk_frozen BK201.out 2
                go_wp2_with (first | ((with_reducible refine gate_callee (f := 34) rfl ?_); refine goesL_ (some 33) rfl rfl Try.func34 (by kernel_rfl) rfl #[.agg #[.int .i64 a1_0, .int .i64 a1_1, .string a1_2]] rfl (by (try simp only [List.map_toArray, List.map_cons, List.map_nil]); first | done | rfl | (simp only [List.length_drop, List.length_take]; rfl)) ?_; (with_reducible refine (spinetref12_Char.calls a1_0 a1_1 a1_2 t213 t214 t215 _ A44.out).mono ?_); rintro e w48 ⟨rfl, hb⟩; refine ⟨_, rfl, ?_⟩; have n0_ := Aside0.mk (blk_below (g := gb201) (o := .cells #[.int .i64 a1_0, .int .i64 a1_1, .string a1_2] 23 (0, 0)) (by (with_reducible repeat (first | refine blk_drewN ?_ _ | refine blk_drew ?_ | refine blk_alloc ?_ _)); exact BK201.out) hb); have n1_ := Aside0.mk (blk_below (g := gb202) (o := .cells #[.int .i64 x203000_27, .int .i64 x203001_27, .string x203002_27] 23 (0, 0)) (by (with_reducible repeat (first | refine blk_drewN ?_ _ | refine blk_drew ?_ | refine blk_alloc ?_ _)); exact BK202.out) hb); have n2_ := Aside0.mk (blk_below (g := gb203) (o := .cells #[.int .i64 0, .int .i64 0, .string (⟨#[]⟩ : ByteArray)] 23 (0, 0)) (by (with_reducible repeat (first | refine blk_drewN ?_ _ | refine blk_drew ?_ | refine blk_alloc ?_ _)); exact BK203.out) hb); have n3_ := Aside0.mk (below_step (by repeat (first | (with_reducible first | exact HB.out | apply below_alloc | apply pw_below_drewN | apply below_drew1 | refine below_set ?_ GE201.out | refine below_set ?_ GE202.out | refine below_set ?_ GE203.out) | exact HB.out)) hb); clear BK201; clear BK202; clear BK203; clear HB; have BK201 := n0_; have BK202 := n1_; have BK203 := n2_; have HB := n3_; clear n0_ n1_ n2_ n3_; (try clear hb); (try clear hb2); (try clear hk); (try clear hi); have hcz49_0 : w48.cell? ⟨gb201, 0, none⟩ = some (.int .i64 a1_0) := (blk_cell BK201.out 0).trans rfl; have hcz49_1 : w48.cell? ⟨gb201, 1, none⟩ = some (.int .i64 a1_1) := (blk_cell BK201.out 1).trans rfl; have hcz49_2 : w48.cell? ⟨gb201, 2, none⟩ = some (.string a1_2) := (blk_cell BK201.out 2).trans rfl; have hfz49_0 := blk_frozen BK201.out 0; have hfz49_1 := blk_frozen BK201.out 1; have hfz49_2 := blk_frozen BK201.out 2))
                go_meet
                case rel => exact ⟨_, (t213), (t214), (t215), H', ⟨by have := HJ3.out; have := HJ27.out; first | omega | exact Nat.le_refl _⟩, ⟨by (with_reducible repeat (first | refine blk_drewN ?_ _ | refine blk_drew ?_ | refine blk_alloc ?_ _)); refine blk_put (cs := #[.int .i64 t213, .int .i64 t214, .string a1_2]) ?_ 2 _ rfl; (with_reducible repeat (first | refine blk_drewN ?_ _ | refine blk_drew ?_ | refine blk_alloc ?_ _)); refine blk_put (cs := #[.int .i64 t213, .int .i64 a1_1, .string a1_2]) ?_ 1 _ rfl; (with_reducible repeat (first | refine blk_drewN ?_ _ | refine blk_drew ?_ | refine blk_alloc ?_ _)); refine blk_put (cs := #[.int .i64 a1_0, .int .i64 a1_1, .string a1_2]) ?_ 0 _ rfl; (with_reducible repeat (first | refine blk_drewN ?_ _ | refine blk_drew ?_ | refine blk_alloc ?_ _)); exact BK201.out⟩, ⟨by (with_reducible repeat (first | refine blk_drewN ?_ _ | refine blk_drew ?_ | refine blk_alloc ?_ _)); refine blk_far ?_ NB202_201.out _; (with_reducible repeat (first | refine blk_drewN ?_ _ | refine blk_drew ?_ | refine blk_alloc ?_ _)); refine blk_far ?_ NB202_201.out _; (with_reducible repeat (first | refine blk_drewN ?_ _ | refine blk_drew ?_ | refine blk_alloc ?_ _)); refine blk_far ?_ NB202_201.out _; (with_reducible repeat (first | refine blk_drewN ?_ _ | refine blk_drew ?_ | refine blk_alloc ?_ _)); exact BK202.out⟩, ⟨by (with_reducible repeat (first | refine blk_drewN ?_ _ | refine blk_drew ?_ | refine blk_alloc ?_ _)); refine blk_far ?_ NB203_201.out _; (with_reducible repeat (first | refine blk_drewN ?_ _ | refine blk_drew ?_ | refine blk_alloc ?_ _)); refine blk_far ?_ NB203_201.out _; (with_reducible repeat (first | refine blk_drewN ?_ _ | refine blk_drew ?_ | refine blk_alloc ?_ _)); refine blk_far ?_ NB203_201.out _; (with_reducible repeat (first | refine blk_drewN ?_ _ | refine blk_drew ?_ | refine blk_alloc ?_ _)); exact BK203.out⟩, ⟨by repeat (first | (with_reducible first | exact HB.out | apply below_alloc | apply pw_below_drewN | apply below_drew1 | refine below_set ?_ GE201.out | refine below_set ?_ GE202.out | refine below_set ?_ GE203.out) | exact HB.out)⟩⟩
              · rw [if_neg c43] at H
                have c43b0 : (x203000_27 == 3) = false := beq_eq_false_iff_ne.mpr c43
                have c43b1 : (x203000_27 != 3) = true := bne_iff_ne.mpr c43
                (first | rw [c43b0] | (simp only [i64_w, i32_w]; rw [c43b0]) | skip)
                have H' := Aside0.mk H
                clear H
                go_wp2
                go_meet
                case rel => exact ⟨_, (a1_0), (a1_1), (a1_2), H', ⟨by have := HJ3.out; have := HJ27.out; first | omega | exact Nat.le_refl _⟩, ⟨by (with_reducible repeat (first | refine blk_drewN ?_ _ | refine blk_drew ?_ | refine blk_alloc ?_ _)); exact BK201.out⟩, ⟨by (with_reducible repeat (first | refine blk_drewN ?_ _ | refine blk_drew ?_ | refine blk_alloc ?_ _)); exact BK202.out⟩, ⟨by (with_reducible repeat (first | refine blk_drewN ?_ _ | refine blk_drew ?_ | refine blk_alloc ?_ _)); exact BK203.out⟩, ⟨by repeat (first | (with_reducible first | exact HB.out | apply below_alloc | apply pw_below_drewN | apply below_drew1 | refine below_set ?_ GE201.out | refine below_set ?_ GE202.out | refine below_set ?_ GE203.out) | exact HB.out)⟩⟩
            case rest => as_aux_lemma =>
              clear HC39
              try clear c1
              try clear c2
              try clear p2
              try clear c3
              try clear c4
              try clear c9
              try clear c11
              try clear c12
              try clear c13
              try clear c15
              try clear c18
              try clear c19
              try clear c21
              try clear c22
              try clear c25
              try clear c26
              try clear c29
              try clear c30
              try clear c32
              try clear c32b0
              try clear c32b1
              try clear c33
              try clear c34
              try clear c35
              try clear c40
              try clear c41
              try clear c43
              try clear c43b0
              try clear c43b1
              try clear c45
              try clear c46
              try clear hcz13_0
              try clear hcz13_1
              try clear hcz13_2
              try clear hcz16_0
              try clear hcz16_1
              try clear hcz16_2
              try clear hcz20_0
              try clear hcz20_1
              try clear hcz20_2
              try clear hcz27_0
              try clear hcz27_1
              try clear hcz27_2
              try clear hcz31_0
              try clear hcz31_1
              try clear hcz31_2
              try clear hcz36_0
              try clear hcz36_1
              try clear hcz36_2
              try clear hcz38_0
              try clear hcz38_1
              try clear hcz38_2
              try clear hcz42_0
              try clear hcz42_1
              try clear hcz42_2
              try clear hcz47_0
              try clear hcz47_1
              try clear hcz47_2
              try clear hcz49_0
              try clear hcz49_1
              try clear hcz49_2
              try clear hfz13_0
              try clear hfz13_1
              try clear hfz13_2
              try clear hfz16_0
              try clear hfz16_1
              try clear hfz16_2
              try clear hfz20_0
              try clear hfz20_1
              try clear hfz20_2
              try clear hfz27_0
              try clear hfz27_1
              try clear hfz27_2
              try clear hfz31_0
              try clear hfz31_1
              try clear hfz31_2
              try clear hfz36_0
              try clear hfz36_1
              try clear hfz36_2
              try clear hfz38_0
              try clear hfz38_1
              try clear hfz38_2
              try clear hfz42_0
              try clear hfz42_1
              try clear hfz42_2
              try clear hfz47_0
              try clear hfz47_1
              try clear hfz47_2
              try clear hfz49_0
              try clear hfz49_1
              try clear hfz49_2
              try clear p2
              obtain ⟨kq, x202000_38, x202001_38, x202002_38, HA, HJ38, BK201, BK202, BK203, HB⟩ := hcut
              cases kq with
              | zero => exact absurd HA.out (by simp [spinetref12_Two.j2])
              | succ kj38 =>
                have H := HA.out
                clear HA
                simp only [spinetref12_Two.j2] at H
                have HC50 := Aside0.mk H
                clear H
                go_upto_region 7 with (fail)
                go_cut [45] (fun v45 wc => ∃ (kq : Nat) (x45_49 : Bool), v45 = .bool x45_49 ∧ Aside0 (spinetref12_Two.j3 kq a0 x45_49 x202000_38 x202001_38 x202002_38 x203000_27 x203001_27 x203002_27 = some (r1, r2, r3, r4)) ∧ Aside0 (kq ≤ kj38) ∧ Aside0 (wc.heap[gb201]? = some (.cells #[.int .i64 x202000_38, .int .i64 x202001_38, .string x202002_38] 23 (0, 0))) ∧ Aside0 (wc.heap[gb202]? = some (.cells #[.int .i64 x203000_27, .int .i64 x203001_27, .string x203002_27] 23 (0, 0))) ∧ Aside0 (wc.heap[gb203]? = some (.cells #[.int .i64 0, .int .i64 0, .string (⟨#[]⟩ : ByteArray)] 23 (0, 0))) ∧ Aside0 (Below w.heap.size w wc))
                case first => as_aux_lemma =>
                  have H := HC50.out
                  clear HC50
                  by_cases c51 : a0.toList = ([73, 78] : List UInt8)
                  · rw [if_pos c51] at H
                    have c51b0 : (a0.toList == ([73, 78] : List UInt8)) = true := beq_iff_eq.mpr c51
                    have c51b1 : (a0.toList != ([73, 78] : List UInt8)) = false := bne_eq_false_iff_eq.mpr c51
                    clear c51
                    (first | rw [c51b0] | (simp only [i64_w, i32_w]; rw [c51b0]) | skip)
                    by_cases c52 : x202000_38 = 1
                    · rw [if_pos c52] at H
                      have c52b0 : (x202000_38 == 1) = true := beq_iff_eq.mpr c52
                      have c52b1 : (x202000_38 != 1) = false := bne_eq_false_iff_eq.mpr c52
                      clear c52
                      have H' := Aside0.mk H
                      clear H
                      have hnb53 := NB201_202.out
                      have hnc53 := NB202_201.out
                      have hnb54 := NB201_203.out
                      have hnc54 := NB203_201.out
                      have hcz55_0 : wc.cell? ⟨gb201, 0, none⟩ = some (.int .i64 x202000_38) := (blk_cell BK201.out 0).trans rfl
                      have hcz55_1 : wc.cell? ⟨gb201, 1, none⟩ = some (.int .i64 x202001_38) := (blk_cell BK201.out 1).trans rfl
                      have hcz55_2 : wc.cell? ⟨gb201, 2, none⟩ = some (.string x202002_38) := (blk_cell BK201.out 2).trans rfl
                      have hfz55_0 := blk_frozen BK201.out 0
                      have hfz55_1 := blk_frozen BK201.out 1
                      have hfz55_2 := blk_frozen BK201.out 2
                      have hnb56 := NB202_203.out
                      have hnc56 := NB203_202.out
                      have hcz57_0 : wc.cell? ⟨gb202, 0, none⟩ = some (.int .i64 x203000_27) := (blk_cell BK202.out 0).trans rfl
                      have hcz57_1 : wc.cell? ⟨gb202, 1, none⟩ = some (.int .i64 x203001_27) := (blk_cell BK202.out 1).trans rfl
                      have hcz57_2 : wc.cell? ⟨gb202, 2, none⟩ = some (.string x203002_27) := (blk_cell BK202.out 2).trans rfl
                      have hfz57_0 := blk_frozen BK202.out 0
                      have hfz57_1 := blk_frozen BK202.out 1
                      have hfz57_2 := blk_frozen BK202.out 2
                      go_wp2
                      go_meet
                      case rel => exact ⟨_, ((x203000_27 == 4)), (by first | rfl | (simp; done) | (simp [*]; done)), H', ⟨by have := HJ3.out; have := HJ27.out; have := HJ38.out; first | omega | exact Nat.le_refl _⟩, ⟨by (with_reducible repeat (first | refine blk_drewN ?_ _ | refine blk_drew ?_ | refine blk_alloc ?_ _)); exact BK201.out⟩, ⟨by (with_reducible repeat (first | refine blk_drewN ?_ _ | refine blk_drew ?_ | refine blk_alloc ?_ _)); exact BK202.out⟩, ⟨by (with_reducible repeat (first | refine blk_drewN ?_ _ | refine blk_drew ?_ | refine blk_alloc ?_ _)); exact BK203.out⟩, ⟨by repeat (first | (with_reducible first | exact HB.out | apply below_alloc | apply pw_below_drewN | apply below_drew1 | refine below_set ?_ GE201.out | refine below_set ?_ GE202.out | refine below_set ?_ GE203.out) | exact HB.out)⟩⟩
                    · rw [if_neg c52] at H
                      have c52b0 : (x202000_38 == 1) = false := beq_eq_false_iff_ne.mpr c52
                      have c52b1 : (x202000_38 != 1) = true := bne_iff_ne.mpr c52
                      have H' := Aside0.mk H
                      clear H
                      have hnb58 := NB201_202.out
                      have hnc58 := NB202_201.out
                      have hnb59 := NB201_203.out
                      have hnc59 := NB203_201.out
                      have hcz60_0 : wc.cell? ⟨gb201, 0, none⟩ = some (.int .i64 x202000_38) := (blk_cell BK201.out 0).trans rfl
                      have hcz60_1 : wc.cell? ⟨gb201, 1, none⟩ = some (.int .i64 x202001_38) := (blk_cell BK201.out 1).trans rfl
                      have hcz60_2 : wc.cell? ⟨gb201, 2, none⟩ = some (.string x202002_38) := (blk_cell BK201.out 2).trans rfl
                      have hfz60_0 := blk_frozen BK201.out 0
                      have hfz60_1 := blk_frozen BK201.out 1
                      have hfz60_2 := blk_frozen BK201.out 2
                      go_wp2
                      go_meet
                      case rel => exact ⟨_, (false), (by first | rfl | (simp; done) | (simp [*]; done)), H', ⟨by have := HJ3.out; have := HJ27.out; have := HJ38.out; first | omega | exact Nat.le_refl _⟩, ⟨by (with_reducible repeat (first | refine blk_drewN ?_ _ | refine blk_drew ?_ | refine blk_alloc ?_ _)); exact BK201.out⟩, ⟨by (with_reducible repeat (first | refine blk_drewN ?_ _ | refine blk_drew ?_ | refine blk_alloc ?_ _)); exact BK202.out⟩, ⟨by (with_reducible repeat (first | refine blk_drewN ?_ _ | refine blk_drew ?_ | refine blk_alloc ?_ _)); exact BK203.out⟩, ⟨by repeat (first | (with_reducible first | exact HB.out | apply below_alloc | apply pw_below_drewN | apply below_drew1 | refine below_set ?_ GE201.out | refine below_set ?_ GE202.out | refine below_set ?_ GE203.out) | exact HB.out)⟩⟩
                  · rw [if_neg c51] at H
                    have c51b0 : (a0.toList == ([73, 78] : List UInt8)) = false := beq_eq_false_iff_ne.mpr c51
                    have c51b1 : (a0.toList != ([73, 78] : List UInt8)) = true := bne_iff_ne.mpr c51
                    (first | rw [c51b0] | (simp only [i64_w, i32_w]; rw [c51b0]) | skip)
                    have H' := Aside0.mk H
                    clear H
                    go_wp2
                    go_meet
                    case rel => exact ⟨_, (false), (by first | rfl | (simp; done) | (simp [*]; done)), H', ⟨by have := HJ3.out; have := HJ27.out; have := HJ38.out; first | omega | exact Nat.le_refl _⟩, ⟨by (with_reducible repeat (first | refine blk_drewN ?_ _ | refine blk_drew ?_ | refine blk_alloc ?_ _)); exact BK201.out⟩, ⟨by (with_reducible repeat (first | refine blk_drewN ?_ _ | refine blk_drew ?_ | refine blk_alloc ?_ _)); exact BK202.out⟩, ⟨by (with_reducible repeat (first | refine blk_drewN ?_ _ | refine blk_drew ?_ | refine blk_alloc ?_ _)); exact BK203.out⟩, ⟨by repeat (first | (with_reducible first | exact HB.out | apply below_alloc | apply pw_below_drewN | apply below_drew1 | refine below_set ?_ GE201.out | refine below_set ?_ GE202.out | refine below_set ?_ GE203.out) | exact HB.out)⟩⟩
                case rest => as_aux_lemma =>
                  clear HC50
                  try clear c1
                  try clear c2
                  try clear p2
                  try clear c3
                  try clear c4
                  try clear c5
                  try clear c9
                  try clear c11
                  try clear c12
                  try clear c13
                  try clear c15
                  try clear c18
                  try clear c19
                  try clear c21
                  try clear c22
                  try clear c25
                  try clear c26
                  try clear c29
                  try clear c30
                  try clear c32
                  try clear c32b0
                  try clear c32b1
                  try clear c33
                  try clear c34
                  try clear c35
                  try clear c40
                  try clear c41
                  try clear c43
                  try clear c43b0
                  try clear c43b1
                  try clear c45
                  try clear c46
                  try clear c51
                  try clear c51b0
                  try clear c51b1
                  try clear c52
                  try clear c52b0
                  try clear c52b1
                  try clear c53
                  try clear c54
                  try clear c56
                  try clear c58
                  try clear c59
                  try clear hcz13_0
                  try clear hcz13_1
                  try clear hcz13_2
                  try clear hcz16_0
                  try clear hcz16_1
                  try clear hcz16_2
                  try clear hcz20_0
                  try clear hcz20_1
                  try clear hcz20_2
                  try clear hcz27_0
                  try clear hcz27_1
                  try clear hcz27_2
                  try clear hcz31_0
                  try clear hcz31_1
                  try clear hcz31_2
                  try clear hcz36_0
                  try clear hcz36_1
                  try clear hcz36_2
                  try clear hcz38_0
                  try clear hcz38_1
                  try clear hcz38_2
                  try clear hcz42_0
                  try clear hcz42_1
                  try clear hcz42_2
                  try clear hcz47_0
                  try clear hcz47_1
                  try clear hcz47_2
                  try clear hcz49_0
                  try clear hcz49_1
                  try clear hcz49_2
                  try clear hcz55_0
                  try clear hcz55_1
                  try clear hcz55_2
                  try clear hcz57_0
                  try clear hcz57_1
                  try clear hcz57_2
                  try clear hcz60_0
                  try clear hcz60_1
                  try clear hcz60_2
                  try clear hfz13_0
                  try clear hfz13_1
                  try clear hfz13_2
                  try clear hfz16_0
                  try clear hfz16_1
                  try clear hfz16_2
                  try clear hfz20_0
                  try clear hfz20_1
                  try clear hfz20_2
                  try clear hfz27_0
                  try clear hfz27_1
                  try clear hfz27_2
                  try clear hfz31_0
                  try clear hfz31_1
                  try clear hfz31_2
                  try clear hfz36_0
                  try clear hfz36_1
                  try clear hfz36_2
                  try clear hfz38_0
                  try clear hfz38_1
                  try clear hfz38_2
                  try clear hfz42_0
                  try clear hfz42_1
                  try clear hfz42_2
                  try clear hfz47_0
                  try clear hfz47_1
                  try clear hfz47_2
                  try clear hfz49_0
                  try clear hfz49_1
                  try clear hfz49_2
                  try clear hfz55_0
                  try clear hfz55_1
                  try clear hfz55_2
                  try clear hfz57_0
                  try clear hfz57_1
                  try clear hfz57_2
                  try clear hfz60_0
                  try clear hfz60_1
                  try clear hfz60_2
                  try clear p2
                  obtain ⟨kq, x45_49, rfl, HA, HJ49, BK201, BK202, BK203, HB⟩ := hcut
                  cases kq with
                  | zero => exact absurd HA.out (by simp [spinetref12_Two.j3])
                  | succ kj49 =>
                    have H := HA.out
                    clear HA
                    simp only [spinetref12_Two.j3] at H
                    by_cases c61 : x45_49 = true
                    · subst c61
                      have H1 : (if x202001_38 < 0 then (spinetref12_Two.j4 kj49 true x202000_38 x202001_38 x202002_38 x203000_27 x203001_27 x203002_27) else (spinetref12_Two.j4 kj49 (decide (x202001_38 > 31)) x202000_38 x202001_38 x202002_38 x203000_27 x203001_27 x203002_27)) = some (r1, r2, r3, r4) := by rw [if_pos rfl] at H; exact H
                      clear H
                      have H := H1
                      clear H1
                      have HC62 := Aside0.mk H
                      clear H
                      go_upto_region 8 with (fail)
                      go_cut [53] (fun v53 wc => ∃ (kq : Nat) (x53_61 : Bool), v53 = .bool x53_61 ∧ Aside0 (spinetref12_Two.j4 kq x53_61 x202000_38 x202001_38 x202002_38 x203000_27 x203001_27 x203002_27 = some (r1, r2, r3, r4)) ∧ Aside0 (kq ≤ kj49) ∧ Aside0 (wc.heap[gb201]? = some (.cells #[.int .i64 x202000_38, .int .i64 x202001_38, .string x202002_38] 23 (0, 0))) ∧ Aside0 (wc.heap[gb202]? = some (.cells #[.int .i64 x203000_27, .int .i64 x203001_27, .string x203002_27] 23 (0, 0))) ∧ Aside0 (wc.heap[gb203]? = some (.cells #[.int .i64 0, .int .i64 0, .string (⟨#[]⟩ : ByteArray)] 23 (0, 0))) ∧ Aside0 (Below w.heap.size w wc))
                      case first => as_aux_lemma =>
                        have H := HC62.out
                        clear HC62
                        by_cases c63 : x202001_38 < 0
                        · rw [if_pos c63] at H
                          have c63b0 : decide (x202001_38 < 0) = true := decide_eq_true c63
                          clear c63
                          (first | rw [c63b0] | (simp only [i64_w, i32_w]; rw [c63b0]) | skip)
                          have H' := Aside0.mk H
                          clear H
                          have hnb64 := NB201_202.out
                          have hnc64 := NB202_201.out
                          have hnb65 := NB201_203.out
                          have hnc65 := NB203_201.out
                          have hcz66_0 : wc.cell? ⟨gb201, 0, none⟩ = some (.int .i64 x202000_38) := (blk_cell BK201.out 0).trans rfl
                          have hcz66_1 : wc.cell? ⟨gb201, 1, none⟩ = some (.int .i64 x202001_38) := (blk_cell BK201.out 1).trans rfl
                          have hcz66_2 : wc.cell? ⟨gb201, 2, none⟩ = some (.string x202002_38) := (blk_cell BK201.out 2).trans rfl
                          have hfz66_0 := blk_frozen BK201.out 0
                          have hfz66_1 := blk_frozen BK201.out 1
                          have hfz66_2 := blk_frozen BK201.out 2
                          go_wp2
                          go_meet
                          case rel => exact ⟨_, (true), (by first | rfl | (simp; done) | (simp [*]; done)), H', ⟨by have := HJ3.out; have := HJ27.out; have := HJ38.out; have := HJ49.out; first | omega | exact Nat.le_refl _⟩, ⟨by (with_reducible repeat (first | refine blk_drewN ?_ _ | refine blk_drew ?_ | refine blk_alloc ?_ _)); exact BK201.out⟩, ⟨by (with_reducible repeat (first | refine blk_drewN ?_ _ | refine blk_drew ?_ | refine blk_alloc ?_ _)); exact BK202.out⟩, ⟨by (with_reducible repeat (first | refine blk_drewN ?_ _ | refine blk_drew ?_ | refine blk_alloc ?_ _)); exact BK203.out⟩, ⟨by repeat (first | (with_reducible first | exact HB.out | apply below_alloc | apply pw_below_drewN | apply below_drew1 | refine below_set ?_ GE201.out | refine below_set ?_ GE202.out | refine below_set ?_ GE203.out) | exact HB.out)⟩⟩
                        · rw [if_neg c63] at H
                          have c63b0 : decide (x202001_38 < 0) = false := decide_eq_false c63
                          clear c63
                          (first | rw [c63b0] | (simp only [i64_w, i32_w]; rw [c63b0]) | skip)
                          have H' := Aside0.mk H
                          clear H
                          have hnb67 := NB201_202.out
                          have hnc67 := NB202_201.out
                          have hnb68 := NB201_203.out
                          have hnc68 := NB203_201.out
                          have hcz69_0 : wc.cell? ⟨gb201, 0, none⟩ = some (.int .i64 x202000_38) := (blk_cell BK201.out 0).trans rfl
                          have hcz69_1 : wc.cell? ⟨gb201, 1, none⟩ = some (.int .i64 x202001_38) := (blk_cell BK201.out 1).trans rfl
                          have hcz69_2 : wc.cell? ⟨gb201, 2, none⟩ = some (.string x202002_38) := (blk_cell BK201.out 2).trans rfl
                          have hfz69_0 := blk_frozen BK201.out 0
                          have hfz69_1 := blk_frozen BK201.out 1
                          have hfz69_2 := blk_frozen BK201.out 2
                          go_wp2
                          go_meet
                          case rel => exact ⟨_, (decide (x202001_38 > 31)), (by first | rfl | (simp; done) | (simp [*]; done)), H', ⟨by have := HJ3.out; have := HJ27.out; have := HJ38.out; have := HJ49.out; first | omega | exact Nat.le_refl _⟩, ⟨by (with_reducible repeat (first | refine blk_drewN ?_ _ | refine blk_drew ?_ | refine blk_alloc ?_ _)); exact BK201.out⟩, ⟨by (with_reducible repeat (first | refine blk_drewN ?_ _ | refine blk_drew ?_ | refine blk_alloc ?_ _)); exact BK202.out⟩, ⟨by (with_reducible repeat (first | refine blk_drewN ?_ _ | refine blk_drew ?_ | refine blk_alloc ?_ _)); exact BK203.out⟩, ⟨by repeat (first | (with_reducible first | exact HB.out | apply below_alloc | apply pw_below_drewN | apply below_drew1 | refine below_set ?_ GE201.out | refine below_set ?_ GE202.out | refine below_set ?_ GE203.out) | exact HB.out)⟩⟩
                      case rest => as_aux_lemma =>
                        clear HC62
                        try clear c1
                        try clear c2
                        try clear p2
                        try clear c3
                        try clear c4
                        try clear c5
                        try clear c6
                        try clear c9
                        try clear c11
                        try clear c12
                        try clear c13
                        try clear c15
                        try clear c18
                        try clear c19
                        try clear c21
                        try clear c22
                        try clear c25
                        try clear c26
                        try clear c29
                        try clear c30
                        try clear c32
                        try clear c32b0
                        try clear c32b1
                        try clear c33
                        try clear c34
                        try clear c35
                        try clear c40
                        try clear c41
                        try clear c43
                        try clear c43b0
                        try clear c43b1
                        try clear c45
                        try clear c46
                        try clear c51
                        try clear c51b0
                        try clear c51b1
                        try clear c52
                        try clear c52b0
                        try clear c52b1
                        try clear c53
                        try clear c54
                        try clear c56
                        try clear c58
                        try clear c59
                        try clear c61
                        try clear c63
                        try clear c63b0
                        try clear c64
                        try clear c65
                        try clear c67
                        try clear c68
                        try clear hcz13_0
                        try clear hcz13_1
                        try clear hcz13_2
                        try clear hcz16_0
                        try clear hcz16_1
                        try clear hcz16_2
                        try clear hcz20_0
                        try clear hcz20_1
                        try clear hcz20_2
                        try clear hcz27_0
                        try clear hcz27_1
                        try clear hcz27_2
                        try clear hcz31_0
                        try clear hcz31_1
                        try clear hcz31_2
                        try clear hcz36_0
                        try clear hcz36_1
                        try clear hcz36_2
                        try clear hcz38_0
                        try clear hcz38_1
                        try clear hcz38_2
                        try clear hcz42_0
                        try clear hcz42_1
                        try clear hcz42_2
                        try clear hcz47_0
                        try clear hcz47_1
                        try clear hcz47_2
                        try clear hcz49_0
                        try clear hcz49_1
                        try clear hcz49_2
                        try clear hcz55_0
                        try clear hcz55_1
                        try clear hcz55_2
                        try clear hcz57_0
                        try clear hcz57_1
                        try clear hcz57_2
                        try clear hcz60_0
                        try clear hcz60_1
                        try clear hcz60_2
                        try clear hcz66_0
                        try clear hcz66_1
                        try clear hcz66_2
                        try clear hcz69_0
                        try clear hcz69_1
                        try clear hcz69_2
                        try clear hfz13_0
                        try clear hfz13_1
                        try clear hfz13_2
                        try clear hfz16_0
                        try clear hfz16_1
                        try clear hfz16_2
                        try clear hfz20_0
                        try clear hfz20_1
                        try clear hfz20_2
                        try clear hfz27_0
                        try clear hfz27_1
                        try clear hfz27_2
                        try clear hfz31_0
                        try clear hfz31_1
                        try clear hfz31_2
                        try clear hfz36_0
                        try clear hfz36_1
                        try clear hfz36_2
                        try clear hfz38_0
                        try clear hfz38_1
                        try clear hfz38_2
                        try clear hfz42_0
                        try clear hfz42_1
                        try clear hfz42_2
                        try clear hfz47_0
                        try clear hfz47_1
                        try clear hfz47_2
                        try clear hfz49_0
                        try clear hfz49_1
                        try clear hfz49_2
                        try clear hfz55_0
                        try clear hfz55_1
                        try clear hfz55_2
                        try clear hfz57_0
                        try clear hfz57_1
                        try clear hfz57_2
                        try clear hfz60_0
                        try clear hfz60_1
                        try clear hfz60_2
                        try clear hfz66_0
                        try clear hfz66_1
                        try clear hfz66_2
                        try clear hfz69_0
                        try clear hfz69_1
                        try clear hfz69_2
                        try clear p2
                        obtain ⟨kq, x53_61, rfl, HA, HJ61, BK201, BK202, BK203, HB⟩ := hcut
                        cases kq with
                        | zero => exact absurd HA.out (by simp [spinetref12_Two.j4])
                        | succ kj61 =>
                          have H := HA.out
                          clear HA
                          simp only [spinetref12_Two.j4] at H
                          by_cases c70 : x53_61 = true
                          · subst c70
                            have H1 : (some (0, 0, (⟨#[]⟩ : ByteArray), 91)) = some (r1, r2, r3, r4) := by rw [if_pos rfl] at H; exact H
                            clear H
                            have H := H1
                            clear H1
                            simp only [Option.some.injEq, Prod.mk.injEq] at H
                            obtain ⟨rfl, rfl, rfl, rfl⟩ := H
                            have hnb71 := NB203_201.out
                            have hnc71 := NB201_203.out
                            have hnb72 := NB203_202.out
                            have hnc72 := NB202_203.out
                            have hcz73_0 : wc.cell? ⟨gb203, 0, none⟩ = some (.int .i64 0) := (blk_cell BK203.out 0).trans rfl
                            have hcz73_1 : wc.cell? ⟨gb203, 1, none⟩ = some (.int .i64 0) := (blk_cell BK203.out 1).trans rfl
                            have hcz73_2 : wc.cell? ⟨gb203, 2, none⟩ = some (.string (⟨#[]⟩ : ByteArray)) := (blk_cell BK203.out 2).trans rfl
                            have hfz73_0 := blk_frozen BK203.out 0
                            have hfz73_1 := blk_frozen BK203.out 1
                            have hfz73_2 := blk_frozen BK203.out 2
                            go_wp2
                            refine bodyPost_ret (results_ct rfl _ _ gb203 23 #[.int .i64 0, .int .i64 0, .string (⟨#[]⟩ : ByteArray)] (0, 0) _ rfl (by (with_reducible repeat (first | refine blk_drewN ?_ _ | refine blk_drew ?_ | refine blk_alloc ?_ _)); refine blk_put (cs := #[.int .i64 0, .int .i64 0, .string (⟨#[]⟩ : ByteArray)]) ?_ 2 _ rfl; (with_reducible repeat (first | refine blk_drewN ?_ _ | refine blk_drew ?_ | refine blk_alloc ?_ _)); refine blk_put (cs := #[.int .i64 0, .int .i64 0, .string (⟨#[]⟩ : ByteArray)]) ?_ 1 _ rfl; (with_reducible repeat (first | refine blk_drewN ?_ _ | refine blk_drew ?_ | refine blk_alloc ?_ _)); refine blk_put (cs := #[.int .i64 0, .int .i64 0, .string (⟨#[]⟩ : ByteArray)]) ?_ 0 _ rfl; (with_reducible repeat (first | refine blk_drewN ?_ _ | refine blk_drew ?_ | refine blk_alloc ?_ _)); exact BK203.out) Try.underlying23 rfl (by kernel_rfl)) rfl ?_
                            exact ⟨by first | rfl | (simp [errW_none, errW_some] <;> rfl) | (simp [*, errW_none, errW_some] <;> rfl), by repeat (first | (with_reducible first | exact HB.out | apply below_alloc | apply pw_below_drewN | apply below_drew1 | refine below_set ?_ GE201.out | refine below_set ?_ GE202.out | refine below_set ?_ GE203.out) | exact HB.out)⟩
                          · replace c70 := Bool.eq_false_iff.mpr c70
                            subst c70
                            have H1 : ((spinetref01_Get.f kj61 ((x203001_27) % 4294967296) x202001_38 1).bind fun t216 => ((spinetref12_truth.f (t216 == 1)).bind fun bt217 => (some (bt217.1, bt217.2.1, bt217.2.2.1, bt217.2.2.2)))) = some (r1, r2, r3, r4) := by rw [if_neg (show ¬ (false = true) by decide)] at H; exact H
                            clear H
                            have H := H1
                            clear H1
                            replace H := Option.bind_eq_some_iff.mp H
                            obtain ⟨t216, A740, H⟩ := H
                            replace H : ((spinetref12_truth.f (t216 == 1)).bind fun bt217 => (some (bt217.1, bt217.2.1, bt217.2.2.1, bt217.2.2.2))) = some (r1, r2, r3, r4) := H
                            have A74 := Aside0.mk A740
                            clear A740
                            replace H := Option.bind_eq_some_iff.mp H
                            obtain ⟨⟨t217, t218, t219, t220⟩, A750, H⟩ := H
                            replace H : (some (t217, t218, t219, t220)) = some (r1, r2, r3, r4) := H
                            have A75 := Aside0.mk A750
                            clear A750
                            simp only [Option.some.injEq, Prod.mk.injEq] at H
                            obtain ⟨rfl, rfl, rfl, rfl⟩ := H
                            have hnb76 := NB202_201.out
                            have hnc76 := NB201_202.out
                            have hnb77 := NB202_203.out
                            have hnc77 := NB203_202.out
                            have hcz78_0 : wc.cell? ⟨gb202, 0, none⟩ = some (.int .i64 x203000_27) := (blk_cell BK202.out 0).trans rfl
                            have hcz78_1 : wc.cell? ⟨gb202, 1, none⟩ = some (.int .i64 x203001_27) := (blk_cell BK202.out 1).trans rfl
                            have hcz78_2 : wc.cell? ⟨gb202, 2, none⟩ = some (.string x203002_27) := (blk_cell BK202.out 2).trans rfl
                            have hfz78_0 := blk_frozen BK202.out 0
                            have hfz78_1 := blk_frozen BK202.out 1
                            have hfz78_2 := blk_frozen BK202.out 2
                            have hnb79 := NB201_203.out
                            have hnc79 := NB203_201.out
                            have hcz80_0 : wc.cell? ⟨gb201, 0, none⟩ = some (.int .i64 x202000_38) := (blk_cell BK201.out 0).trans rfl
                            have hcz80_1 : wc.cell? ⟨gb201, 1, none⟩ = some (.int .i64 x202001_38) := (blk_cell BK201.out 1).trans rfl
                            have hcz80_2 : wc.cell? ⟨gb201, 2, none⟩ = some (.string x202002_38) := (blk_cell BK201.out 2).trans rfl
                            have hfz80_0 := blk_frozen BK201.out 0
                            have hfz80_1 := blk_frozen BK201.out 1
                            have hfz80_2 := blk_frozen BK201.out 2
                            go_wp2_with (first | ((with_reducible refine gate_callee (f := 36) rfl ?_); refine goesL_ (some 60) rfl rfl Try.func36 (by kernel_rfl) rfl #[.int .u32 ((x203001_27) % 4294967296), .int .i64 x202001_38, .int .i64 1] rfl (by (try simp only [List.map_toArray, List.map_cons, List.map_nil]); first | done | rfl | (simp only [List.length_drop, List.length_take]; rfl)) ?_; (with_reducible refine (spinetref01_Get.calls kj61 ((x203001_27) % 4294967296) x202001_38 1 t216 _ A74.out).mono ?_); rintro e w' ⟨rfl, ⟨nd, rfl⟩⟩; refine ⟨_, rfl, ?_⟩; (try (rw [drewN_self wc]; generalize hq_ : World.drewN wc _ = wc; have n0_ : Aside0 (wc.heap[gb201]? = some (.cells #[.int .i64 x202000_38, .int .i64 x202001_38, .string x202002_38] 23 (0, 0))) := ⟨by rw [← hq_]; exact (by (with_reducible repeat (first | refine blk_drewN ?_ _ | refine blk_drew ?_ | refine blk_alloc ?_ _)); exact BK201.out)⟩; have n1_ : Aside0 (wc.heap[gb202]? = some (.cells #[.int .i64 x203000_27, .int .i64 x203001_27, .string x203002_27] 23 (0, 0))) := ⟨by rw [← hq_]; exact (by (with_reducible repeat (first | refine blk_drewN ?_ _ | refine blk_drew ?_ | refine blk_alloc ?_ _)); exact BK202.out)⟩; have n2_ : Aside0 (wc.heap[gb203]? = some (.cells #[.int .i64 0, .int .i64 0, .string (⟨#[]⟩ : ByteArray)] 23 (0, 0))) := ⟨by rw [← hq_]; exact (by (with_reducible repeat (first | refine blk_drewN ?_ _ | refine blk_drew ?_ | refine blk_alloc ?_ _)); exact BK203.out)⟩; have n3_ : Aside0 (Below w.heap.size w wc) := ⟨by rw [← hq_]; exact (by repeat (first | (with_reducible first | exact HB.out | apply below_alloc | apply pw_below_drewN | apply below_drew1 | refine below_set ?_ GE201.out | refine below_set ?_ GE202.out | refine below_set ?_ GE203.out) | exact HB.out))⟩; clear BK201 BK202 BK203 HB hq_; have BK201 := n0_; have BK202 := n1_; have BK203 := n2_; have HB := n3_; clear n0_ n1_ n2_ n3_))) | ((with_reducible refine gate_callee (f := 35) rfl ?_); refine goesL_ (some 62) rfl rfl Try.func35 (by kernel_rfl) rfl #[.bool (t216 == 1)] rfl (by (try simp only [List.map_toArray, List.map_cons, List.map_nil]); first | done | rfl | (simp only [List.length_drop, List.length_take]; rfl)) ?_; (with_reducible refine (spinetref12_truth.calls (t216 == 1) t217 t218 t219 t220 _ A75.out).mono ?_); rintro e w81 ⟨rfl, hb⟩; refine ⟨_, rfl, ?_⟩; have n0_ := Aside0.mk (blk_below (g := gb201) (o := .cells #[.int .i64 x202000_38, .int .i64 x202001_38, .string x202002_38] 23 (0, 0)) (by (with_reducible repeat (first | refine blk_drewN ?_ _ | refine blk_drew ?_ | refine blk_alloc ?_ _)); exact BK201.out) hb); have n1_ := Aside0.mk (blk_below (g := gb202) (o := .cells #[.int .i64 x203000_27, .int .i64 x203001_27, .string x203002_27] 23 (0, 0)) (by (with_reducible repeat (first | refine blk_drewN ?_ _ | refine blk_drew ?_ | refine blk_alloc ?_ _)); exact BK202.out) hb); have n2_ := Aside0.mk (blk_below (g := gb203) (o := .cells #[.int .i64 0, .int .i64 0, .string (⟨#[]⟩ : ByteArray)] 23 (0, 0)) (by (with_reducible repeat (first | refine blk_drewN ?_ _ | refine blk_drew ?_ | refine blk_alloc ?_ _)); exact BK203.out) hb); have n3_ := Aside0.mk (below_step (by repeat (first | (with_reducible first | exact HB.out | apply below_alloc | apply pw_below_drewN | apply below_drew1 | refine below_set ?_ GE201.out | refine below_set ?_ GE202.out | refine below_set ?_ GE203.out) | exact HB.out)) hb); clear BK201; clear BK202; clear BK203; clear HB; have BK201 := n0_; have BK202 := n1_; have BK203 := n2_; have HB := n3_; clear n0_ n1_ n2_ n3_; (try clear hb); (try clear hb2); (try clear hk); (try clear hi); have hcz82_0 : w81.cell? ⟨gb203, 0, none⟩ = some (.int .i64 0) := (blk_cell BK203.out 0).trans rfl; have hcz82_1 : w81.cell? ⟨gb203, 1, none⟩ = some (.int .i64 0) := (blk_cell BK203.out 1).trans rfl; have hcz82_2 : w81.cell? ⟨gb203, 2, none⟩ = some (.string (⟨#[]⟩ : ByteArray)) := (blk_cell BK203.out 2).trans rfl; have hfz82_0 := blk_frozen BK203.out 0; have hfz82_1 := blk_frozen BK203.out 1; have hfz82_2 := blk_frozen BK203.out 2))
                            refine bodyPost_ret (results_ct rfl _ _ gb203 23 #[.int .i64 t217, .int .i64 t218, .string t219] (0, 0) _ rfl (by (with_reducible repeat (first | refine blk_drewN ?_ _ | refine blk_drew ?_ | refine blk_alloc ?_ _)); refine blk_put (cs := #[.int .i64 t217, .int .i64 t218, .string (⟨#[]⟩ : ByteArray)]) ?_ 2 _ rfl; (with_reducible repeat (first | refine blk_drewN ?_ _ | refine blk_drew ?_ | refine blk_alloc ?_ _)); refine blk_put (cs := #[.int .i64 t217, .int .i64 0, .string (⟨#[]⟩ : ByteArray)]) ?_ 1 _ rfl; (with_reducible repeat (first | refine blk_drewN ?_ _ | refine blk_drew ?_ | refine blk_alloc ?_ _)); refine blk_put (cs := #[.int .i64 0, .int .i64 0, .string (⟨#[]⟩ : ByteArray)]) ?_ 0 _ rfl; (with_reducible repeat (first | refine blk_drewN ?_ _ | refine blk_drew ?_ | refine blk_alloc ?_ _)); exact BK203.out) Try.underlying23 rfl (by kernel_rfl)) rfl ?_
                            exact ⟨by first | rfl | (simp [errW_none, errW_some] <;> rfl) | (simp [*, errW_none, errW_some] <;> rfl), by repeat (first | (with_reducible first | exact HB.out | apply below_alloc | apply pw_below_drewN | apply below_drew1 | refine below_set ?_ GE201.out | refine below_set ?_ GE202.out | refine below_set ?_ GE203.out) | exact HB.out)⟩
                    · replace c61 := Bool.eq_false_iff.mpr c61
                      subst c61
                      have H1 : (if x202000_38 = x203000_27 then ((spinetref12_order.f x202002_38 x203002_27).bind fun t225 => (if x202001_38 = x203001_27 then (spinetref12_Two.j5 kj49 a0 t225 x202000_38 x202001_38 x202002_38 x203000_27 x203001_27 x203002_27) else (if x202001_38 < x203001_27 then (spinetref12_Two.j5 kj49 a0 (-1) x202000_38 x202001_38 x202002_38 x203000_27 x203001_27 x203002_27) else (spinetref12_Two.j5 kj49 a0 1 x202000_38 x202001_38 x202002_38 x203000_27 x203001_27 x203002_27)))) else ((spinetref12_none.f).bind fun bt221 => (some (bt221.1, bt221.2.1, bt221.2.2.1, bt221.2.2.2)))) = some (r1, r2, r3, r4) := by rw [if_neg (show ¬ (false = true) by decide)] at H; exact H
                      clear H
                      have H := H1
                      clear H1
                      by_cases c83 : x202000_38 = x203000_27
                      · rw [if_pos c83] at H
                        have c83b0 : (x202000_38 == x203000_27) = true := beq_iff_eq.mpr c83
                        have c83b1 : (x202000_38 != x203000_27) = false := bne_eq_false_iff_eq.mpr c83
                        clear c83
                        replace H := Option.bind_eq_some_iff.mp H
                        obtain ⟨t225, A840, H⟩ := H
                        replace H : (if x202001_38 = x203001_27 then (spinetref12_Two.j5 kj49 a0 t225 x202000_38 x202001_38 x202002_38 x203000_27 x203001_27 x203002_27) else (if x202001_38 < x203001_27 then (spinetref12_Two.j5 kj49 a0 (-1) x202000_38 x202001_38 x202002_38 x203000_27 x203001_27 x203002_27) else (spinetref12_Two.j5 kj49 a0 1 x202000_38 x202001_38 x202002_38 x203000_27 x203001_27 x203002_27))) = some (r1, r2, r3, r4) := H
                        have A84 := Aside0.mk A840
                        clear A840
                        have HC85 := Aside0.mk H
                        clear H
                        have hnb86 := NB201_202.out
                        have hnc86 := NB202_201.out
                        have hnb87 := NB201_203.out
                        have hnc87 := NB203_201.out
                        have hcz88_0 : wc.cell? ⟨gb201, 0, none⟩ = some (.int .i64 x202000_38) := (blk_cell BK201.out 0).trans rfl
                        have hcz88_1 : wc.cell? ⟨gb201, 1, none⟩ = some (.int .i64 x202001_38) := (blk_cell BK201.out 1).trans rfl
                        have hcz88_2 : wc.cell? ⟨gb201, 2, none⟩ = some (.string x202002_38) := (blk_cell BK201.out 2).trans rfl
                        have hfz88_0 := blk_frozen BK201.out 0
                        have hfz88_1 := blk_frozen BK201.out 1
                        have hfz88_2 := blk_frozen BK201.out 2
                        have hnb89 := NB202_203.out
                        have hnc89 := NB203_202.out
                        have hcz90_0 : wc.cell? ⟨gb202, 0, none⟩ = some (.int .i64 x203000_27) := (blk_cell BK202.out 0).trans rfl
                        have hcz90_1 : wc.cell? ⟨gb202, 1, none⟩ = some (.int .i64 x203001_27) := (blk_cell BK202.out 1).trans rfl
                        have hcz90_2 : wc.cell? ⟨gb202, 2, none⟩ = some (.string x203002_27) := (blk_cell BK202.out 2).trans rfl
                        have hfz90_0 := blk_frozen BK202.out 0
                        have hfz90_1 := blk_frozen BK202.out 1
                        have hfz90_2 := blk_frozen BK202.out 2
                        go_upto_if 82 with (first | ((with_reducible refine gate_callee (f := 37) rfl ?_); refine goesL_ (some 77) rfl rfl Try.func37 (by kernel_rfl) rfl #[.string x202002_38, .string x203002_27] rfl (by (try simp only [List.map_toArray, List.map_cons, List.map_nil]); first | done | rfl | (simp only [List.length_drop, List.length_take]; rfl)) ?_; (with_reducible refine (spinetref12_order.calls x202002_38 x203002_27 t225 _ A84.out).mono ?_); rintro e w' ⟨rfl, ⟨nd, rfl⟩⟩; refine ⟨_, rfl, ?_⟩))
                        (try simp only [Act.put, List.setIfInBounds_toArray, List.set_cons_zero, List.set_cons_succ])
                        go_cut [8] (fun v8 wc => ∃ (kq : Nat) (x8_84 : Int), v8 = .int .i64 x8_84 ∧ Aside0 (spinetref12_Two.j5 kq a0 x8_84 x202000_38 x202001_38 x202002_38 x203000_27 x203001_27 x203002_27 = some (r1, r2, r3, r4)) ∧ Aside0 (kq ≤ kj49) ∧ Aside0 (wc.heap[gb201]? = some (.cells #[.int .i64 x202000_38, .int .i64 x202001_38, .string x202002_38] 23 (0, 0))) ∧ Aside0 (wc.heap[gb202]? = some (.cells #[.int .i64 x203000_27, .int .i64 x203001_27, .string x203002_27] 23 (0, 0))) ∧ Aside0 (wc.heap[gb203]? = some (.cells #[.int .i64 0, .int .i64 0, .string (⟨#[]⟩ : ByteArray)] 23 (0, 0))) ∧ Aside0 (Below w.heap.size w wc))
                        case first => as_aux_lemma =>
                          have H := HC85.out
                          clear HC85
                          by_cases c91 : x202001_38 = x203001_27
                          · rw [if_pos c91] at H
                            have c91b0 : (x202001_38 == x203001_27) = true := beq_iff_eq.mpr c91
                            have c91b1 : (x202001_38 != x203001_27) = false := bne_eq_false_iff_eq.mpr c91
                            clear c91
                            (first | rw [c91b0] | (simp only [i64_w, i32_w]; rw [c91b0]) | skip)
                            have H' := Aside0.mk H
                            clear H
                            go_wp2
                            go_meet
                            case rel => exact ⟨_, (t225), (by first | rfl | (simp; done) | (simp [*]; done)), H', ⟨by have := HJ3.out; have := HJ27.out; have := HJ38.out; have := HJ49.out; first | omega | exact Nat.le_refl _⟩, ⟨by (with_reducible repeat (first | refine blk_drewN ?_ _ | refine blk_drew ?_ | refine blk_alloc ?_ _)); exact BK201.out⟩, ⟨by (with_reducible repeat (first | refine blk_drewN ?_ _ | refine blk_drew ?_ | refine blk_alloc ?_ _)); exact BK202.out⟩, ⟨by (with_reducible repeat (first | refine blk_drewN ?_ _ | refine blk_drew ?_ | refine blk_alloc ?_ _)); exact BK203.out⟩, ⟨by repeat (first | (with_reducible first | exact HB.out | apply below_alloc | apply pw_below_drewN | apply below_drew1 | refine below_set ?_ GE201.out | refine below_set ?_ GE202.out | refine below_set ?_ GE203.out) | exact HB.out)⟩⟩
                          · rw [if_neg c91] at H
                            have c91b0 : (x202001_38 == x203001_27) = false := beq_eq_false_iff_ne.mpr c91
                            have c91b1 : (x202001_38 != x203001_27) = true := bne_iff_ne.mpr c91
                            (first | rw [c91b0] | (simp only [i64_w, i32_w]; rw [c91b0]) | skip)
                            by_cases c92 : x202001_38 < x203001_27
                            · rw [if_pos c92] at H
                              have c92b0 : decide (x202001_38 < x203001_27) = true := decide_eq_true c92
                              clear c92
                              have H' := Aside0.mk H
                              clear H
                              have hnb93 := NB201_202.out
                              have hnc93 := NB202_201.out
                              have hnb94 := NB201_203.out
                              have hnc94 := NB203_201.out
                              have hcz95_0 : wc.cell? ⟨gb201, 0, none⟩ = some (.int .i64 x202000_38) := (blk_cell BK201.out 0).trans rfl
                              have hcz95_1 : wc.cell? ⟨gb201, 1, none⟩ = some (.int .i64 x202001_38) := (blk_cell BK201.out 1).trans rfl
                              have hcz95_2 : wc.cell? ⟨gb201, 2, none⟩ = some (.string x202002_38) := (blk_cell BK201.out 2).trans rfl
                              have hfz95_0 := blk_frozen BK201.out 0
                              have hfz95_1 := blk_frozen BK201.out 1
                              have hfz95_2 := blk_frozen BK201.out 2
                              have hnb96 := NB202_203.out
                              have hnc96 := NB203_202.out
                              have hcz97_0 : wc.cell? ⟨gb202, 0, none⟩ = some (.int .i64 x203000_27) := (blk_cell BK202.out 0).trans rfl
                              have hcz97_1 : wc.cell? ⟨gb202, 1, none⟩ = some (.int .i64 x203001_27) := (blk_cell BK202.out 1).trans rfl
                              have hcz97_2 : wc.cell? ⟨gb202, 2, none⟩ = some (.string x203002_27) := (blk_cell BK202.out 2).trans rfl
                              have hfz97_0 := blk_frozen BK202.out 0
                              have hfz97_1 := blk_frozen BK202.out 1
                              have hfz97_2 := blk_frozen BK202.out 2
                              go_wp2
                              go_meet
                              case rel => exact ⟨_, ((-1)), (by first | rfl | (simp; done) | (simp [*]; done)), H', ⟨by have := HJ3.out; have := HJ27.out; have := HJ38.out; have := HJ49.out; first | omega | exact Nat.le_refl _⟩, ⟨by (with_reducible repeat (first | refine blk_drewN ?_ _ | refine blk_drew ?_ | refine blk_alloc ?_ _)); exact BK201.out⟩, ⟨by (with_reducible repeat (first | refine blk_drewN ?_ _ | refine blk_drew ?_ | refine blk_alloc ?_ _)); exact BK202.out⟩, ⟨by (with_reducible repeat (first | refine blk_drewN ?_ _ | refine blk_drew ?_ | refine blk_alloc ?_ _)); exact BK203.out⟩, ⟨by repeat (first | (with_reducible first | exact HB.out | apply below_alloc | apply pw_below_drewN | apply below_drew1 | refine below_set ?_ GE201.out | refine below_set ?_ GE202.out | refine below_set ?_ GE203.out) | exact HB.out)⟩⟩
                            · rw [if_neg c92] at H
                              have c92b0 : decide (x202001_38 < x203001_27) = false := decide_eq_false c92
                              clear c92
                              have H' := Aside0.mk H
                              clear H
                              have hnb98 := NB201_202.out
                              have hnc98 := NB202_201.out
                              have hnb99 := NB201_203.out
                              have hnc99 := NB203_201.out
                              have hcz100_0 : wc.cell? ⟨gb201, 0, none⟩ = some (.int .i64 x202000_38) := (blk_cell BK201.out 0).trans rfl
                              have hcz100_1 : wc.cell? ⟨gb201, 1, none⟩ = some (.int .i64 x202001_38) := (blk_cell BK201.out 1).trans rfl
                              have hcz100_2 : wc.cell? ⟨gb201, 2, none⟩ = some (.string x202002_38) := (blk_cell BK201.out 2).trans rfl
                              have hfz100_0 := blk_frozen BK201.out 0
                              have hfz100_1 := blk_frozen BK201.out 1
                              have hfz100_2 := blk_frozen BK201.out 2
                              have hnb101 := NB202_203.out
                              have hnc101 := NB203_202.out
                              have hcz102_0 : wc.cell? ⟨gb202, 0, none⟩ = some (.int .i64 x203000_27) := (blk_cell BK202.out 0).trans rfl
                              have hcz102_1 : wc.cell? ⟨gb202, 1, none⟩ = some (.int .i64 x203001_27) := (blk_cell BK202.out 1).trans rfl
                              have hcz102_2 : wc.cell? ⟨gb202, 2, none⟩ = some (.string x203002_27) := (blk_cell BK202.out 2).trans rfl
                              have hfz102_0 := blk_frozen BK202.out 0
                              have hfz102_1 := blk_frozen BK202.out 1
                              have hfz102_2 := blk_frozen BK202.out 2
                              go_wp2
                              go_meet
                              case rel => exact ⟨_, (1), (by first | rfl | (simp; done) | (simp [*]; done)), H', ⟨by have := HJ3.out; have := HJ27.out; have := HJ38.out; have := HJ49.out; first | omega | exact Nat.le_refl _⟩, ⟨by (with_reducible repeat (first | refine blk_drewN ?_ _ | refine blk_drew ?_ | refine blk_alloc ?_ _)); exact BK201.out⟩, ⟨by (with_reducible repeat (first | refine blk_drewN ?_ _ | refine blk_drew ?_ | refine blk_alloc ?_ _)); exact BK202.out⟩, ⟨by (with_reducible repeat (first | refine blk_drewN ?_ _ | refine blk_drew ?_ | refine blk_alloc ?_ _)); exact BK203.out⟩, ⟨by repeat (first | (with_reducible first | exact HB.out | apply below_alloc | apply pw_below_drewN | apply below_drew1 | refine below_set ?_ GE201.out | refine below_set ?_ GE202.out | refine below_set ?_ GE203.out) | exact HB.out)⟩⟩
                        case rest => as_aux_lemma =>
                          clear HC85
                          try clear c1
                          try clear c2
                          try clear p2
                          try clear c3
                          try clear c4
                          try clear c5
                          try clear c6
                          try clear c7
                          try clear c8
                          try clear c9
                          try clear c10
                          try clear c11
                          try clear c12
                          try clear c13
                          try clear c15
                          try clear c18
                          try clear c19
                          try clear c21
                          try clear c22
                          try clear c25
                          try clear c26
                          try clear c29
                          try clear c30
                          try clear c32
                          try clear c32b0
                          try clear c32b1
                          try clear c33
                          try clear c34
                          try clear c35
                          try clear c36
                          try clear c37
                          try clear c40
                          try clear c41
                          try clear c43
                          try clear c43b0
                          try clear c43b1
                          try clear c45
                          try clear c46
                          try clear c51
                          try clear c51b0
                          try clear c51b1
                          try clear c52
                          try clear c52b0
                          try clear c52b1
                          try clear c53
                          try clear c54
                          try clear c56
                          try clear c58
                          try clear c59
                          try clear c61
                          try clear c63
                          try clear c63b0
                          try clear c64
                          try clear c65
                          try clear c67
                          try clear c68
                          try clear c70
                          try clear c71
                          try clear c72
                          try clear c76
                          try clear c77
                          try clear c79
                          try clear c83
                          try clear c83b0
                          try clear c83b1
                          try clear c86
                          try clear c87
                          try clear c89
                          try clear c91
                          try clear c91b0
                          try clear c91b1
                          try clear c92
                          try clear c92b0
                          try clear c93
                          try clear c94
                          try clear c96
                          try clear c98
                          try clear c99
                          try clear c101
                          try clear hcz100_0
                          try clear hcz100_1
                          try clear hcz100_2
                          try clear hcz102_0
                          try clear hcz102_1
                          try clear hcz102_2
                          try clear hcz13_0
                          try clear hcz13_1
                          try clear hcz13_2
                          try clear hcz16_0
                          try clear hcz16_1
                          try clear hcz16_2
                          try clear hcz20_0
                          try clear hcz20_1
                          try clear hcz20_2
                          try clear hcz27_0
                          try clear hcz27_1
                          try clear hcz27_2
                          try clear hcz31_0
                          try clear hcz31_1
                          try clear hcz31_2
                          try clear hcz36_0
                          try clear hcz36_1
                          try clear hcz36_2
                          try clear hcz38_0
                          try clear hcz38_1
                          try clear hcz38_2
                          try clear hcz42_0
                          try clear hcz42_1
                          try clear hcz42_2
                          try clear hcz47_0
                          try clear hcz47_1
                          try clear hcz47_2
                          try clear hcz49_0
                          try clear hcz49_1
                          try clear hcz49_2
                          try clear hcz55_0
                          try clear hcz55_1
                          try clear hcz55_2
                          try clear hcz57_0
                          try clear hcz57_1
                          try clear hcz57_2
                          try clear hcz60_0
                          try clear hcz60_1
                          try clear hcz60_2
                          try clear hcz66_0
                          try clear hcz66_1
                          try clear hcz66_2
                          try clear hcz69_0
                          try clear hcz69_1
                          try clear hcz69_2
                          try clear hcz73_0
                          try clear hcz73_1
                          try clear hcz73_2
                          try clear hcz78_0
                          try clear hcz78_1
                          try clear hcz78_2
                          try clear hcz80_0
                          try clear hcz80_1
                          try clear hcz80_2
                          try clear hcz82_0
                          try clear hcz82_1
                          try clear hcz82_2
                          try clear hcz88_0
                          try clear hcz88_1
                          try clear hcz88_2
                          try clear hcz90_0
                          try clear hcz90_1
                          try clear hcz90_2
                          try clear hcz95_0
                          try clear hcz95_1
                          try clear hcz95_2
                          try clear hcz97_0
                          try clear hcz97_1
                          try clear hcz97_2
                          try clear hfz100_0
                          try clear hfz100_1
                          try clear hfz100_2
                          try clear hfz102_0
                          try clear hfz102_1
                          try clear hfz102_2
                          try clear hfz13_0
                          try clear hfz13_1
                          try clear hfz13_2
                          try clear hfz16_0
                          try clear hfz16_1
                          try clear hfz16_2
                          try clear hfz20_0
                          try clear hfz20_1
                          try clear hfz20_2
                          try clear hfz27_0
                          try clear hfz27_1
                          try clear hfz27_2
                          try clear hfz31_0
                          try clear hfz31_1
                          try clear hfz31_2
                          try clear hfz36_0
                          try clear hfz36_1
                          try clear hfz36_2
                          try clear hfz38_0
                          try clear hfz38_1
                          try clear hfz38_2
                          try clear hfz42_0
                          try clear hfz42_1
                          try clear hfz42_2
                          try clear hfz47_0
                          try clear hfz47_1
                          try clear hfz47_2
                          try clear hfz49_0
                          try clear hfz49_1
                          try clear hfz49_2
                          try clear hfz55_0
                          try clear hfz55_1
                          try clear hfz55_2
                          try clear hfz57_0
                          try clear hfz57_1
                          try clear hfz57_2
                          try clear hfz60_0
                          try clear hfz60_1
                          try clear hfz60_2
                          try clear hfz66_0
                          try clear hfz66_1
                          try clear hfz66_2
                          try clear hfz69_0
                          try clear hfz69_1
                          try clear hfz69_2
                          try clear hfz73_0
                          try clear hfz73_1
                          try clear hfz73_2
                          try clear hfz78_0
                          try clear hfz78_1
                          try clear hfz78_2
                          try clear hfz80_0
                          try clear hfz80_1
                          try clear hfz80_2
                          try clear hfz82_0
                          try clear hfz82_1
                          try clear hfz82_2
                          try clear hfz88_0
                          try clear hfz88_1
                          try clear hfz88_2
                          try clear hfz90_0
                          try clear hfz90_1
                          try clear hfz90_2
                          try clear hfz95_0
                          try clear hfz95_1
                          try clear hfz95_2
                          try clear hfz97_0
                          try clear hfz97_1
                          try clear hfz97_2
                          try clear p2
                          obtain ⟨kq, x8_84, rfl, HA, HJ84, BK201, BK202, BK203, HB⟩ := hcut
                          cases kq with
                          | zero => exact absurd HA.out (by simp [spinetref12_Two.j5])
                          | succ kj84 =>
                            have H := HA.out
                            clear HA
                            simp only [spinetref12_Two.j5] at H
                            replace H := Option.bind_eq_some_iff.mp H
                            obtain ⟨⟨t226, t227⟩, A1030, H⟩ := H
                            replace H : (if t227 = true then (if a0.toList = ([61] : List UInt8) then (spinetref12_Two.j6 kj84 a0 t226 true x202000_38 x202001_38 x202002_38 x203000_27 x203001_27 x203002_27) else (if a0.toList = ([35] : List UInt8) then (spinetref12_Two.j6 kj84 a0 t226 true x202000_38 x202001_38 x202002_38 x203000_27 x203001_27 x203002_27) else (if x202000_38 = 1 then (spinetref12_Two.j6 kj84 a0 t226 true x202000_38 x202001_38 x202002_38 x203000_27 x203001_27 x203002_27) else (if x202000_38 = 3 then (spinetref12_Two.j6 kj84 a0 t226 true x202000_38 x202001_38 x202002_38 x203000_27 x203001_27 x203002_27) else (spinetref12_Two.j6 kj84 a0 t226 (x202000_38 == 6) x202000_38 x202001_38 x202002_38 x203000_27 x203001_27 x203002_27))))) else (spinetref12_Two.j6 kj84 a0 t226 false x202000_38 x202001_38 x202002_38 x203000_27 x203001_27 x203002_27)) = some (r1, r2, r3, r4) := H
                            have A103 := Aside0.mk A1030
                            clear A1030
                            have HC104 := Aside0.mk H
                            clear H
                            go_upto_region 19 with (first | ((with_reducible refine gate_callee (f := 38) rfl ?_); refine goesL_ (some 91) rfl rfl Try.func38 (by kernel_rfl) rfl #[.string a0, .int .i64 x8_84] rfl (by (try simp only [List.map_toArray, List.map_cons, List.map_nil]); first | done | rfl | (simp only [List.length_drop, List.length_take]; rfl)) ?_; (with_reducible refine (spinetref12_Relate.calls a0 x8_84 t226 t227 _ A103.out).mono ?_); rintro e w' ⟨rfl, ⟨nd, rfl⟩⟩; refine ⟨_, rfl, ?_⟩))
                            (try simp only [Act.put, List.setIfInBounds_toArray, List.set_cons_zero, List.set_cons_succ])
                            go_cut [117] (fun v117 wc => ∃ (kq : Nat) (x117_103 : Bool), v117 = .bool x117_103 ∧ Aside0 (spinetref12_Two.j6 kq a0 t226 x117_103 x202000_38 x202001_38 x202002_38 x203000_27 x203001_27 x203002_27 = some (r1, r2, r3, r4)) ∧ Aside0 (kq ≤ kj84) ∧ Aside0 (wc.heap[gb201]? = some (.cells #[.int .i64 x202000_38, .int .i64 x202001_38, .string x202002_38] 23 (0, 0))) ∧ Aside0 (wc.heap[gb202]? = some (.cells #[.int .i64 x203000_27, .int .i64 x203001_27, .string x203002_27] 23 (0, 0))) ∧ Aside0 (wc.heap[gb203]? = some (.cells #[.int .i64 0, .int .i64 0, .string (⟨#[]⟩ : ByteArray)] 23 (0, 0))) ∧ Aside0 (Below w.heap.size w wc))
                            case first => as_aux_lemma =>
                              have H := HC104.out
                              clear HC104
                              by_cases c105 : t227 = true
                              · subst c105
                                have H1 : (if a0.toList = ([61] : List UInt8) then (spinetref12_Two.j6 kj84 a0 t226 true x202000_38 x202001_38 x202002_38 x203000_27 x203001_27 x203002_27) else (if a0.toList = ([35] : List UInt8) then (spinetref12_Two.j6 kj84 a0 t226 true x202000_38 x202001_38 x202002_38 x203000_27 x203001_27 x203002_27) else (if x202000_38 = 1 then (spinetref12_Two.j6 kj84 a0 t226 true x202000_38 x202001_38 x202002_38 x203000_27 x203001_27 x203002_27) else (if x202000_38 = 3 then (spinetref12_Two.j6 kj84 a0 t226 true x202000_38 x202001_38 x202002_38 x203000_27 x203001_27 x203002_27) else (spinetref12_Two.j6 kj84 a0 t226 (x202000_38 == 6) x202000_38 x202001_38 x202002_38 x203000_27 x203001_27 x203002_27))))) = some (r1, r2, r3, r4) := by rw [if_pos rfl] at H; exact H
                                clear H
                                have H := H1
                                clear H1
                                by_cases c106 : a0.toList = ([61] : List UInt8)
                                · rw [if_pos c106] at H
                                  have c106b0 : (a0.toList == ([61] : List UInt8)) = true := beq_iff_eq.mpr c106
                                  have c106b1 : (a0.toList != ([61] : List UInt8)) = false := bne_eq_false_iff_eq.mpr c106
                                  clear c106
                                  (first | rw [c106b0] | (simp only [i64_w, i32_w]; rw [c106b0]) | skip)
                                  have H' := Aside0.mk H
                                  clear H
                                  go_wp2
                                  go_meet
                                  case rel => exact ⟨_, (true), (by first | rfl | (simp; done) | (simp [*]; done)), H', ⟨by have := HJ3.out; have := HJ27.out; have := HJ38.out; have := HJ49.out; have := HJ84.out; first | omega | exact Nat.le_refl _⟩, ⟨by (with_reducible repeat (first | refine blk_drewN ?_ _ | refine blk_drew ?_ | refine blk_alloc ?_ _)); exact BK201.out⟩, ⟨by (with_reducible repeat (first | refine blk_drewN ?_ _ | refine blk_drew ?_ | refine blk_alloc ?_ _)); exact BK202.out⟩, ⟨by (with_reducible repeat (first | refine blk_drewN ?_ _ | refine blk_drew ?_ | refine blk_alloc ?_ _)); exact BK203.out⟩, ⟨by repeat (first | (with_reducible first | exact HB.out | apply below_alloc | apply pw_below_drewN | apply below_drew1 | refine below_set ?_ GE201.out | refine below_set ?_ GE202.out | refine below_set ?_ GE203.out) | exact HB.out)⟩⟩
                                · rw [if_neg c106] at H
                                  have c106b0 : (a0.toList == ([61] : List UInt8)) = false := beq_eq_false_iff_ne.mpr c106
                                  have c106b1 : (a0.toList != ([61] : List UInt8)) = true := bne_iff_ne.mpr c106
                                  (first | rw [c106b0] | (simp only [i64_w, i32_w]; rw [c106b0]) | skip)
                                  by_cases c107 : a0.toList = ([35] : List UInt8)
                                  · rw [if_pos c107] at H
                                    have c107b0 : (a0.toList == ([35] : List UInt8)) = true := beq_iff_eq.mpr c107
                                    have c107b1 : (a0.toList != ([35] : List UInt8)) = false := bne_eq_false_iff_eq.mpr c107
                                    clear c107
                                    have H' := Aside0.mk H
                                    clear H
                                    go_wp2
                                    go_meet
                                    case rel => exact ⟨_, (true), (by first | rfl | (simp; done) | (simp [*]; done)), H', ⟨by have := HJ3.out; have := HJ27.out; have := HJ38.out; have := HJ49.out; have := HJ84.out; first | omega | exact Nat.le_refl _⟩, ⟨by (with_reducible repeat (first | refine blk_drewN ?_ _ | refine blk_drew ?_ | refine blk_alloc ?_ _)); exact BK201.out⟩, ⟨by (with_reducible repeat (first | refine blk_drewN ?_ _ | refine blk_drew ?_ | refine blk_alloc ?_ _)); exact BK202.out⟩, ⟨by (with_reducible repeat (first | refine blk_drewN ?_ _ | refine blk_drew ?_ | refine blk_alloc ?_ _)); exact BK203.out⟩, ⟨by repeat (first | (with_reducible first | exact HB.out | apply below_alloc | apply pw_below_drewN | apply below_drew1 | refine below_set ?_ GE201.out | refine below_set ?_ GE202.out | refine below_set ?_ GE203.out) | exact HB.out)⟩⟩
                                  · rw [if_neg c107] at H
                                    have c107b0 : (a0.toList == ([35] : List UInt8)) = false := beq_eq_false_iff_ne.mpr c107
                                    have c107b1 : (a0.toList != ([35] : List UInt8)) = true := bne_iff_ne.mpr c107
                                    by_cases c108 : x202000_38 = 1
                                    · rw [if_pos c108] at H
                                      have c108b0 : (x202000_38 == 1) = true := beq_iff_eq.mpr c108
                                      have c108b1 : (x202000_38 != 1) = false := bne_eq_false_iff_eq.mpr c108
                                      clear c108
                                      have H' := Aside0.mk H
                                      clear H
                                      have hnb109 := NB201_202.out
                                      have hnc109 := NB202_201.out
                                      have hnb110 := NB201_203.out
                                      have hnc110 := NB203_201.out
                                      have hcz111_0 : wc.cell? ⟨gb201, 0, none⟩ = some (.int .i64 x202000_38) := (blk_cell BK201.out 0).trans rfl
                                      have hcz111_1 : wc.cell? ⟨gb201, 1, none⟩ = some (.int .i64 x202001_38) := (blk_cell BK201.out 1).trans rfl
                                      have hcz111_2 : wc.cell? ⟨gb201, 2, none⟩ = some (.string x202002_38) := (blk_cell BK201.out 2).trans rfl
                                      have hfz111_0 := blk_frozen BK201.out 0
                                      have hfz111_1 := blk_frozen BK201.out 1
                                      have hfz111_2 := blk_frozen BK201.out 2
                                      go_wp2
                                      go_meet
                                      case rel => exact ⟨_, (true), (by first | rfl | (simp; done) | (simp [*]; done)), H', ⟨by have := HJ3.out; have := HJ27.out; have := HJ38.out; have := HJ49.out; have := HJ84.out; first | omega | exact Nat.le_refl _⟩, ⟨by (with_reducible repeat (first | refine blk_drewN ?_ _ | refine blk_drew ?_ | refine blk_alloc ?_ _)); exact BK201.out⟩, ⟨by (with_reducible repeat (first | refine blk_drewN ?_ _ | refine blk_drew ?_ | refine blk_alloc ?_ _)); exact BK202.out⟩, ⟨by (with_reducible repeat (first | refine blk_drewN ?_ _ | refine blk_drew ?_ | refine blk_alloc ?_ _)); exact BK203.out⟩, ⟨by repeat (first | (with_reducible first | exact HB.out | apply below_alloc | apply pw_below_drewN | apply below_drew1 | refine below_set ?_ GE201.out | refine below_set ?_ GE202.out | refine below_set ?_ GE203.out) | exact HB.out)⟩⟩
                                    · rw [if_neg c108] at H
                                      have c108b0 : (x202000_38 == 1) = false := beq_eq_false_iff_ne.mpr c108
                                      have c108b1 : (x202000_38 != 1) = true := bne_iff_ne.mpr c108
                                      by_cases c112 : x202000_38 = 3
                                      · rw [if_pos c112] at H
                                        have c112b0 : (x202000_38 == 3) = true := beq_iff_eq.mpr c112
                                        have c112b1 : (x202000_38 != 3) = false := bne_eq_false_iff_eq.mpr c112
                                        clear c112
                                        have H' := Aside0.mk H
                                        clear H
                                        have hnb113 := NB201_202.out
                                        have hnc113 := NB202_201.out
                                        have hnb114 := NB201_203.out
                                        have hnc114 := NB203_201.out
                                        have hcz115_0 : wc.cell? ⟨gb201, 0, none⟩ = some (.int .i64 x202000_38) := (blk_cell BK201.out 0).trans rfl
                                        have hcz115_1 : wc.cell? ⟨gb201, 1, none⟩ = some (.int .i64 x202001_38) := (blk_cell BK201.out 1).trans rfl
                                        have hcz115_2 : wc.cell? ⟨gb201, 2, none⟩ = some (.string x202002_38) := (blk_cell BK201.out 2).trans rfl
                                        have hfz115_0 := blk_frozen BK201.out 0
                                        have hfz115_1 := blk_frozen BK201.out 1
                                        have hfz115_2 := blk_frozen BK201.out 2
                                        go_wp2
                                        go_meet
                                        case rel => exact ⟨_, (true), (by first | rfl | (simp; done) | (simp [*]; done)), H', ⟨by have := HJ3.out; have := HJ27.out; have := HJ38.out; have := HJ49.out; have := HJ84.out; first | omega | exact Nat.le_refl _⟩, ⟨by (with_reducible repeat (first | refine blk_drewN ?_ _ | refine blk_drew ?_ | refine blk_alloc ?_ _)); exact BK201.out⟩, ⟨by (with_reducible repeat (first | refine blk_drewN ?_ _ | refine blk_drew ?_ | refine blk_alloc ?_ _)); exact BK202.out⟩, ⟨by (with_reducible repeat (first | refine blk_drewN ?_ _ | refine blk_drew ?_ | refine blk_alloc ?_ _)); exact BK203.out⟩, ⟨by repeat (first | (with_reducible first | exact HB.out | apply below_alloc | apply pw_below_drewN | apply below_drew1 | refine below_set ?_ GE201.out | refine below_set ?_ GE202.out | refine below_set ?_ GE203.out) | exact HB.out)⟩⟩
                                      · rw [if_neg c112] at H
                                        have c112b0 : (x202000_38 == 3) = false := beq_eq_false_iff_ne.mpr c112
                                        have c112b1 : (x202000_38 != 3) = true := bne_iff_ne.mpr c112
                                        have H' := Aside0.mk H
                                        clear H
                                        have hnb116 := NB201_202.out
                                        have hnc116 := NB202_201.out
                                        have hnb117 := NB201_203.out
                                        have hnc117 := NB203_201.out
                                        have hcz118_0 : wc.cell? ⟨gb201, 0, none⟩ = some (.int .i64 x202000_38) := (blk_cell BK201.out 0).trans rfl
                                        have hcz118_1 : wc.cell? ⟨gb201, 1, none⟩ = some (.int .i64 x202001_38) := (blk_cell BK201.out 1).trans rfl
                                        have hcz118_2 : wc.cell? ⟨gb201, 2, none⟩ = some (.string x202002_38) := (blk_cell BK201.out 2).trans rfl
                                        have hfz118_0 := blk_frozen BK201.out 0
                                        have hfz118_1 := blk_frozen BK201.out 1
                                        have hfz118_2 := blk_frozen BK201.out 2
                                        go_wp2
                                        go_meet
                                        case rel => exact ⟨_, ((x202000_38 == 6)), (by first | rfl | (simp; done) | (simp [*]; done)), H', ⟨by have := HJ3.out; have := HJ27.out; have := HJ38.out; have := HJ49.out; have := HJ84.out; first | omega | exact Nat.le_refl _⟩, ⟨by (with_reducible repeat (first | refine blk_drewN ?_ _ | refine blk_drew ?_ | refine blk_alloc ?_ _)); exact BK201.out⟩, ⟨by (with_reducible repeat (first | refine blk_drewN ?_ _ | refine blk_drew ?_ | refine blk_alloc ?_ _)); exact BK202.out⟩, ⟨by (with_reducible repeat (first | refine blk_drewN ?_ _ | refine blk_drew ?_ | refine blk_alloc ?_ _)); exact BK203.out⟩, ⟨by repeat (first | (with_reducible first | exact HB.out | apply below_alloc | apply pw_below_drewN | apply below_drew1 | refine below_set ?_ GE201.out | refine below_set ?_ GE202.out | refine below_set ?_ GE203.out) | exact HB.out)⟩⟩
                              · replace c105 := Bool.eq_false_iff.mpr c105
                                subst c105
                                have H1 : (spinetref12_Two.j6 kj84 a0 t226 false x202000_38 x202001_38 x202002_38 x203000_27 x203001_27 x203002_27) = some (r1, r2, r3, r4) := by rw [if_neg (show ¬ (false = true) by decide)] at H; exact H
                                clear H
                                have H := H1
                                clear H1
                                have H' := Aside0.mk H
                                clear H
                                go_wp2
                                go_meet
                                case rel => exact ⟨_, (false), (by first | rfl | (simp; done) | (simp [*]; done)), H', ⟨by have := HJ3.out; have := HJ27.out; have := HJ38.out; have := HJ49.out; have := HJ84.out; first | omega | exact Nat.le_refl _⟩, ⟨by (with_reducible repeat (first | refine blk_drewN ?_ _ | refine blk_drew ?_ | refine blk_alloc ?_ _)); exact BK201.out⟩, ⟨by (with_reducible repeat (first | refine blk_drewN ?_ _ | refine blk_drew ?_ | refine blk_alloc ?_ _)); exact BK202.out⟩, ⟨by (with_reducible repeat (first | refine blk_drewN ?_ _ | refine blk_drew ?_ | refine blk_alloc ?_ _)); exact BK203.out⟩, ⟨by repeat (first | (with_reducible first | exact HB.out | apply below_alloc | apply pw_below_drewN | apply below_drew1 | refine below_set ?_ GE201.out | refine below_set ?_ GE202.out | refine below_set ?_ GE203.out) | exact HB.out)⟩⟩
                            case rest => as_aux_lemma =>
                              clear HC104
                              try clear c1
                              try clear c2
                              try clear p2
                              try clear c3
                              try clear c4
                              try clear c5
                              try clear c6
                              try clear c7
                              try clear c8
                              try clear c9
                              try clear c10
                              try clear c11
                              try clear c12
                              try clear c13
                              try clear c15
                              try clear c18
                              try clear c19
                              try clear c21
                              try clear c22
                              try clear c25
                              try clear c26
                              try clear c29
                              try clear c30
                              try clear c32
                              try clear c32b0
                              try clear c32b1
                              try clear c33
                              try clear c34
                              try clear c35
                              try clear c36
                              try clear c37
                              try clear c38
                              try clear c40
                              try clear c41
                              try clear c43
                              try clear c43b0
                              try clear c43b1
                              try clear c45
                              try clear c46
                              try clear c51
                              try clear c51b0
                              try clear c51b1
                              try clear c52
                              try clear c52b0
                              try clear c52b1
                              try clear c53
                              try clear c54
                              try clear c56
                              try clear c58
                              try clear c59
                              try clear c61
                              try clear c63
                              try clear c63b0
                              try clear c64
                              try clear c65
                              try clear c67
                              try clear c68
                              try clear c70
                              try clear c71
                              try clear c72
                              try clear c76
                              try clear c77
                              try clear c79
                              try clear c83
                              try clear c83b0
                              try clear c83b1
                              try clear c86
                              try clear c87
                              try clear c89
                              try clear c91
                              try clear c91b0
                              try clear c91b1
                              try clear c92
                              try clear c92b0
                              try clear c93
                              try clear c94
                              try clear c96
                              try clear c98
                              try clear c99
                              try clear c101
                              try clear c105
                              try clear c106
                              try clear c106b0
                              try clear c106b1
                              try clear c107
                              try clear c107b0
                              try clear c107b1
                              try clear c108
                              try clear c108b0
                              try clear c108b1
                              try clear c109
                              try clear c110
                              try clear c112
                              try clear c112b0
                              try clear c112b1
                              try clear c113
                              try clear c114
                              try clear c116
                              try clear c117
                              try clear hcz100_0
                              try clear hcz100_1
                              try clear hcz100_2
                              try clear hcz102_0
                              try clear hcz102_1
                              try clear hcz102_2
                              try clear hcz111_0
                              try clear hcz111_1
                              try clear hcz111_2
                              try clear hcz115_0
                              try clear hcz115_1
                              try clear hcz115_2
                              try clear hcz118_0
                              try clear hcz118_1
                              try clear hcz118_2
                              try clear hcz13_0
                              try clear hcz13_1
                              try clear hcz13_2
                              try clear hcz16_0
                              try clear hcz16_1
                              try clear hcz16_2
                              try clear hcz20_0
                              try clear hcz20_1
                              try clear hcz20_2
                              try clear hcz27_0
                              try clear hcz27_1
                              try clear hcz27_2
                              try clear hcz31_0
                              try clear hcz31_1
                              try clear hcz31_2
                              try clear hcz36_0
                              try clear hcz36_1
                              try clear hcz36_2
                              try clear hcz38_0
                              try clear hcz38_1
                              try clear hcz38_2
                              try clear hcz42_0
                              try clear hcz42_1
                              try clear hcz42_2
                              try clear hcz47_0
                              try clear hcz47_1
                              try clear hcz47_2
                              try clear hcz49_0
                              try clear hcz49_1
                              try clear hcz49_2
                              try clear hcz55_0
                              try clear hcz55_1
                              try clear hcz55_2
                              try clear hcz57_0
                              try clear hcz57_1
                              try clear hcz57_2
                              try clear hcz60_0
                              try clear hcz60_1
                              try clear hcz60_2
                              try clear hcz66_0
                              try clear hcz66_1
                              try clear hcz66_2
                              try clear hcz69_0
                              try clear hcz69_1
                              try clear hcz69_2
                              try clear hcz73_0
                              try clear hcz73_1
                              try clear hcz73_2
                              try clear hcz78_0
                              try clear hcz78_1
                              try clear hcz78_2
                              try clear hcz80_0
                              try clear hcz80_1
                              try clear hcz80_2
                              try clear hcz82_0
                              try clear hcz82_1
                              try clear hcz82_2
                              try clear hcz88_0
                              try clear hcz88_1
                              try clear hcz88_2
                              try clear hcz90_0
                              try clear hcz90_1
                              try clear hcz90_2
                              try clear hcz95_0
                              try clear hcz95_1
                              try clear hcz95_2
                              try clear hcz97_0
                              try clear hcz97_1
                              try clear hcz97_2
                              try clear hfz100_0
                              try clear hfz100_1
                              try clear hfz100_2
                              try clear hfz102_0
                              try clear hfz102_1
                              try clear hfz102_2
                              try clear hfz111_0
                              try clear hfz111_1
                              try clear hfz111_2
                              try clear hfz115_0
                              try clear hfz115_1
                              try clear hfz115_2
                              try clear hfz118_0
                              try clear hfz118_1
                              try clear hfz118_2
                              try clear hfz13_0
                              try clear hfz13_1
                              try clear hfz13_2
                              try clear hfz16_0
                              try clear hfz16_1
                              try clear hfz16_2
                              try clear hfz20_0
                              try clear hfz20_1
                              try clear hfz20_2
                              try clear hfz27_0
                              try clear hfz27_1
                              try clear hfz27_2
                              try clear hfz31_0
                              try clear hfz31_1
                              try clear hfz31_2
                              try clear hfz36_0
                              try clear hfz36_1
                              try clear hfz36_2
                              try clear hfz38_0
                              try clear hfz38_1
                              try clear hfz38_2
                              try clear hfz42_0
                              try clear hfz42_1
                              try clear hfz42_2
                              try clear hfz47_0
                              try clear hfz47_1
                              try clear hfz47_2
                              try clear hfz49_0
                              try clear hfz49_1
                              try clear hfz49_2
                              try clear hfz55_0
                              try clear hfz55_1
                              try clear hfz55_2
                              try clear hfz57_0
                              try clear hfz57_1
                              try clear hfz57_2
                              try clear hfz60_0
                              try clear hfz60_1
                              try clear hfz60_2
                              try clear hfz66_0
                              try clear hfz66_1
                              try clear hfz66_2
                              try clear hfz69_0
                              try clear hfz69_1
                              try clear hfz69_2
                              try clear hfz73_0
                              try clear hfz73_1
                              try clear hfz73_2
                              try clear hfz78_0
                              try clear hfz78_1
                              try clear hfz78_2
                              try clear hfz80_0
                              try clear hfz80_1
                              try clear hfz80_2
                              try clear hfz82_0
                              try clear hfz82_1
                              try clear hfz82_2
                              try clear hfz88_0
                              try clear hfz88_1
                              try clear hfz88_2
                              try clear hfz90_0
                              try clear hfz90_1
                              try clear hfz90_2
                              try clear hfz95_0
                              try clear hfz95_1
                              try clear hfz95_2
                              try clear hfz97_0
                              try clear hfz97_1
                              try clear hfz97_2
                              try clear p2
                              obtain ⟨kq, x117_103, rfl, HA, HJ103, BK201, BK202, BK203, HB⟩ := hcut
                              cases kq with
                              | zero => exact absurd HA.out (by simp [spinetref12_Two.j6])
                              | succ kj103 =>
                                have H := HA.out
                                clear HA
                                simp only [spinetref12_Two.j6] at H
                                by_cases c119 : x117_103 = true
                                · subst c119
                                  have H1 : ((spinetref12_truth.f t226).bind fun bt228 => (some (bt228.1, bt228.2.1, bt228.2.2.1, bt228.2.2.2))) = some (r1, r2, r3, r4) := by rw [if_pos rfl] at H; exact H
                                  clear H
                                  have H := H1
                                  clear H1
                                  replace H := Option.bind_eq_some_iff.mp H
                                  obtain ⟨⟨t228, t229, t230, t231⟩, A1200, H⟩ := H
                                  replace H : (some (t228, t229, t230, t231)) = some (r1, r2, r3, r4) := H
                                  have A120 := Aside0.mk A1200
                                  clear A1200
                                  simp only [Option.some.injEq, Prod.mk.injEq] at H
                                  obtain ⟨rfl, rfl, rfl, rfl⟩ := H
                                  go_wp2_with (first | ((with_reducible refine gate_callee (f := 35) rfl ?_); refine goesL_ (some 119) rfl rfl Try.func35 (by kernel_rfl) rfl #[.bool t226] rfl (by (try simp only [List.map_toArray, List.map_cons, List.map_nil]); first | done | rfl | (simp only [List.length_drop, List.length_take]; rfl)) ?_; (with_reducible refine (spinetref12_truth.calls t226 t228 t229 t230 t231 _ A120.out).mono ?_); rintro e w121 ⟨rfl, hb⟩; refine ⟨_, rfl, ?_⟩; have n0_ := Aside0.mk (blk_below (g := gb201) (o := .cells #[.int .i64 x202000_38, .int .i64 x202001_38, .string x202002_38] 23 (0, 0)) (by (with_reducible repeat (first | refine blk_drewN ?_ _ | refine blk_drew ?_ | refine blk_alloc ?_ _)); exact BK201.out) hb); have n1_ := Aside0.mk (blk_below (g := gb202) (o := .cells #[.int .i64 x203000_27, .int .i64 x203001_27, .string x203002_27] 23 (0, 0)) (by (with_reducible repeat (first | refine blk_drewN ?_ _ | refine blk_drew ?_ | refine blk_alloc ?_ _)); exact BK202.out) hb); have n2_ := Aside0.mk (blk_below (g := gb203) (o := .cells #[.int .i64 0, .int .i64 0, .string (⟨#[]⟩ : ByteArray)] 23 (0, 0)) (by (with_reducible repeat (first | refine blk_drewN ?_ _ | refine blk_drew ?_ | refine blk_alloc ?_ _)); exact BK203.out) hb); have n3_ := Aside0.mk (below_step (by repeat (first | (with_reducible first | exact HB.out | apply below_alloc | apply pw_below_drewN | apply below_drew1 | refine below_set ?_ GE201.out | refine below_set ?_ GE202.out | refine below_set ?_ GE203.out) | exact HB.out)) hb); clear BK201; clear BK202; clear BK203; clear HB; have BK201 := n0_; have BK202 := n1_; have BK203 := n2_; have HB := n3_; clear n0_ n1_ n2_ n3_; (try clear hb); (try clear hb2); (try clear hk); (try clear hi); have hnb122 := NB203_201.out; have hnc122 := NB201_203.out; have hnb123 := NB203_202.out; have hnc123 := NB202_203.out; have hcz124_0 : w121.cell? ⟨gb203, 0, none⟩ = some (.int .i64 0) := (blk_cell BK203.out 0).trans rfl; have hcz124_1 : w121.cell? ⟨gb203, 1, none⟩ = some (.int .i64 0) := (blk_cell BK203.out 1).trans rfl; have hcz124_2 : w121.cell? ⟨gb203, 2, none⟩ = some (.string (⟨#[]⟩ : ByteArray)) := (blk_cell BK203.out 2).trans rfl; have hfz124_0 := blk_frozen BK203.out 0; have hfz124_1 := blk_frozen BK203.out 1; have hfz124_2 := blk_frozen BK203.out 2))
                                  refine bodyPost_ret (results_ct rfl _ _ gb203 23 #[.int .i64 t228, .int .i64 t229, .string t230] (0, 0) _ rfl (by (with_reducible repeat (first | refine blk_drewN ?_ _ | refine blk_drew ?_ | refine blk_alloc ?_ _)); refine blk_put (cs := #[.int .i64 t228, .int .i64 t229, .string (⟨#[]⟩ : ByteArray)]) ?_ 2 _ rfl; (with_reducible repeat (first | refine blk_drewN ?_ _ | refine blk_drew ?_ | refine blk_alloc ?_ _)); refine blk_put (cs := #[.int .i64 t228, .int .i64 0, .string (⟨#[]⟩ : ByteArray)]) ?_ 1 _ rfl; (with_reducible repeat (first | refine blk_drewN ?_ _ | refine blk_drew ?_ | refine blk_alloc ?_ _)); refine blk_put (cs := #[.int .i64 0, .int .i64 0, .string (⟨#[]⟩ : ByteArray)]) ?_ 0 _ rfl; (with_reducible repeat (first | refine blk_drewN ?_ _ | refine blk_drew ?_ | refine blk_alloc ?_ _)); exact BK203.out) Try.underlying23 rfl (by kernel_rfl)) rfl ?_
                                  exact ⟨by first | rfl | (simp [errW_none, errW_some] <;> rfl) | (simp [*, errW_none, errW_some] <;> rfl), by repeat (first | (with_reducible first | exact HB.out | apply below_alloc | apply pw_below_drewN | apply below_drew1 | refine below_set ?_ GE201.out | refine below_set ?_ GE202.out | refine below_set ?_ GE203.out) | exact HB.out)⟩
                                · replace c119 := Bool.eq_false_iff.mpr c119
                                  subst c119
                                  have H1 : (if x202000_38 = 1 then ((spinetref12_ints.f kj103 a0 x202001_38 x203001_27).bind fun bt232 => (some (bt232.1, bt232.2.1, bt232.2.2.1, bt232.2.2.2))) else (if x202000_38 = 4 then ((spinetref12_SetOp.f a0 ((x202001_38) % 4294967296) ((x203001_27) % 4294967296)).bind fun bt236 => (if bt236.2 = true then ((spinetref12_set.f bt236.1).bind fun bt238 => (some (bt238.1, bt238.2.1, bt238.2.2.1, bt238.2.2.2))) else ((spinetref12_none.f).bind fun bt242 => (some (bt242.1, bt242.2.1, bt242.2.2.1, bt242.2.2.2))))) else (if x202000_38 = 2 then (if a0.toList = ([38] : List UInt8) then (if x202001_38 = 1 then ((spinetref12_truth.f (x203001_27 == 1)).bind fun bt246 => (some (bt246.1, bt246.2.1, bt246.2.2.1, bt246.2.2.2))) else ((spinetref12_truth.f false).bind fun bt250 => (some (bt250.1, bt250.2.1, bt250.2.2.1, bt250.2.2.2)))) else (if a0.toList = ([79, 82] : List UInt8) then (if x202001_38 = 1 then ((spinetref12_truth.f true).bind fun bt254 => (some (bt254.1, bt254.2.1, bt254.2.2.1, bt254.2.2.2))) else ((spinetref12_truth.f (x203001_27 == 1)).bind fun bt258 => (some (bt258.1, bt258.2.1, bt258.2.2.1, bt258.2.2.2)))) else ((spinetref12_none.f).bind fun bt262 => (some (bt262.1, bt262.2.1, bt262.2.2.1, bt262.2.2.2))))) else ((spinetref12_none.f).bind fun bt266 => (some (bt266.1, bt266.2.1, bt266.2.2.1, bt266.2.2.2)))))) = some (r1, r2, r3, r4) := by rw [if_neg (show ¬ (false = true) by decide)] at H; exact H
                                  clear H
                                  have H := H1
                                  clear H1
                                  by_cases c125 : x202000_38 = 1
                                  · rw [if_pos c125] at H
                                    have c125b0 : (x202000_38 == 1) = true := beq_iff_eq.mpr c125
                                    have c125b1 : (x202000_38 != 1) = false := bne_eq_false_iff_eq.mpr c125
                                    clear c125
                                    replace H := Option.bind_eq_some_iff.mp H
                                    obtain ⟨⟨t232, t233, t234, t235⟩, A1260, H⟩ := H
                                    replace H : (some (t232, t233, t234, t235)) = some (r1, r2, r3, r4) := H
                                    have A126 := Aside0.mk A1260
                                    clear A1260
                                    simp only [Option.some.injEq, Prod.mk.injEq] at H
                                    obtain ⟨rfl, rfl, rfl, rfl⟩ := H
                                    have hnb127 := NB201_202.out
                                    have hnc127 := NB202_201.out
                                    have hnb128 := NB201_203.out
                                    have hnc128 := NB203_201.out
                                    have hcz129_0 : wc.cell? ⟨gb201, 0, none⟩ = some (.int .i64 x202000_38) := (blk_cell BK201.out 0).trans rfl
                                    have hcz129_1 : wc.cell? ⟨gb201, 1, none⟩ = some (.int .i64 x202001_38) := (blk_cell BK201.out 1).trans rfl
                                    have hcz129_2 : wc.cell? ⟨gb201, 2, none⟩ = some (.string x202002_38) := (blk_cell BK201.out 2).trans rfl
                                    have hfz129_0 := blk_frozen BK201.out 0
                                    have hfz129_1 := blk_frozen BK201.out 1
                                    have hfz129_2 := blk_frozen BK201.out 2
                                    have hnb130 := NB202_203.out
                                    have hnc130 := NB203_202.out
                                    have hcz131_0 : wc.cell? ⟨gb202, 0, none⟩ = some (.int .i64 x203000_27) := (blk_cell BK202.out 0).trans rfl
                                    have hcz131_1 : wc.cell? ⟨gb202, 1, none⟩ = some (.int .i64 x203001_27) := (blk_cell BK202.out 1).trans rfl
                                    have hcz131_2 : wc.cell? ⟨gb202, 2, none⟩ = some (.string x203002_27) := (blk_cell BK202.out 2).trans rfl
                                    have hfz131_0 := blk_frozen BK202.out 0
                                    have hfz131_1 := blk_frozen BK202.out 1
                                    have hfz131_2 := blk_frozen BK202.out 2
                                    go_wp2_with (first | ((with_reducible refine gate_callee (f := 39) rfl ?_); refine goesL_ (some 131) rfl rfl Try.func39 (by kernel_rfl) rfl #[.string a0, .int .i64 x202001_38, .int .i64 x203001_27] rfl (by (try simp only [List.map_toArray, List.map_cons, List.map_nil]); first | done | rfl | (simp only [List.length_drop, List.length_take]; rfl)) ?_; (with_reducible refine (spinetref12_ints.calls kj103 a0 x202001_38 x203001_27 t232 t233 t234 t235 _ A126.out).mono ?_); rintro e w132 ⟨rfl, hb⟩; refine ⟨_, rfl, ?_⟩; have n0_ := Aside0.mk (blk_below (g := gb201) (o := .cells #[.int .i64 x202000_38, .int .i64 x202001_38, .string x202002_38] 23 (0, 0)) (by (with_reducible repeat (first | refine blk_drewN ?_ _ | refine blk_drew ?_ | refine blk_alloc ?_ _)); exact BK201.out) hb); have n1_ := Aside0.mk (blk_below (g := gb202) (o := .cells #[.int .i64 x203000_27, .int .i64 x203001_27, .string x203002_27] 23 (0, 0)) (by (with_reducible repeat (first | refine blk_drewN ?_ _ | refine blk_drew ?_ | refine blk_alloc ?_ _)); exact BK202.out) hb); have n2_ := Aside0.mk (blk_below (g := gb203) (o := .cells #[.int .i64 0, .int .i64 0, .string (⟨#[]⟩ : ByteArray)] 23 (0, 0)) (by (with_reducible repeat (first | refine blk_drewN ?_ _ | refine blk_drew ?_ | refine blk_alloc ?_ _)); exact BK203.out) hb); have n3_ := Aside0.mk (below_step (by repeat (first | (with_reducible first | exact HB.out | apply below_alloc | apply pw_below_drewN | apply below_drew1 | refine below_set ?_ GE201.out | refine below_set ?_ GE202.out | refine below_set ?_ GE203.out) | exact HB.out)) hb); clear BK201; clear BK202; clear BK203; clear HB; have BK201 := n0_; have BK202 := n1_; have BK203 := n2_; have HB := n3_; clear n0_ n1_ n2_ n3_; (try clear hb); (try clear hb2); (try clear hk); (try clear hi); have hcz133_0 : w132.cell? ⟨gb203, 0, none⟩ = some (.int .i64 0) := (blk_cell BK203.out 0).trans rfl; have hcz133_1 : w132.cell? ⟨gb203, 1, none⟩ = some (.int .i64 0) := (blk_cell BK203.out 1).trans rfl; have hcz133_2 : w132.cell? ⟨gb203, 2, none⟩ = some (.string (⟨#[]⟩ : ByteArray)) := (blk_cell BK203.out 2).trans rfl; have hfz133_0 := blk_frozen BK203.out 0; have hfz133_1 := blk_frozen BK203.out 1; have hfz133_2 := blk_frozen BK203.out 2))
                                    refine bodyPost_ret (results_ct rfl _ _ gb203 23 #[.int .i64 t232, .int .i64 t233, .string t234] (0, 0) _ rfl (by (with_reducible repeat (first | refine blk_drewN ?_ _ | refine blk_drew ?_ | refine blk_alloc ?_ _)); refine blk_put (cs := #[.int .i64 t232, .int .i64 t233, .string (⟨#[]⟩ : ByteArray)]) ?_ 2 _ rfl; (with_reducible repeat (first | refine blk_drewN ?_ _ | refine blk_drew ?_ | refine blk_alloc ?_ _)); refine blk_put (cs := #[.int .i64 t232, .int .i64 0, .string (⟨#[]⟩ : ByteArray)]) ?_ 1 _ rfl; (with_reducible repeat (first | refine blk_drewN ?_ _ | refine blk_drew ?_ | refine blk_alloc ?_ _)); refine blk_put (cs := #[.int .i64 0, .int .i64 0, .string (⟨#[]⟩ : ByteArray)]) ?_ 0 _ rfl; (with_reducible repeat (first | refine blk_drewN ?_ _ | refine blk_drew ?_ | refine blk_alloc ?_ _)); exact BK203.out) Try.underlying23 rfl (by kernel_rfl)) rfl ?_
                                    exact ⟨by first | rfl | (simp [errW_none, errW_some] <;> rfl) | (simp [*, errW_none, errW_some] <;> rfl), by repeat (first | (with_reducible first | exact HB.out | apply below_alloc | apply pw_below_drewN | apply below_drew1 | refine below_set ?_ GE201.out | refine below_set ?_ GE202.out | refine below_set ?_ GE203.out) | exact HB.out)⟩
                                  · rw [if_neg c125] at H
                                    have c125b0 : (x202000_38 == 1) = false := beq_eq_false_iff_ne.mpr c125
                                    have c125b1 : (x202000_38 != 1) = true := bne_iff_ne.mpr c125
                                    by_cases c134 : x202000_38 = 4
                                    · rw [if_pos c134] at H
                                      have c134b0 : (x202000_38 == 4) = true := beq_iff_eq.mpr c134
                                      have c134b1 : (x202000_38 != 4) = false := bne_eq_false_iff_eq.mpr c134
                                      clear c134
                                      replace H := Option.bind_eq_some_iff.mp H
                                      obtain ⟨⟨t236, t237⟩, A1350, H⟩ := H
                                      replace H : (if t237 = true then ((spinetref12_set.f t236).bind fun bt238 => (some (bt238.1, bt238.2.1, bt238.2.2.1, bt238.2.2.2))) else ((spinetref12_none.f).bind fun bt242 => (some (bt242.1, bt242.2.1, bt242.2.2.1, bt242.2.2.2)))) = some (r1, r2, r3, r4) := H
                                      have A135 := Aside0.mk A1350
                                      clear A1350
                                      by_cases c136 : t237 = true
                                      · subst c136
                                        have H1 : ((spinetref12_set.f t236).bind fun bt238 => (some (bt238.1, bt238.2.1, bt238.2.2.1, bt238.2.2.2))) = some (r1, r2, r3, r4) := by rw [if_pos rfl] at H; exact H
                                        clear H
                                        have H := H1
                                        clear H1
                                        replace H := Option.bind_eq_some_iff.mp H
                                        obtain ⟨⟨t238, t239, t240, t241⟩, A1370, H⟩ := H
                                        replace H : (some (t238, t239, t240, t241)) = some (r1, r2, r3, r4) := H
                                        have A137 := Aside0.mk A1370
                                        clear A1370
                                        simp only [Option.some.injEq, Prod.mk.injEq] at H
                                        obtain ⟨rfl, rfl, rfl, rfl⟩ := H
                                        have hnb138 := NB201_202.out
                                        have hnc138 := NB202_201.out
                                        have hnb139 := NB201_203.out
                                        have hnc139 := NB203_201.out
                                        have hcz140_0 : wc.cell? ⟨gb201, 0, none⟩ = some (.int .i64 x202000_38) := (blk_cell BK201.out 0).trans rfl
                                        have hcz140_1 : wc.cell? ⟨gb201, 1, none⟩ = some (.int .i64 x202001_38) := (blk_cell BK201.out 1).trans rfl
                                        have hcz140_2 : wc.cell? ⟨gb201, 2, none⟩ = some (.string x202002_38) := (blk_cell BK201.out 2).trans rfl
                                        have hfz140_0 := blk_frozen BK201.out 0
                                        have hfz140_1 := blk_frozen BK201.out 1
                                        have hfz140_2 := blk_frozen BK201.out 2
                                        have hnb141 := NB202_203.out
                                        have hnc141 := NB203_202.out
                                        have hcz142_0 : wc.cell? ⟨gb202, 0, none⟩ = some (.int .i64 x203000_27) := (blk_cell BK202.out 0).trans rfl
                                        have hcz142_1 : wc.cell? ⟨gb202, 1, none⟩ = some (.int .i64 x203001_27) := (blk_cell BK202.out 1).trans rfl
                                        have hcz142_2 : wc.cell? ⟨gb202, 2, none⟩ = some (.string x203002_27) := (blk_cell BK202.out 2).trans rfl
                                        have hfz142_0 := blk_frozen BK202.out 0
                                        have hfz142_1 := blk_frozen BK202.out 1
                                        have hfz142_2 := blk_frozen BK202.out 2
                                        go_wp2_with (first | ((with_reducible refine gate_callee (f := 40) rfl ?_); refine goesL_ (some 144) rfl rfl Try.func40 (by kernel_rfl) rfl #[.string a0, .int .u32 ((x202001_38) % 4294967296), .int .u32 ((x203001_27) % 4294967296)] rfl (by (try simp only [List.map_toArray, List.map_cons, List.map_nil]); first | done | rfl | (simp only [List.length_drop, List.length_take]; rfl)) ?_; (with_reducible refine (spinetref12_SetOp.calls a0 ((x202001_38) % 4294967296) ((x203001_27) % 4294967296) t236 true _ A135.out).mono ?_); rintro e w' ⟨rfl, ⟨nd, rfl⟩⟩; refine ⟨_, rfl, ?_⟩; (try (rw [drewN_self wc]; generalize hq_ : World.drewN wc _ = wc; have n0_ : Aside0 (wc.heap[gb201]? = some (.cells #[.int .i64 x202000_38, .int .i64 x202001_38, .string x202002_38] 23 (0, 0))) := ⟨by rw [← hq_]; exact (by (with_reducible repeat (first | refine blk_drewN ?_ _ | refine blk_drew ?_ | refine blk_alloc ?_ _)); exact BK201.out)⟩; have n1_ : Aside0 (wc.heap[gb202]? = some (.cells #[.int .i64 x203000_27, .int .i64 x203001_27, .string x203002_27] 23 (0, 0))) := ⟨by rw [← hq_]; exact (by (with_reducible repeat (first | refine blk_drewN ?_ _ | refine blk_drew ?_ | refine blk_alloc ?_ _)); exact BK202.out)⟩; have n2_ : Aside0 (wc.heap[gb203]? = some (.cells #[.int .i64 0, .int .i64 0, .string (⟨#[]⟩ : ByteArray)] 23 (0, 0))) := ⟨by rw [← hq_]; exact (by (with_reducible repeat (first | refine blk_drewN ?_ _ | refine blk_drew ?_ | refine blk_alloc ?_ _)); exact BK203.out)⟩; have n3_ : Aside0 (Below w.heap.size w wc) := ⟨by rw [← hq_]; exact (by repeat (first | (with_reducible first | exact HB.out | apply below_alloc | apply pw_below_drewN | apply below_drew1 | refine below_set ?_ GE201.out | refine below_set ?_ GE202.out | refine below_set ?_ GE203.out) | exact HB.out))⟩; clear BK201 BK202 BK203 HB hq_; have BK201 := n0_; have BK202 := n1_; have BK203 := n2_; have HB := n3_; clear n0_ n1_ n2_ n3_))) | ((with_reducible refine gate_callee (f := 41) rfl ?_); refine goesL_ (some 149) rfl rfl Try.func41 (by kernel_rfl) rfl #[.int .u32 t236] rfl (by (try simp only [List.map_toArray, List.map_cons, List.map_nil]); first | done | rfl | (simp only [List.length_drop, List.length_take]; rfl)) ?_; (with_reducible refine (spinetref12_set.calls t236 t238 t239 t240 t241 _ A137.out).mono ?_); rintro e w143 ⟨rfl, hb⟩; refine ⟨_, rfl, ?_⟩; have n0_ := Aside0.mk (blk_below (g := gb201) (o := .cells #[.int .i64 x202000_38, .int .i64 x202001_38, .string x202002_38] 23 (0, 0)) (by (with_reducible repeat (first | refine blk_drewN ?_ _ | refine blk_drew ?_ | refine blk_alloc ?_ _)); exact BK201.out) hb); have n1_ := Aside0.mk (blk_below (g := gb202) (o := .cells #[.int .i64 x203000_27, .int .i64 x203001_27, .string x203002_27] 23 (0, 0)) (by (with_reducible repeat (first | refine blk_drewN ?_ _ | refine blk_drew ?_ | refine blk_alloc ?_ _)); exact BK202.out) hb); have n2_ := Aside0.mk (blk_below (g := gb203) (o := .cells #[.int .i64 0, .int .i64 0, .string (⟨#[]⟩ : ByteArray)] 23 (0, 0)) (by (with_reducible repeat (first | refine blk_drewN ?_ _ | refine blk_drew ?_ | refine blk_alloc ?_ _)); exact BK203.out) hb); have n3_ := Aside0.mk (below_step (by repeat (first | (with_reducible first | exact HB.out | apply below_alloc | apply pw_below_drewN | apply below_drew1 | refine below_set ?_ GE201.out | refine below_set ?_ GE202.out | refine below_set ?_ GE203.out) | exact HB.out)) hb); clear BK201; clear BK202; clear BK203; clear HB; have BK201 := n0_; have BK202 := n1_; have BK203 := n2_; have HB := n3_; clear n0_ n1_ n2_ n3_; (try clear hb); (try clear hb2); (try clear hk); (try clear hi); have hcz144_0 : w143.cell? ⟨gb203, 0, none⟩ = some (.int .i64 0) := (blk_cell BK203.out 0).trans rfl; have hcz144_1 : w143.cell? ⟨gb203, 1, none⟩ = some (.int .i64 0) := (blk_cell BK203.out 1).trans rfl; have hcz144_2 : w143.cell? ⟨gb203, 2, none⟩ = some (.string (⟨#[]⟩ : ByteArray)) := (blk_cell BK203.out 2).trans rfl; have hfz144_0 := blk_frozen BK203.out 0; have hfz144_1 := blk_frozen BK203.out 1; have hfz144_2 := blk_frozen BK203.out 2))
                                        refine bodyPost_ret (results_ct rfl _ _ gb203 23 #[.int .i64 t238, .int .i64 t239, .string t240] (0, 0) _ rfl (by (with_reducible repeat (first | refine blk_drewN ?_ _ | refine blk_drew ?_ | refine blk_alloc ?_ _)); refine blk_put (cs := #[.int .i64 t238, .int .i64 t239, .string (⟨#[]⟩ : ByteArray)]) ?_ 2 _ rfl; (with_reducible repeat (first | refine blk_drewN ?_ _ | refine blk_drew ?_ | refine blk_alloc ?_ _)); refine blk_put (cs := #[.int .i64 t238, .int .i64 0, .string (⟨#[]⟩ : ByteArray)]) ?_ 1 _ rfl; (with_reducible repeat (first | refine blk_drewN ?_ _ | refine blk_drew ?_ | refine blk_alloc ?_ _)); refine blk_put (cs := #[.int .i64 0, .int .i64 0, .string (⟨#[]⟩ : ByteArray)]) ?_ 0 _ rfl; (with_reducible repeat (first | refine blk_drewN ?_ _ | refine blk_drew ?_ | refine blk_alloc ?_ _)); exact BK203.out) Try.underlying23 rfl (by kernel_rfl)) rfl ?_
                                        exact ⟨by first | rfl | (simp [errW_none, errW_some] <;> rfl) | (simp [*, errW_none, errW_some] <;> rfl), by repeat (first | (with_reducible first | exact HB.out | apply below_alloc | apply pw_below_drewN | apply below_drew1 | refine below_set ?_ GE201.out | refine below_set ?_ GE202.out | refine below_set ?_ GE203.out) | exact HB.out)⟩
                                      · replace c136 := Bool.eq_false_iff.mpr c136
                                        subst c136
                                        have H1 : ((spinetref12_none.f).bind fun bt242 => (some (bt242.1, bt242.2.1, bt242.2.2.1, bt242.2.2.2))) = some (r1, r2, r3, r4) := by rw [if_neg (show ¬ (false = true) by decide)] at H; exact H
                                        clear H
                                        have H := H1
                                        clear H1
                                        replace H := Option.bind_eq_some_iff.mp H
                                        obtain ⟨⟨t242, t243, t244, t245⟩, A1450, H⟩ := H
                                        replace H : (some (t242, t243, t244, t245)) = some (r1, r2, r3, r4) := H
                                        have A145 := Aside0.mk A1450
                                        clear A1450
                                        simp only [Option.some.injEq, Prod.mk.injEq] at H
                                        obtain ⟨rfl, rfl, rfl, rfl⟩ := H
                                        have hnb146 := NB201_202.out
                                        have hnc146 := NB202_201.out
                                        have hnb147 := NB201_203.out
                                        have hnc147 := NB203_201.out
                                        have hcz148_0 : wc.cell? ⟨gb201, 0, none⟩ = some (.int .i64 x202000_38) := (blk_cell BK201.out 0).trans rfl
                                        have hcz148_1 : wc.cell? ⟨gb201, 1, none⟩ = some (.int .i64 x202001_38) := (blk_cell BK201.out 1).trans rfl
                                        have hcz148_2 : wc.cell? ⟨gb201, 2, none⟩ = some (.string x202002_38) := (blk_cell BK201.out 2).trans rfl
                                        have hfz148_0 := blk_frozen BK201.out 0
                                        have hfz148_1 := blk_frozen BK201.out 1
                                        have hfz148_2 := blk_frozen BK201.out 2
                                        have hnb149 := NB202_203.out
                                        have hnc149 := NB203_202.out
                                        have hcz150_0 : wc.cell? ⟨gb202, 0, none⟩ = some (.int .i64 x203000_27) := (blk_cell BK202.out 0).trans rfl
                                        have hcz150_1 : wc.cell? ⟨gb202, 1, none⟩ = some (.int .i64 x203001_27) := (blk_cell BK202.out 1).trans rfl
                                        have hcz150_2 : wc.cell? ⟨gb202, 2, none⟩ = some (.string x203002_27) := (blk_cell BK202.out 2).trans rfl
                                        have hfz150_0 := blk_frozen BK202.out 0
                                        have hfz150_1 := blk_frozen BK202.out 1
                                        have hfz150_2 := blk_frozen BK202.out 2
                                        go_wp2_with (first | ((with_reducible refine gate_callee (f := 40) rfl ?_); refine goesL_ (some 144) rfl rfl Try.func40 (by kernel_rfl) rfl #[.string a0, .int .u32 ((x202001_38) % 4294967296), .int .u32 ((x203001_27) % 4294967296)] rfl (by (try simp only [List.map_toArray, List.map_cons, List.map_nil]); first | done | rfl | (simp only [List.length_drop, List.length_take]; rfl)) ?_; (with_reducible refine (spinetref12_SetOp.calls a0 ((x202001_38) % 4294967296) ((x203001_27) % 4294967296) t236 false _ A135.out).mono ?_); rintro e w' ⟨rfl, ⟨nd, rfl⟩⟩; refine ⟨_, rfl, ?_⟩; (try (rw [drewN_self wc]; generalize hq_ : World.drewN wc _ = wc; have n0_ : Aside0 (wc.heap[gb201]? = some (.cells #[.int .i64 x202000_38, .int .i64 x202001_38, .string x202002_38] 23 (0, 0))) := ⟨by rw [← hq_]; exact (by (with_reducible repeat (first | refine blk_drewN ?_ _ | refine blk_drew ?_ | refine blk_alloc ?_ _)); exact BK201.out)⟩; have n1_ : Aside0 (wc.heap[gb202]? = some (.cells #[.int .i64 x203000_27, .int .i64 x203001_27, .string x203002_27] 23 (0, 0))) := ⟨by rw [← hq_]; exact (by (with_reducible repeat (first | refine blk_drewN ?_ _ | refine blk_drew ?_ | refine blk_alloc ?_ _)); exact BK202.out)⟩; have n2_ : Aside0 (wc.heap[gb203]? = some (.cells #[.int .i64 0, .int .i64 0, .string (⟨#[]⟩ : ByteArray)] 23 (0, 0))) := ⟨by rw [← hq_]; exact (by (with_reducible repeat (first | refine blk_drewN ?_ _ | refine blk_drew ?_ | refine blk_alloc ?_ _)); exact BK203.out)⟩; have n3_ : Aside0 (Below w.heap.size w wc) := ⟨by rw [← hq_]; exact (by repeat (first | (with_reducible first | exact HB.out | apply below_alloc | apply pw_below_drewN | apply below_drew1 | refine below_set ?_ GE201.out | refine below_set ?_ GE202.out | refine below_set ?_ GE203.out) | exact HB.out))⟩; clear BK201 BK202 BK203 HB hq_; have BK201 := n0_; have BK202 := n1_; have BK203 := n2_; have HB := n3_; clear n0_ n1_ n2_ n3_))) | ((with_reducible refine gate_callee (f := 33) rfl ?_); refine goesL_ (some 180) rfl rfl Try.func33 (by kernel_rfl) rfl #[] rfl (by (try simp only [List.map_toArray, List.map_cons, List.map_nil]); first | done | rfl | (simp only [List.length_drop, List.length_take]; rfl)) ?_; (with_reducible refine (spinetref12_none.calls  t242 t243 t244 t245 _ A145.out).mono ?_); rintro e w151 ⟨rfl, hb⟩; refine ⟨_, rfl, ?_⟩; have n0_ := Aside0.mk (blk_below (g := gb201) (o := .cells #[.int .i64 x202000_38, .int .i64 x202001_38, .string x202002_38] 23 (0, 0)) (by (with_reducible repeat (first | refine blk_drewN ?_ _ | refine blk_drew ?_ | refine blk_alloc ?_ _)); exact BK201.out) hb); have n1_ := Aside0.mk (blk_below (g := gb202) (o := .cells #[.int .i64 x203000_27, .int .i64 x203001_27, .string x203002_27] 23 (0, 0)) (by (with_reducible repeat (first | refine blk_drewN ?_ _ | refine blk_drew ?_ | refine blk_alloc ?_ _)); exact BK202.out) hb); have n2_ := Aside0.mk (blk_below (g := gb203) (o := .cells #[.int .i64 0, .int .i64 0, .string (⟨#[]⟩ : ByteArray)] 23 (0, 0)) (by (with_reducible repeat (first | refine blk_drewN ?_ _ | refine blk_drew ?_ | refine blk_alloc ?_ _)); exact BK203.out) hb); have n3_ := Aside0.mk (below_step (by repeat (first | (with_reducible first | exact HB.out | apply below_alloc | apply pw_below_drewN | apply below_drew1 | refine below_set ?_ GE201.out | refine below_set ?_ GE202.out | refine below_set ?_ GE203.out) | exact HB.out)) hb); clear BK201; clear BK202; clear BK203; clear HB; have BK201 := n0_; have BK202 := n1_; have BK203 := n2_; have HB := n3_; clear n0_ n1_ n2_ n3_; (try clear hb); (try clear hb2); (try clear hk); (try clear hi); have hcz152_0 : w151.cell? ⟨gb203, 0, none⟩ = some (.int .i64 0) := (blk_cell BK203.out 0).trans rfl; have hcz152_1 : w151.cell? ⟨gb203, 1, none⟩ = some (.int .i64 0) := (blk_cell BK203.out 1).trans rfl; have hcz152_2 : w151.cell? ⟨gb203, 2, none⟩ = some (.string (⟨#[]⟩ : ByteArray)) := (blk_cell BK203.out 2).trans rfl; have hfz152_0 := blk_frozen BK203.out 0; have hfz152_1 := blk_frozen BK203.out 1; have hfz152_2 := blk_frozen BK203.out 2))
                                        refine bodyPost_ret (results_ct rfl _ _ gb203 23 #[.int .i64 t242, .int .i64 t243, .string t244] (0, 0) _ rfl (by (with_reducible repeat (first | refine blk_drewN ?_ _ | refine blk_drew ?_ | refine blk_alloc ?_ _)); refine blk_put (cs := #[.int .i64 t242, .int .i64 t243, .string (⟨#[]⟩ : ByteArray)]) ?_ 2 _ rfl; (with_reducible repeat (first | refine blk_drewN ?_ _ | refine blk_drew ?_ | refine blk_alloc ?_ _)); refine blk_put (cs := #[.int .i64 t242, .int .i64 0, .string (⟨#[]⟩ : ByteArray)]) ?_ 1 _ rfl; (with_reducible repeat (first | refine blk_drewN ?_ _ | refine blk_drew ?_ | refine blk_alloc ?_ _)); refine blk_put (cs := #[.int .i64 0, .int .i64 0, .string (⟨#[]⟩ : ByteArray)]) ?_ 0 _ rfl; (with_reducible repeat (first | refine blk_drewN ?_ _ | refine blk_drew ?_ | refine blk_alloc ?_ _)); exact BK203.out) Try.underlying23 rfl (by kernel_rfl)) rfl ?_
                                        exact ⟨by first | rfl | (simp [errW_none, errW_some] <;> rfl) | (simp [*, errW_none, errW_some] <;> rfl), by repeat (first | (with_reducible first | exact HB.out | apply below_alloc | apply pw_below_drewN | apply below_drew1 | refine below_set ?_ GE201.out | refine below_set ?_ GE202.out | refine below_set ?_ GE203.out) | exact HB.out)⟩
                                    · rw [if_neg c134] at H
                                      have c134b0 : (x202000_38 == 4) = false := beq_eq_false_iff_ne.mpr c134
                                      have c134b1 : (x202000_38 != 4) = true := bne_iff_ne.mpr c134
                                      by_cases c153 : x202000_38 = 2
                                      · rw [if_pos c153] at H
                                        have c153b0 : (x202000_38 == 2) = true := beq_iff_eq.mpr c153
                                        have c153b1 : (x202000_38 != 2) = false := bne_eq_false_iff_eq.mpr c153
                                        clear c153
                                        by_cases c154 : a0.toList = ([38] : List UInt8)
                                        · rw [if_pos c154] at H
                                          have c154b0 : (a0.toList == ([38] : List UInt8)) = true := beq_iff_eq.mpr c154
                                          have c154b1 : (a0.toList != ([38] : List UInt8)) = false := bne_eq_false_iff_eq.mpr c154
                                          clear c154
                                          by_cases c155 : x202001_38 = 1
                                          · rw [if_pos c155] at H
                                            have c155b0 : (x202001_38 == 1) = true := beq_iff_eq.mpr c155
                                            have c155b1 : (x202001_38 != 1) = false := bne_eq_false_iff_eq.mpr c155
                                            clear c155
                                            replace H := Option.bind_eq_some_iff.mp H
                                            obtain ⟨⟨t246, t247, t248, t249⟩, A1560, H⟩ := H
                                            replace H : (some (t246, t247, t248, t249)) = some (r1, r2, r3, r4) := H
                                            have A156 := Aside0.mk A1560
                                            clear A1560
                                            simp only [Option.some.injEq, Prod.mk.injEq] at H
                                            obtain ⟨rfl, rfl, rfl, rfl⟩ := H
                                            have hnb157 := NB201_202.out
                                            have hnc157 := NB202_201.out
                                            have hnb158 := NB201_203.out
                                            have hnc158 := NB203_201.out
                                            have hcz159_0 : wc.cell? ⟨gb201, 0, none⟩ = some (.int .i64 x202000_38) := (blk_cell BK201.out 0).trans rfl
                                            have hcz159_1 : wc.cell? ⟨gb201, 1, none⟩ = some (.int .i64 x202001_38) := (blk_cell BK201.out 1).trans rfl
                                            have hcz159_2 : wc.cell? ⟨gb201, 2, none⟩ = some (.string x202002_38) := (blk_cell BK201.out 2).trans rfl
                                            have hfz159_0 := blk_frozen BK201.out 0
                                            have hfz159_1 := blk_frozen BK201.out 1
                                            have hfz159_2 := blk_frozen BK201.out 2
                                            have hnb160 := NB202_203.out
                                            have hnc160 := NB203_202.out
                                            have hcz161_0 : wc.cell? ⟨gb202, 0, none⟩ = some (.int .i64 x203000_27) := (blk_cell BK202.out 0).trans rfl
                                            have hcz161_1 : wc.cell? ⟨gb202, 1, none⟩ = some (.int .i64 x203001_27) := (blk_cell BK202.out 1).trans rfl
                                            have hcz161_2 : wc.cell? ⟨gb202, 2, none⟩ = some (.string x203002_27) := (blk_cell BK202.out 2).trans rfl
                                            have hfz161_0 := blk_frozen BK202.out 0
                                            have hfz161_1 := blk_frozen BK202.out 1
                                            have hfz161_2 := blk_frozen BK202.out 2
                                            go_wp2_with (first | ((with_reducible refine gate_callee (f := 35) rfl ?_); refine goesL_ (some 164) rfl rfl Try.func35 (by kernel_rfl) rfl #[.bool (x203001_27 == 1)] rfl (by (try simp only [List.map_toArray, List.map_cons, List.map_nil]); first | done | rfl | (simp only [List.length_drop, List.length_take]; rfl)) ?_; (with_reducible refine (spinetref12_truth.calls (x203001_27 == 1) t246 t247 t248 t249 _ A156.out).mono ?_); rintro e w162 ⟨rfl, hb⟩; refine ⟨_, rfl, ?_⟩; have n0_ := Aside0.mk (blk_below (g := gb201) (o := .cells #[.int .i64 x202000_38, .int .i64 x202001_38, .string x202002_38] 23 (0, 0)) (by (with_reducible repeat (first | refine blk_drewN ?_ _ | refine blk_drew ?_ | refine blk_alloc ?_ _)); exact BK201.out) hb); have n1_ := Aside0.mk (blk_below (g := gb202) (o := .cells #[.int .i64 x203000_27, .int .i64 x203001_27, .string x203002_27] 23 (0, 0)) (by (with_reducible repeat (first | refine blk_drewN ?_ _ | refine blk_drew ?_ | refine blk_alloc ?_ _)); exact BK202.out) hb); have n2_ := Aside0.mk (blk_below (g := gb203) (o := .cells #[.int .i64 0, .int .i64 0, .string (⟨#[]⟩ : ByteArray)] 23 (0, 0)) (by (with_reducible repeat (first | refine blk_drewN ?_ _ | refine blk_drew ?_ | refine blk_alloc ?_ _)); exact BK203.out) hb); have n3_ := Aside0.mk (below_step (by repeat (first | (with_reducible first | exact HB.out | apply below_alloc | apply pw_below_drewN | apply below_drew1 | refine below_set ?_ GE201.out | refine below_set ?_ GE202.out | refine below_set ?_ GE203.out) | exact HB.out)) hb); clear BK201; clear BK202; clear BK203; clear HB; have BK201 := n0_; have BK202 := n1_; have BK203 := n2_; have HB := n3_; clear n0_ n1_ n2_ n3_; (try clear hb); (try clear hb2); (try clear hk); (try clear hi); have hcz163_0 : w162.cell? ⟨gb203, 0, none⟩ = some (.int .i64 0) := (blk_cell BK203.out 0).trans rfl; have hcz163_1 : w162.cell? ⟨gb203, 1, none⟩ = some (.int .i64 0) := (blk_cell BK203.out 1).trans rfl; have hcz163_2 : w162.cell? ⟨gb203, 2, none⟩ = some (.string (⟨#[]⟩ : ByteArray)) := (blk_cell BK203.out 2).trans rfl; have hfz163_0 := blk_frozen BK203.out 0; have hfz163_1 := blk_frozen BK203.out 1; have hfz163_2 := blk_frozen BK203.out 2))
                                            refine bodyPost_ret (results_ct rfl _ _ gb203 23 #[.int .i64 t246, .int .i64 t247, .string t248] (0, 0) _ rfl (by (with_reducible repeat (first | refine blk_drewN ?_ _ | refine blk_drew ?_ | refine blk_alloc ?_ _)); refine blk_put (cs := #[.int .i64 t246, .int .i64 t247, .string (⟨#[]⟩ : ByteArray)]) ?_ 2 _ rfl; (with_reducible repeat (first | refine blk_drewN ?_ _ | refine blk_drew ?_ | refine blk_alloc ?_ _)); refine blk_put (cs := #[.int .i64 t246, .int .i64 0, .string (⟨#[]⟩ : ByteArray)]) ?_ 1 _ rfl; (with_reducible repeat (first | refine blk_drewN ?_ _ | refine blk_drew ?_ | refine blk_alloc ?_ _)); refine blk_put (cs := #[.int .i64 0, .int .i64 0, .string (⟨#[]⟩ : ByteArray)]) ?_ 0 _ rfl; (with_reducible repeat (first | refine blk_drewN ?_ _ | refine blk_drew ?_ | refine blk_alloc ?_ _)); exact BK203.out) Try.underlying23 rfl (by kernel_rfl)) rfl ?_
                                            exact ⟨by first | rfl | (simp [errW_none, errW_some] <;> rfl) | (simp [*, errW_none, errW_some] <;> rfl), by repeat (first | (with_reducible first | exact HB.out | apply below_alloc | apply pw_below_drewN | apply below_drew1 | refine below_set ?_ GE201.out | refine below_set ?_ GE202.out | refine below_set ?_ GE203.out) | exact HB.out)⟩
                                          · rw [if_neg c155] at H
                                            have c155b0 : (x202001_38 == 1) = false := beq_eq_false_iff_ne.mpr c155
                                            have c155b1 : (x202001_38 != 1) = true := bne_iff_ne.mpr c155
                                            replace H := Option.bind_eq_some_iff.mp H
                                            obtain ⟨⟨t250, t251, t252, t253⟩, A1640, H⟩ := H
                                            replace H : (some (t250, t251, t252, t253)) = some (r1, r2, r3, r4) := H
                                            have A164 := Aside0.mk A1640
                                            clear A1640
                                            simp only [Option.some.injEq, Prod.mk.injEq] at H
                                            obtain ⟨rfl, rfl, rfl, rfl⟩ := H
                                            have hnb165 := NB201_202.out
                                            have hnc165 := NB202_201.out
                                            have hnb166 := NB201_203.out
                                            have hnc166 := NB203_201.out
                                            have hcz167_0 : wc.cell? ⟨gb201, 0, none⟩ = some (.int .i64 x202000_38) := (blk_cell BK201.out 0).trans rfl
                                            have hcz167_1 : wc.cell? ⟨gb201, 1, none⟩ = some (.int .i64 x202001_38) := (blk_cell BK201.out 1).trans rfl
                                            have hcz167_2 : wc.cell? ⟨gb201, 2, none⟩ = some (.string x202002_38) := (blk_cell BK201.out 2).trans rfl
                                            have hfz167_0 := blk_frozen BK201.out 0
                                            have hfz167_1 := blk_frozen BK201.out 1
                                            have hfz167_2 := blk_frozen BK201.out 2
                                            go_wp2_with (first | ((with_reducible refine gate_callee (f := 35) rfl ?_); refine goesL_ (some 164) rfl rfl Try.func35 (by kernel_rfl) rfl #[.bool false] rfl (by (try simp only [List.map_toArray, List.map_cons, List.map_nil]); first | done | rfl | (simp only [List.length_drop, List.length_take]; rfl)) ?_; (with_reducible refine (spinetref12_truth.calls false t250 t251 t252 t253 _ A164.out).mono ?_); rintro e w168 ⟨rfl, hb⟩; refine ⟨_, rfl, ?_⟩; have n0_ := Aside0.mk (blk_below (g := gb201) (o := .cells #[.int .i64 x202000_38, .int .i64 x202001_38, .string x202002_38] 23 (0, 0)) (by (with_reducible repeat (first | refine blk_drewN ?_ _ | refine blk_drew ?_ | refine blk_alloc ?_ _)); exact BK201.out) hb); have n1_ := Aside0.mk (blk_below (g := gb202) (o := .cells #[.int .i64 x203000_27, .int .i64 x203001_27, .string x203002_27] 23 (0, 0)) (by (with_reducible repeat (first | refine blk_drewN ?_ _ | refine blk_drew ?_ | refine blk_alloc ?_ _)); exact BK202.out) hb); have n2_ := Aside0.mk (blk_below (g := gb203) (o := .cells #[.int .i64 0, .int .i64 0, .string (⟨#[]⟩ : ByteArray)] 23 (0, 0)) (by (with_reducible repeat (first | refine blk_drewN ?_ _ | refine blk_drew ?_ | refine blk_alloc ?_ _)); exact BK203.out) hb); have n3_ := Aside0.mk (below_step (by repeat (first | (with_reducible first | exact HB.out | apply below_alloc | apply pw_below_drewN | apply below_drew1 | refine below_set ?_ GE201.out | refine below_set ?_ GE202.out | refine below_set ?_ GE203.out) | exact HB.out)) hb); clear BK201; clear BK202; clear BK203; clear HB; have BK201 := n0_; have BK202 := n1_; have BK203 := n2_; have HB := n3_; clear n0_ n1_ n2_ n3_; (try clear hb); (try clear hb2); (try clear hk); (try clear hi); have hnb169 := NB203_202.out; have hnc169 := NB202_203.out; have hcz170_0 : w168.cell? ⟨gb203, 0, none⟩ = some (.int .i64 0) := (blk_cell BK203.out 0).trans rfl; have hcz170_1 : w168.cell? ⟨gb203, 1, none⟩ = some (.int .i64 0) := (blk_cell BK203.out 1).trans rfl; have hcz170_2 : w168.cell? ⟨gb203, 2, none⟩ = some (.string (⟨#[]⟩ : ByteArray)) := (blk_cell BK203.out 2).trans rfl; have hfz170_0 := blk_frozen BK203.out 0; have hfz170_1 := blk_frozen BK203.out 1; have hfz170_2 := blk_frozen BK203.out 2))
                                            refine bodyPost_ret (results_ct rfl _ _ gb203 23 #[.int .i64 t250, .int .i64 t251, .string t252] (0, 0) _ rfl (by (with_reducible repeat (first | refine blk_drewN ?_ _ | refine blk_drew ?_ | refine blk_alloc ?_ _)); refine blk_put (cs := #[.int .i64 t250, .int .i64 t251, .string (⟨#[]⟩ : ByteArray)]) ?_ 2 _ rfl; (with_reducible repeat (first | refine blk_drewN ?_ _ | refine blk_drew ?_ | refine blk_alloc ?_ _)); refine blk_put (cs := #[.int .i64 t250, .int .i64 0, .string (⟨#[]⟩ : ByteArray)]) ?_ 1 _ rfl; (with_reducible repeat (first | refine blk_drewN ?_ _ | refine blk_drew ?_ | refine blk_alloc ?_ _)); refine blk_put (cs := #[.int .i64 0, .int .i64 0, .string (⟨#[]⟩ : ByteArray)]) ?_ 0 _ rfl; (with_reducible repeat (first | refine blk_drewN ?_ _ | refine blk_drew ?_ | refine blk_alloc ?_ _)); exact BK203.out) Try.underlying23 rfl (by kernel_rfl)) rfl ?_
                                            exact ⟨by first | rfl | (simp [errW_none, errW_some] <;> rfl) | (simp [*, errW_none, errW_some] <;> rfl), by repeat (first | (with_reducible first | exact HB.out | apply below_alloc | apply pw_below_drewN | apply below_drew1 | refine below_set ?_ GE201.out | refine below_set ?_ GE202.out | refine below_set ?_ GE203.out) | exact HB.out)⟩
                                        · rw [if_neg c154] at H
                                          have c154b0 : (a0.toList == ([38] : List UInt8)) = false := beq_eq_false_iff_ne.mpr c154
                                          have c154b1 : (a0.toList != ([38] : List UInt8)) = true := bne_iff_ne.mpr c154
                                          by_cases c171 : a0.toList = ([79, 82] : List UInt8)
                                          · rw [if_pos c171] at H
                                            have c171b0 : (a0.toList == ([79, 82] : List UInt8)) = true := beq_iff_eq.mpr c171
                                            have c171b1 : (a0.toList != ([79, 82] : List UInt8)) = false := bne_eq_false_iff_eq.mpr c171
                                            clear c171
                                            by_cases c172 : x202001_38 = 1
                                            · rw [if_pos c172] at H
                                              have c172b0 : (x202001_38 == 1) = true := beq_iff_eq.mpr c172
                                              have c172b1 : (x202001_38 != 1) = false := bne_eq_false_iff_eq.mpr c172
                                              clear c172
                                              replace H := Option.bind_eq_some_iff.mp H
                                              obtain ⟨⟨t254, t255, t256, t257⟩, A1730, H⟩ := H
                                              replace H : (some (t254, t255, t256, t257)) = some (r1, r2, r3, r4) := H
                                              have A173 := Aside0.mk A1730
                                              clear A1730
                                              simp only [Option.some.injEq, Prod.mk.injEq] at H
                                              obtain ⟨rfl, rfl, rfl, rfl⟩ := H
                                              have hnb174 := NB201_202.out
                                              have hnc174 := NB202_201.out
                                              have hnb175 := NB201_203.out
                                              have hnc175 := NB203_201.out
                                              have hcz176_0 : wc.cell? ⟨gb201, 0, none⟩ = some (.int .i64 x202000_38) := (blk_cell BK201.out 0).trans rfl
                                              have hcz176_1 : wc.cell? ⟨gb201, 1, none⟩ = some (.int .i64 x202001_38) := (blk_cell BK201.out 1).trans rfl
                                              have hcz176_2 : wc.cell? ⟨gb201, 2, none⟩ = some (.string x202002_38) := (blk_cell BK201.out 2).trans rfl
                                              have hfz176_0 := blk_frozen BK201.out 0
                                              have hfz176_1 := blk_frozen BK201.out 1
                                              have hfz176_2 := blk_frozen BK201.out 2
                                              go_wp2_with (first | ((with_reducible refine gate_callee (f := 35) rfl ?_); refine goesL_ (some 177) rfl rfl Try.func35 (by kernel_rfl) rfl #[.bool true] rfl (by (try simp only [List.map_toArray, List.map_cons, List.map_nil]); first | done | rfl | (simp only [List.length_drop, List.length_take]; rfl)) ?_; (with_reducible refine (spinetref12_truth.calls true t254 t255 t256 t257 _ A173.out).mono ?_); rintro e w177 ⟨rfl, hb⟩; refine ⟨_, rfl, ?_⟩; have n0_ := Aside0.mk (blk_below (g := gb201) (o := .cells #[.int .i64 x202000_38, .int .i64 x202001_38, .string x202002_38] 23 (0, 0)) (by (with_reducible repeat (first | refine blk_drewN ?_ _ | refine blk_drew ?_ | refine blk_alloc ?_ _)); exact BK201.out) hb); have n1_ := Aside0.mk (blk_below (g := gb202) (o := .cells #[.int .i64 x203000_27, .int .i64 x203001_27, .string x203002_27] 23 (0, 0)) (by (with_reducible repeat (first | refine blk_drewN ?_ _ | refine blk_drew ?_ | refine blk_alloc ?_ _)); exact BK202.out) hb); have n2_ := Aside0.mk (blk_below (g := gb203) (o := .cells #[.int .i64 0, .int .i64 0, .string (⟨#[]⟩ : ByteArray)] 23 (0, 0)) (by (with_reducible repeat (first | refine blk_drewN ?_ _ | refine blk_drew ?_ | refine blk_alloc ?_ _)); exact BK203.out) hb); have n3_ := Aside0.mk (below_step (by repeat (first | (with_reducible first | exact HB.out | apply below_alloc | apply pw_below_drewN | apply below_drew1 | refine below_set ?_ GE201.out | refine below_set ?_ GE202.out | refine below_set ?_ GE203.out) | exact HB.out)) hb); clear BK201; clear BK202; clear BK203; clear HB; have BK201 := n0_; have BK202 := n1_; have BK203 := n2_; have HB := n3_; clear n0_ n1_ n2_ n3_; (try clear hb); (try clear hb2); (try clear hk); (try clear hi); have hnb178 := NB203_202.out; have hnc178 := NB202_203.out; have hcz179_0 : w177.cell? ⟨gb203, 0, none⟩ = some (.int .i64 0) := (blk_cell BK203.out 0).trans rfl; have hcz179_1 : w177.cell? ⟨gb203, 1, none⟩ = some (.int .i64 0) := (blk_cell BK203.out 1).trans rfl; have hcz179_2 : w177.cell? ⟨gb203, 2, none⟩ = some (.string (⟨#[]⟩ : ByteArray)) := (blk_cell BK203.out 2).trans rfl; have hfz179_0 := blk_frozen BK203.out 0; have hfz179_1 := blk_frozen BK203.out 1; have hfz179_2 := blk_frozen BK203.out 2))
                                              refine bodyPost_ret (results_ct rfl _ _ gb203 23 #[.int .i64 t254, .int .i64 t255, .string t256] (0, 0) _ rfl (by (with_reducible repeat (first | refine blk_drewN ?_ _ | refine blk_drew ?_ | refine blk_alloc ?_ _)); refine blk_put (cs := #[.int .i64 t254, .int .i64 t255, .string (⟨#[]⟩ : ByteArray)]) ?_ 2 _ rfl; (with_reducible repeat (first | refine blk_drewN ?_ _ | refine blk_drew ?_ | refine blk_alloc ?_ _)); refine blk_put (cs := #[.int .i64 t254, .int .i64 0, .string (⟨#[]⟩ : ByteArray)]) ?_ 1 _ rfl; (with_reducible repeat (first | refine blk_drewN ?_ _ | refine blk_drew ?_ | refine blk_alloc ?_ _)); refine blk_put (cs := #[.int .i64 0, .int .i64 0, .string (⟨#[]⟩ : ByteArray)]) ?_ 0 _ rfl; (with_reducible repeat (first | refine blk_drewN ?_ _ | refine blk_drew ?_ | refine blk_alloc ?_ _)); exact BK203.out) Try.underlying23 rfl (by kernel_rfl)) rfl ?_
                                              exact ⟨by first | rfl | (simp [errW_none, errW_some] <;> rfl) | (simp [*, errW_none, errW_some] <;> rfl), by repeat (first | (with_reducible first | exact HB.out | apply below_alloc | apply pw_below_drewN | apply below_drew1 | refine below_set ?_ GE201.out | refine below_set ?_ GE202.out | refine below_set ?_ GE203.out) | exact HB.out)⟩
                                            · rw [if_neg c172] at H
                                              have c172b0 : (x202001_38 == 1) = false := beq_eq_false_iff_ne.mpr c172
                                              have c172b1 : (x202001_38 != 1) = true := bne_iff_ne.mpr c172
                                              replace H := Option.bind_eq_some_iff.mp H
                                              obtain ⟨⟨t258, t259, t260, t261⟩, A1800, H⟩ := H
                                              replace H : (some (t258, t259, t260, t261)) = some (r1, r2, r3, r4) := H
                                              have A180 := Aside0.mk A1800
                                              clear A1800
                                              simp only [Option.some.injEq, Prod.mk.injEq] at H
                                              obtain ⟨rfl, rfl, rfl, rfl⟩ := H
                                              have hnb181 := NB201_202.out
                                              have hnc181 := NB202_201.out
                                              have hnb182 := NB201_203.out
                                              have hnc182 := NB203_201.out
                                              have hcz183_0 : wc.cell? ⟨gb201, 0, none⟩ = some (.int .i64 x202000_38) := (blk_cell BK201.out 0).trans rfl
                                              have hcz183_1 : wc.cell? ⟨gb201, 1, none⟩ = some (.int .i64 x202001_38) := (blk_cell BK201.out 1).trans rfl
                                              have hcz183_2 : wc.cell? ⟨gb201, 2, none⟩ = some (.string x202002_38) := (blk_cell BK201.out 2).trans rfl
                                              have hfz183_0 := blk_frozen BK201.out 0
                                              have hfz183_1 := blk_frozen BK201.out 1
                                              have hfz183_2 := blk_frozen BK201.out 2
                                              have hnb184 := NB202_203.out
                                              have hnc184 := NB203_202.out
                                              have hcz185_0 : wc.cell? ⟨gb202, 0, none⟩ = some (.int .i64 x203000_27) := (blk_cell BK202.out 0).trans rfl
                                              have hcz185_1 : wc.cell? ⟨gb202, 1, none⟩ = some (.int .i64 x203001_27) := (blk_cell BK202.out 1).trans rfl
                                              have hcz185_2 : wc.cell? ⟨gb202, 2, none⟩ = some (.string x203002_27) := (blk_cell BK202.out 2).trans rfl
                                              have hfz185_0 := blk_frozen BK202.out 0
                                              have hfz185_1 := blk_frozen BK202.out 1
                                              have hfz185_2 := blk_frozen BK202.out 2
                                              go_wp2_with (first | ((with_reducible refine gate_callee (f := 35) rfl ?_); refine goesL_ (some 177) rfl rfl Try.func35 (by kernel_rfl) rfl #[.bool (x203001_27 == 1)] rfl (by (try simp only [List.map_toArray, List.map_cons, List.map_nil]); first | done | rfl | (simp only [List.length_drop, List.length_take]; rfl)) ?_; (with_reducible refine (spinetref12_truth.calls (x203001_27 == 1) t258 t259 t260 t261 _ A180.out).mono ?_); rintro e w186 ⟨rfl, hb⟩; refine ⟨_, rfl, ?_⟩; have n0_ := Aside0.mk (blk_below (g := gb201) (o := .cells #[.int .i64 x202000_38, .int .i64 x202001_38, .string x202002_38] 23 (0, 0)) (by (with_reducible repeat (first | refine blk_drewN ?_ _ | refine blk_drew ?_ | refine blk_alloc ?_ _)); exact BK201.out) hb); have n1_ := Aside0.mk (blk_below (g := gb202) (o := .cells #[.int .i64 x203000_27, .int .i64 x203001_27, .string x203002_27] 23 (0, 0)) (by (with_reducible repeat (first | refine blk_drewN ?_ _ | refine blk_drew ?_ | refine blk_alloc ?_ _)); exact BK202.out) hb); have n2_ := Aside0.mk (blk_below (g := gb203) (o := .cells #[.int .i64 0, .int .i64 0, .string (⟨#[]⟩ : ByteArray)] 23 (0, 0)) (by (with_reducible repeat (first | refine blk_drewN ?_ _ | refine blk_drew ?_ | refine blk_alloc ?_ _)); exact BK203.out) hb); have n3_ := Aside0.mk (below_step (by repeat (first | (with_reducible first | exact HB.out | apply below_alloc | apply pw_below_drewN | apply below_drew1 | refine below_set ?_ GE201.out | refine below_set ?_ GE202.out | refine below_set ?_ GE203.out) | exact HB.out)) hb); clear BK201; clear BK202; clear BK203; clear HB; have BK201 := n0_; have BK202 := n1_; have BK203 := n2_; have HB := n3_; clear n0_ n1_ n2_ n3_; (try clear hb); (try clear hb2); (try clear hk); (try clear hi); have hcz187_0 : w186.cell? ⟨gb203, 0, none⟩ = some (.int .i64 0) := (blk_cell BK203.out 0).trans rfl; have hcz187_1 : w186.cell? ⟨gb203, 1, none⟩ = some (.int .i64 0) := (blk_cell BK203.out 1).trans rfl; have hcz187_2 : w186.cell? ⟨gb203, 2, none⟩ = some (.string (⟨#[]⟩ : ByteArray)) := (blk_cell BK203.out 2).trans rfl; have hfz187_0 := blk_frozen BK203.out 0; have hfz187_1 := blk_frozen BK203.out 1; have hfz187_2 := blk_frozen BK203.out 2))
                                              refine bodyPost_ret (results_ct rfl _ _ gb203 23 #[.int .i64 t258, .int .i64 t259, .string t260] (0, 0) _ rfl (by (with_reducible repeat (first | refine blk_drewN ?_ _ | refine blk_drew ?_ | refine blk_alloc ?_ _)); refine blk_put (cs := #[.int .i64 t258, .int .i64 t259, .string (⟨#[]⟩ : ByteArray)]) ?_ 2 _ rfl; (with_reducible repeat (first | refine blk_drewN ?_ _ | refine blk_drew ?_ | refine blk_alloc ?_ _)); refine blk_put (cs := #[.int .i64 t258, .int .i64 0, .string (⟨#[]⟩ : ByteArray)]) ?_ 1 _ rfl; (with_reducible repeat (first | refine blk_drewN ?_ _ | refine blk_drew ?_ | refine blk_alloc ?_ _)); refine blk_put (cs := #[.int .i64 0, .int .i64 0, .string (⟨#[]⟩ : ByteArray)]) ?_ 0 _ rfl; (with_reducible repeat (first | refine blk_drewN ?_ _ | refine blk_drew ?_ | refine blk_alloc ?_ _)); exact BK203.out) Try.underlying23 rfl (by kernel_rfl)) rfl ?_
                                              exact ⟨by first | rfl | (simp [errW_none, errW_some] <;> rfl) | (simp [*, errW_none, errW_some] <;> rfl), by repeat (first | (with_reducible first | exact HB.out | apply below_alloc | apply pw_below_drewN | apply below_drew1 | refine below_set ?_ GE201.out | refine below_set ?_ GE202.out | refine below_set ?_ GE203.out) | exact HB.out)⟩
                                          · rw [if_neg c171] at H
                                            have c171b0 : (a0.toList == ([79, 82] : List UInt8)) = false := beq_eq_false_iff_ne.mpr c171
                                            have c171b1 : (a0.toList != ([79, 82] : List UInt8)) = true := bne_iff_ne.mpr c171
                                            replace H := Option.bind_eq_some_iff.mp H
                                            obtain ⟨⟨t262, t263, t264, t265⟩, A1880, H⟩ := H
                                            replace H : (some (t262, t263, t264, t265)) = some (r1, r2, r3, r4) := H
                                            have A188 := Aside0.mk A1880
                                            clear A1880
                                            simp only [Option.some.injEq, Prod.mk.injEq] at H
                                            obtain ⟨rfl, rfl, rfl, rfl⟩ := H
                                            have hnb189 := NB201_202.out
                                            have hnc189 := NB202_201.out
                                            have hnb190 := NB201_203.out
                                            have hnc190 := NB203_201.out
                                            have hcz191_0 : wc.cell? ⟨gb201, 0, none⟩ = some (.int .i64 x202000_38) := (blk_cell BK201.out 0).trans rfl
                                            have hcz191_1 : wc.cell? ⟨gb201, 1, none⟩ = some (.int .i64 x202001_38) := (blk_cell BK201.out 1).trans rfl
                                            have hcz191_2 : wc.cell? ⟨gb201, 2, none⟩ = some (.string x202002_38) := (blk_cell BK201.out 2).trans rfl
                                            have hfz191_0 := blk_frozen BK201.out 0
                                            have hfz191_1 := blk_frozen BK201.out 1
                                            have hfz191_2 := blk_frozen BK201.out 2
                                            go_wp2_with (first | ((with_reducible refine gate_callee (f := 33) rfl ?_); refine goesL_ (some 180) rfl rfl Try.func33 (by kernel_rfl) rfl #[] rfl (by (try simp only [List.map_toArray, List.map_cons, List.map_nil]); first | done | rfl | (simp only [List.length_drop, List.length_take]; rfl)) ?_; (with_reducible refine (spinetref12_none.calls  t262 t263 t264 t265 _ A188.out).mono ?_); rintro e w192 ⟨rfl, hb⟩; refine ⟨_, rfl, ?_⟩; have n0_ := Aside0.mk (blk_below (g := gb201) (o := .cells #[.int .i64 x202000_38, .int .i64 x202001_38, .string x202002_38] 23 (0, 0)) (by (with_reducible repeat (first | refine blk_drewN ?_ _ | refine blk_drew ?_ | refine blk_alloc ?_ _)); exact BK201.out) hb); have n1_ := Aside0.mk (blk_below (g := gb202) (o := .cells #[.int .i64 x203000_27, .int .i64 x203001_27, .string x203002_27] 23 (0, 0)) (by (with_reducible repeat (first | refine blk_drewN ?_ _ | refine blk_drew ?_ | refine blk_alloc ?_ _)); exact BK202.out) hb); have n2_ := Aside0.mk (blk_below (g := gb203) (o := .cells #[.int .i64 0, .int .i64 0, .string (⟨#[]⟩ : ByteArray)] 23 (0, 0)) (by (with_reducible repeat (first | refine blk_drewN ?_ _ | refine blk_drew ?_ | refine blk_alloc ?_ _)); exact BK203.out) hb); have n3_ := Aside0.mk (below_step (by repeat (first | (with_reducible first | exact HB.out | apply below_alloc | apply pw_below_drewN | apply below_drew1 | refine below_set ?_ GE201.out | refine below_set ?_ GE202.out | refine below_set ?_ GE203.out) | exact HB.out)) hb); clear BK201; clear BK202; clear BK203; clear HB; have BK201 := n0_; have BK202 := n1_; have BK203 := n2_; have HB := n3_; clear n0_ n1_ n2_ n3_; (try clear hb); (try clear hb2); (try clear hk); (try clear hi); have hnb193 := NB203_202.out; have hnc193 := NB202_203.out; have hcz194_0 : w192.cell? ⟨gb203, 0, none⟩ = some (.int .i64 0) := (blk_cell BK203.out 0).trans rfl; have hcz194_1 : w192.cell? ⟨gb203, 1, none⟩ = some (.int .i64 0) := (blk_cell BK203.out 1).trans rfl; have hcz194_2 : w192.cell? ⟨gb203, 2, none⟩ = some (.string (⟨#[]⟩ : ByteArray)) := (blk_cell BK203.out 2).trans rfl; have hfz194_0 := blk_frozen BK203.out 0; have hfz194_1 := blk_frozen BK203.out 1; have hfz194_2 := blk_frozen BK203.out 2))
                                            refine bodyPost_ret (results_ct rfl _ _ gb203 23 #[.int .i64 t262, .int .i64 t263, .string t264] (0, 0) _ rfl (by (with_reducible repeat (first | refine blk_drewN ?_ _ | refine blk_drew ?_ | refine blk_alloc ?_ _)); refine blk_put (cs := #[.int .i64 t262, .int .i64 t263, .string (⟨#[]⟩ : ByteArray)]) ?_ 2 _ rfl; (with_reducible repeat (first | refine blk_drewN ?_ _ | refine blk_drew ?_ | refine blk_alloc ?_ _)); refine blk_put (cs := #[.int .i64 t262, .int .i64 0, .string (⟨#[]⟩ : ByteArray)]) ?_ 1 _ rfl; (with_reducible repeat (first | refine blk_drewN ?_ _ | refine blk_drew ?_ | refine blk_alloc ?_ _)); refine blk_put (cs := #[.int .i64 0, .int .i64 0, .string (⟨#[]⟩ : ByteArray)]) ?_ 0 _ rfl; (with_reducible repeat (first | refine blk_drewN ?_ _ | refine blk_drew ?_ | refine blk_alloc ?_ _)); exact BK203.out) Try.underlying23 rfl (by kernel_rfl)) rfl ?_
                                            exact ⟨by first | rfl | (simp [errW_none, errW_some] <;> rfl) | (simp [*, errW_none, errW_some] <;> rfl), by repeat (first | (with_reducible first | exact HB.out | apply below_alloc | apply pw_below_drewN | apply below_drew1 | refine below_set ?_ GE201.out | refine below_set ?_ GE202.out | refine below_set ?_ GE203.out) | exact HB.out)⟩
                                      · rw [if_neg c153] at H
                                        have c153b0 : (x202000_38 == 2) = false := beq_eq_false_iff_ne.mpr c153
                                        have c153b1 : (x202000_38 != 2) = true := bne_iff_ne.mpr c153
                                        replace H := Option.bind_eq_some_iff.mp H
                                        obtain ⟨⟨t266, t267, t268, t269⟩, A1950, H⟩ := H
                                        replace H : (some (t266, t267, t268, t269)) = some (r1, r2, r3, r4) := H
                                        have A195 := Aside0.mk A1950
                                        clear A1950
                                        simp only [Option.some.injEq, Prod.mk.injEq] at H
                                        obtain ⟨rfl, rfl, rfl, rfl⟩ := H
                                        have hnb196 := NB201_202.out
                                        have hnc196 := NB202_201.out
                                        have hnb197 := NB201_203.out
                                        have hnc197 := NB203_201.out
                                        have hcz198_0 : wc.cell? ⟨gb201, 0, none⟩ = some (.int .i64 x202000_38) := (blk_cell BK201.out 0).trans rfl
                                        have hcz198_1 : wc.cell? ⟨gb201, 1, none⟩ = some (.int .i64 x202001_38) := (blk_cell BK201.out 1).trans rfl
                                        have hcz198_2 : wc.cell? ⟨gb201, 2, none⟩ = some (.string x202002_38) := (blk_cell BK201.out 2).trans rfl
                                        have hfz198_0 := blk_frozen BK201.out 0
                                        have hfz198_1 := blk_frozen BK201.out 1
                                        have hfz198_2 := blk_frozen BK201.out 2
                                        go_wp2_with (first | ((with_reducible refine gate_callee (f := 33) rfl ?_); refine goesL_ (some 180) rfl rfl Try.func33 (by kernel_rfl) rfl #[] rfl (by (try simp only [List.map_toArray, List.map_cons, List.map_nil]); first | done | rfl | (simp only [List.length_drop, List.length_take]; rfl)) ?_; (with_reducible refine (spinetref12_none.calls  t266 t267 t268 t269 _ A195.out).mono ?_); rintro e w199 ⟨rfl, hb⟩; refine ⟨_, rfl, ?_⟩; have n0_ := Aside0.mk (blk_below (g := gb201) (o := .cells #[.int .i64 x202000_38, .int .i64 x202001_38, .string x202002_38] 23 (0, 0)) (by (with_reducible repeat (first | refine blk_drewN ?_ _ | refine blk_drew ?_ | refine blk_alloc ?_ _)); exact BK201.out) hb); have n1_ := Aside0.mk (blk_below (g := gb202) (o := .cells #[.int .i64 x203000_27, .int .i64 x203001_27, .string x203002_27] 23 (0, 0)) (by (with_reducible repeat (first | refine blk_drewN ?_ _ | refine blk_drew ?_ | refine blk_alloc ?_ _)); exact BK202.out) hb); have n2_ := Aside0.mk (blk_below (g := gb203) (o := .cells #[.int .i64 0, .int .i64 0, .string (⟨#[]⟩ : ByteArray)] 23 (0, 0)) (by (with_reducible repeat (first | refine blk_drewN ?_ _ | refine blk_drew ?_ | refine blk_alloc ?_ _)); exact BK203.out) hb); have n3_ := Aside0.mk (below_step (by repeat (first | (with_reducible first | exact HB.out | apply below_alloc | apply pw_below_drewN | apply below_drew1 | refine below_set ?_ GE201.out | refine below_set ?_ GE202.out | refine below_set ?_ GE203.out) | exact HB.out)) hb); clear BK201; clear BK202; clear BK203; clear HB; have BK201 := n0_; have BK202 := n1_; have BK203 := n2_; have HB := n3_; clear n0_ n1_ n2_ n3_; (try clear hb); (try clear hb2); (try clear hk); (try clear hi); have hnb200 := NB203_202.out; have hnc200 := NB202_203.out; have hcz201_0 : w199.cell? ⟨gb203, 0, none⟩ = some (.int .i64 0) := (blk_cell BK203.out 0).trans rfl; have hcz201_1 : w199.cell? ⟨gb203, 1, none⟩ = some (.int .i64 0) := (blk_cell BK203.out 1).trans rfl; have hcz201_2 : w199.cell? ⟨gb203, 2, none⟩ = some (.string (⟨#[]⟩ : ByteArray)) := (blk_cell BK203.out 2).trans rfl; have hfz201_0 := blk_frozen BK203.out 0; have hfz201_1 := blk_frozen BK203.out 1; have hfz201_2 := blk_frozen BK203.out 2))
                                        refine bodyPost_ret (results_ct rfl _ _ gb203 23 #[.int .i64 t266, .int .i64 t267, .string t268] (0, 0) _ rfl (by (with_reducible repeat (first | refine blk_drewN ?_ _ | refine blk_drew ?_ | refine blk_alloc ?_ _)); refine blk_put (cs := #[.int .i64 t266, .int .i64 t267, .string (⟨#[]⟩ : ByteArray)]) ?_ 2 _ rfl; (with_reducible repeat (first | refine blk_drewN ?_ _ | refine blk_drew ?_ | refine blk_alloc ?_ _)); refine blk_put (cs := #[.int .i64 t266, .int .i64 0, .string (⟨#[]⟩ : ByteArray)]) ?_ 1 _ rfl; (with_reducible repeat (first | refine blk_drewN ?_ _ | refine blk_drew ?_ | refine blk_alloc ?_ _)); refine blk_put (cs := #[.int .i64 0, .int .i64 0, .string (⟨#[]⟩ : ByteArray)]) ?_ 0 _ rfl; (with_reducible repeat (first | refine blk_drewN ?_ _ | refine blk_drew ?_ | refine blk_alloc ?_ _)); exact BK203.out) Try.underlying23 rfl (by kernel_rfl)) rfl ?_
                                        exact ⟨by first | rfl | (simp [errW_none, errW_some] <;> rfl) | (simp [*, errW_none, errW_some] <;> rfl), by repeat (first | (with_reducible first | exact HB.out | apply below_alloc | apply pw_below_drewN | apply below_drew1 | refine below_set ?_ GE201.out | refine below_set ?_ GE202.out | refine below_set ?_ GE203.out) | exact HB.out)⟩
                      · rw [if_neg c83] at H
                        have c83b0 : (x202000_38 == x203000_27) = false := beq_eq_false_iff_ne.mpr c83
                        have c83b1 : (x202000_38 != x203000_27) = true := bne_iff_ne.mpr c83
                        replace H := Option.bind_eq_some_iff.mp H
                        obtain ⟨⟨t221, t222, t223, t224⟩, A2020, H⟩ := H
                        replace H : (some (t221, t222, t223, t224)) = some (r1, r2, r3, r4) := H
                        have A202 := Aside0.mk A2020
                        clear A2020
                        simp only [Option.some.injEq, Prod.mk.injEq] at H
                        obtain ⟨rfl, rfl, rfl, rfl⟩ := H
                        have hnb203 := NB201_202.out
                        have hnc203 := NB202_201.out
                        have hnb204 := NB201_203.out
                        have hnc204 := NB203_201.out
                        have hcz205_0 : wc.cell? ⟨gb201, 0, none⟩ = some (.int .i64 x202000_38) := (blk_cell BK201.out 0).trans rfl
                        have hcz205_1 : wc.cell? ⟨gb201, 1, none⟩ = some (.int .i64 x202001_38) := (blk_cell BK201.out 1).trans rfl
                        have hcz205_2 : wc.cell? ⟨gb201, 2, none⟩ = some (.string x202002_38) := (blk_cell BK201.out 2).trans rfl
                        have hfz205_0 := blk_frozen BK201.out 0
                        have hfz205_1 := blk_frozen BK201.out 1
                        have hfz205_2 := blk_frozen BK201.out 2
                        have hnb206 := NB202_203.out
                        have hnc206 := NB203_202.out
                        have hcz207_0 : wc.cell? ⟨gb202, 0, none⟩ = some (.int .i64 x203000_27) := (blk_cell BK202.out 0).trans rfl
                        have hcz207_1 : wc.cell? ⟨gb202, 1, none⟩ = some (.int .i64 x203001_27) := (blk_cell BK202.out 1).trans rfl
                        have hcz207_2 : wc.cell? ⟨gb202, 2, none⟩ = some (.string x203002_27) := (blk_cell BK202.out 2).trans rfl
                        have hfz207_0 := blk_frozen BK202.out 0
                        have hfz207_1 := blk_frozen BK202.out 1
                        have hfz207_2 := blk_frozen BK202.out 2
                        go_wp2_with (first | ((with_reducible refine gate_callee (f := 33) rfl ?_); refine goesL_ (some 70) rfl rfl Try.func33 (by kernel_rfl) rfl #[] rfl (by (try simp only [List.map_toArray, List.map_cons, List.map_nil]); first | done | rfl | (simp only [List.length_drop, List.length_take]; rfl)) ?_; (with_reducible refine (spinetref12_none.calls  t221 t222 t223 t224 _ A202.out).mono ?_); rintro e w208 ⟨rfl, hb⟩; refine ⟨_, rfl, ?_⟩; have n0_ := Aside0.mk (blk_below (g := gb201) (o := .cells #[.int .i64 x202000_38, .int .i64 x202001_38, .string x202002_38] 23 (0, 0)) (by (with_reducible repeat (first | refine blk_drewN ?_ _ | refine blk_drew ?_ | refine blk_alloc ?_ _)); exact BK201.out) hb); have n1_ := Aside0.mk (blk_below (g := gb202) (o := .cells #[.int .i64 x203000_27, .int .i64 x203001_27, .string x203002_27] 23 (0, 0)) (by (with_reducible repeat (first | refine blk_drewN ?_ _ | refine blk_drew ?_ | refine blk_alloc ?_ _)); exact BK202.out) hb); have n2_ := Aside0.mk (blk_below (g := gb203) (o := .cells #[.int .i64 0, .int .i64 0, .string (⟨#[]⟩ : ByteArray)] 23 (0, 0)) (by (with_reducible repeat (first | refine blk_drewN ?_ _ | refine blk_drew ?_ | refine blk_alloc ?_ _)); exact BK203.out) hb); have n3_ := Aside0.mk (below_step (by repeat (first | (with_reducible first | exact HB.out | apply below_alloc | apply pw_below_drewN | apply below_drew1 | refine below_set ?_ GE201.out | refine below_set ?_ GE202.out | refine below_set ?_ GE203.out) | exact HB.out)) hb); clear BK201; clear BK202; clear BK203; clear HB; have BK201 := n0_; have BK202 := n1_; have BK203 := n2_; have HB := n3_; clear n0_ n1_ n2_ n3_; (try clear hb); (try clear hb2); (try clear hk); (try clear hi); have hcz209_0 : w208.cell? ⟨gb203, 0, none⟩ = some (.int .i64 0) := (blk_cell BK203.out 0).trans rfl; have hcz209_1 : w208.cell? ⟨gb203, 1, none⟩ = some (.int .i64 0) := (blk_cell BK203.out 1).trans rfl; have hcz209_2 : w208.cell? ⟨gb203, 2, none⟩ = some (.string (⟨#[]⟩ : ByteArray)) := (blk_cell BK203.out 2).trans rfl; have hfz209_0 := blk_frozen BK203.out 0; have hfz209_1 := blk_frozen BK203.out 1; have hfz209_2 := blk_frozen BK203.out 2))
                        refine bodyPost_ret (results_ct rfl _ _ gb203 23 #[.int .i64 t221, .int .i64 t222, .string t223] (0, 0) _ rfl (by (with_reducible repeat (first | refine blk_drewN ?_ _ | refine blk_drew ?_ | refine blk_alloc ?_ _)); refine blk_put (cs := #[.int .i64 t221, .int .i64 t222, .string (⟨#[]⟩ : ByteArray)]) ?_ 2 _ rfl; (with_reducible repeat (first | refine blk_drewN ?_ _ | refine blk_drew ?_ | refine blk_alloc ?_ _)); refine blk_put (cs := #[.int .i64 t221, .int .i64 0, .string (⟨#[]⟩ : ByteArray)]) ?_ 1 _ rfl; (with_reducible repeat (first | refine blk_drewN ?_ _ | refine blk_drew ?_ | refine blk_alloc ?_ _)); refine blk_put (cs := #[.int .i64 0, .int .i64 0, .string (⟨#[]⟩ : ByteArray)]) ?_ 0 _ rfl; (with_reducible repeat (first | refine blk_drewN ?_ _ | refine blk_drew ?_ | refine blk_alloc ?_ _)); exact BK203.out) Try.underlying23 rfl (by kernel_rfl)) rfl ?_
                        exact ⟨by first | rfl | (simp [errW_none, errW_some] <;> rfl) | (simp [*, errW_none, errW_some] <;> rfl), by repeat (first | (with_reducible first | exact HB.out | apply below_alloc | apply pw_below_drewN | apply below_drew1 | refine below_set ?_ GE201.out | refine below_set ?_ GE202.out | refine below_set ?_ GE203.out) | exact HB.out)⟩


end Go.Proofs.Ytjimcgmefpienaa.PConstsCalls
