/- The document's standard functions, as they were printed. -/
import Derived.Test.YtjimcgmefpienaaRef12a
namespace Go.Proofs.Ytjimcgmefpienaa.PConstsCalls
open Go.RowKit Go.Proofs.YtjimcgmefpienaaW.PrintWords Go.Proofs.YtjimcgmefpienaaW.PrintLast Go.Proofs.YtjimcgmefpienaaW.PrintMore
attribute [local go_sem] max2_int min2_int max_two min_two max_three min_three max_four min_four
set_option linter.unusedVariables false
set_option linter.unusedSimpArgs false

/-! ### spinetref12_Call: function 24 -/
mutual
def spinetref12_Call.l0 : Nat → ByteArray → List (S23) → Int → Option (Int × Int × ByteArray × Int)
  | 0, _, _, _ => none
  | k + 1, x0, x1, x6 => if x6 < (x1.length : Int) then (if 0 ≤ x6 then ((spinetref12_Good.f k ((rd_T23 x1 x6).f0) ((rd_T23 x1 x6).f1) ((rd_T23 x1 x6).f2)).bind fun t204 => (if t204 = true then (spinetref12_Call.l0 k x0 x1 (wrap64 (x6 + 1))) else ((spinetref12_none.f).bind fun bt205 => (some (bt205.1, bt205.2.1, bt205.2.2.1, bt205.2.2.2))))) else (none)) else (if (x1.length : Int) = 2 then (if 0 < (x1.length : Int) then (if ((rd_T23 x1 0).f0) = 1 then (if 1 < (x1.length : Int) then (spinetref12_Call.j1 k x0 x1 (((rd_T23 x1 1).f0) == 1)) else (none)) else (spinetref12_Call.j1 k x0 x1 false)) else (none)) else (spinetref12_Call.j1 k x0 x1 false))
def spinetref12_Call.j1 : Nat → ByteArray → List (S23) → Bool → Option (Int × Int × ByteArray × Int)
  | 0, _, _, _ => none
  | k + 1, x0, x1, x41 => if x41 = true then (if 0 < (x1.length : Int) then ((spinetref01_Word.f ((rd_T23 x1 0).f1)).bind fun t212 => (if 1 < (x1.length : Int) then ((spinetref01_Word.f ((rd_T23 x1 1).f1)).bind fun t214 => (if x0.toList = ([76, 83, 76] : List UInt8) then ((spinetref01_Lsl.f k t212 t214).bind fun t215 => ((spinetref01_Signed.f t215).bind fun t216 => ((spinetref12_integer.f k t216).bind fun bt217 => (some (bt217.1, bt217.2.1, bt217.2.2.1, bt217.2.2.2))))) else (if x0.toList = ([65, 83, 82] : List UInt8) then ((spinetref01_Asr.f k t212 t214).bind fun t221 => ((spinetref01_Signed.f t221).bind fun t222 => ((spinetref12_integer.f k t222).bind fun bt223 => (some (bt223.1, bt223.2.1, bt223.2.2.1, bt223.2.2.2))))) else (if x0.toList = ([82, 79, 82] : List UInt8) then ((spinetref01_Ror.f k t212 t214).bind fun t227 => ((spinetref01_Signed.f t227).bind fun t228 => ((spinetref12_integer.f k t228).bind fun bt229 => (some (bt229.1, bt229.2.1, bt229.2.2.1, bt229.2.2.2))))) else (spinetref12_Call.j2 k x0 x1))))) else (none))) else (none)) else (spinetref12_Call.j2 k x0 x1)
def spinetref12_Call.j2 : Nat → ByteArray → List (S23) → Option (Int × Int × ByteArray × Int)
  | 0, _, _ => none
  | k + 1, x0, x1 => if (x1.length : Int) = 1 then (if 0 < (x1.length : Int) then (if x0.toList = ([65, 66, 83] : List UInt8) then (spinetref12_Call.j3 k x0 (((rd_T23 x1 0).f0) == 1) ((rd_T23 x1 0).f0) ((rd_T23 x1 0).f1) ((rd_T23 x1 0).f2)) else (spinetref12_Call.j3 k x0 false ((rd_T23 x1 0).f0) ((rd_T23 x1 0).f1) ((rd_T23 x1 0).f2))) else (none)) else ((spinetref12_none.f).bind fun bt233 => (some (bt233.1, bt233.2.1, bt233.2.2.1, bt233.2.2.2)))
def spinetref12_Call.j3 : Nat → ByteArray → Bool → Int → Int → ByteArray → Option (Int × Int × ByteArray × Int)
  | 0, _, _, _, _, _ => none
  | k + 1, x0, x89, x239000, x239001, x239002 => if x89 = true then ((spinetref12_integer.f k (mx x239001 (wrap64 (-x239001)))).bind fun bt239 => (some (bt239.1, bt239.2.1, bt239.2.2.1, bt239.2.2.2))) else (if x0.toList = ([79, 68, 68] : List UInt8) then (spinetref12_Call.j4 k x0 (x239000 == 1) x239000 x239001 x239002) else (spinetref12_Call.j4 k x0 false x239000 x239001 x239002))
def spinetref12_Call.j4 : Nat → ByteArray → Bool → Int → Int → ByteArray → Option (Int × Int × ByteArray × Int)
  | 0, _, _, _, _, _ => none
  | k + 1, x0, x106, x239000, x239001, x239002 => if x106 = true then ((spinetref12_truth.f ((Int.tmod x239001 2) != 0)).bind fun bt243 => (some (bt243.1, bt243.2.1, bt243.2.2.1, bt243.2.2.2))) else (if x0.toList = ([79, 82, 68] : List UInt8) then ((spinetref12_Char.f x239000 x239001 x239002).bind fun bt247 => (if bt247.1 = 3 then (spinetref12_Call.j5 k true bt247.1 bt247.2.1 bt247.2.2) else (spinetref12_Call.j5 k (bt247.1 == 2) bt247.1 bt247.2.1 bt247.2.2))) else (if x0.toList = ([67, 72, 82] : List UInt8) then (spinetref12_Call.j6 k (x239000 == 1) x239000 x239001 x239002) else (spinetref12_Call.j6 k false x239000 x239001 x239002)))
def spinetref12_Call.j5 : Nat → Bool → Int → Int → ByteArray → Option (Int × Int × ByteArray × Int)
  | 0, _, _, _, _ => none
  | k + 1, x133, x239000, x239001, x239002 => if x133 = true then ((spinetref12_integer.f k x239001).bind fun bt250 => (some (bt250.1, bt250.2.1, bt250.2.2.1, bt250.2.2.2))) else (if x239000 = 4 then ((spinetref01_Signed.f ((x239001) % 4294967296)).bind fun t254 => ((spinetref12_integer.f k t254).bind fun bt255 => (some (bt255.1, bt255.2.1, bt255.2.2.1, bt255.2.2.2)))) else ((spinetref12_none.f).bind fun bt259 => (some (bt259.1, bt259.2.1, bt259.2.2.1, bt259.2.2.2))))
def spinetref12_Call.j6 : Nat → Bool → Int → Int → ByteArray → Option (Int × Int × ByteArray × Int)
  | 0, _, _, _, _ => none
  | k + 1, x149, x239000, x239001, x239002 => if x149 = true then (if x239001 < 0 then (some (0, 0, (⟨#[]⟩ : ByteArray), 91)) else (if x239001 > 255 then (some (0, 0, (⟨#[]⟩ : ByteArray), 91)) else (some (3, x239001, (⟨#[]⟩ : ByteArray), 0)))) else ((spinetref12_none.f).bind fun bt263 => (some (bt263.1, bt263.2.1, bt263.2.2.1, bt263.2.2.2)))
end
def spinetref12_Call.f (k : Nat) (a0 : ByteArray) (l1 : List (S23)) : Option (Int × Int × ByteArray × Int) := spinetref12_Call.l0 k a0 l1 0
theorem spinetref12_Call.mono_l : ∀ k, (∀ y0 y1 y2, LeO (spinetref12_Call.l0 k y0 y1 y2) (spinetref12_Call.l0 (k + 1) y0 y1 y2)) ∧ (∀ y0 y1 y2, LeO (spinetref12_Call.j1 k y0 y1 y2) (spinetref12_Call.j1 (k + 1) y0 y1 y2)) ∧ (∀ y0 y1, LeO (spinetref12_Call.j2 k y0 y1) (spinetref12_Call.j2 (k + 1) y0 y1)) ∧ (∀ y0 y1 y2 y3 y4, LeO (spinetref12_Call.j3 k y0 y1 y2 y3 y4) (spinetref12_Call.j3 (k + 1) y0 y1 y2 y3 y4)) ∧ (∀ y0 y1 y2 y3 y4, LeO (spinetref12_Call.j4 k y0 y1 y2 y3 y4) (spinetref12_Call.j4 (k + 1) y0 y1 y2 y3 y4)) ∧ (∀ y0 y1 y2 y3, LeO (spinetref12_Call.j5 k y0 y1 y2 y3) (spinetref12_Call.j5 (k + 1) y0 y1 y2 y3)) ∧ (∀ y0 y1 y2 y3, LeO (spinetref12_Call.j6 k y0 y1 y2 y3) (spinetref12_Call.j6 (k + 1) y0 y1 y2 y3))
  | 0 => ⟨fun _ _ _ r h => by simp [spinetref12_Call.l0] at h, fun _ _ _ r h => by simp [spinetref12_Call.j1] at h, fun _ _ r h => by simp [spinetref12_Call.j2] at h, fun _ _ _ _ _ r h => by simp [spinetref12_Call.j3] at h, fun _ _ _ _ _ r h => by simp [spinetref12_Call.j4] at h, fun _ _ _ _ r h => by simp [spinetref12_Call.j5] at h, fun _ _ _ _ r h => by simp [spinetref12_Call.j6] at h⟩
  | k + 1 => by
    obtain ⟨ih0, ih1, ih2, ih3, ih4, ih5, ih6⟩ := spinetref12_Call.mono_l k
    refine ⟨?_, ?_, ?_, ?_, ?_, ?_, ?_⟩
    · intro y0 y1 y2
      unfold spinetref12_Call.l0
      repeat' first
      | (with_reducible exact ih0 _ _ _)
      | (with_reducible exact ih1 _ _ _)
      | (with_reducible exact ih2 _ _)
      | (with_reducible exact ih3 _ _ _ _ _)
      | (with_reducible exact ih4 _ _ _ _ _)
      | (with_reducible exact ih5 _ _ _ _)
      | (with_reducible exact ih6 _ _ _ _)
      | (with_reducible exact spinetref01_Asr.mono _ _ _)
      | (with_reducible exact spinetref01_Lsl.mono _ _ _)
      | (with_reducible exact spinetref01_Ror.mono _ _ _)
      | (with_reducible exact spinetref12_Good.mono _ _ _ _)
      | (with_reducible exact spinetref12_integer.mono _ _)
      | (with_reducible exact LeO.refl _)
      | (with_reducible exact LeO.none _)
      | (with_reducible refine LeO.ite ?_ ?_)
      | (with_reducible refine LeO.bind ?_ (fun _ => ?_))
      | exact ih0 _ _ _
      | exact ih1 _ _ _
      | exact ih2 _ _
      | exact ih3 _ _ _ _ _
      | exact ih4 _ _ _ _ _
      | exact ih5 _ _ _ _
      | exact ih6 _ _ _ _
      | exact spinetref01_Asr.mono _ _ _
      | exact spinetref01_Lsl.mono _ _ _
      | exact spinetref01_Ror.mono _ _ _
      | exact spinetref12_Good.mono _ _ _ _
      | exact spinetref12_integer.mono _ _
      | exact LeO.none _
      | refine LeO.ite ?_ ?_
      | refine LeO.bind ?_ (fun _ => ?_)
    · intro y0 y1 y2
      unfold spinetref12_Call.j1
      repeat' first
      | (with_reducible exact ih0 _ _ _)
      | (with_reducible exact ih1 _ _ _)
      | (with_reducible exact ih2 _ _)
      | (with_reducible exact ih3 _ _ _ _ _)
      | (with_reducible exact ih4 _ _ _ _ _)
      | (with_reducible exact ih5 _ _ _ _)
      | (with_reducible exact ih6 _ _ _ _)
      | (with_reducible exact spinetref01_Asr.mono _ _ _)
      | (with_reducible exact spinetref01_Lsl.mono _ _ _)
      | (with_reducible exact spinetref01_Ror.mono _ _ _)
      | (with_reducible exact spinetref12_Good.mono _ _ _ _)
      | (with_reducible exact spinetref12_integer.mono _ _)
      | (with_reducible exact LeO.refl _)
      | (with_reducible exact LeO.none _)
      | (with_reducible refine LeO.ite ?_ ?_)
      | (with_reducible refine LeO.bind ?_ (fun _ => ?_))
      | exact ih0 _ _ _
      | exact ih1 _ _ _
      | exact ih2 _ _
      | exact ih3 _ _ _ _ _
      | exact ih4 _ _ _ _ _
      | exact ih5 _ _ _ _
      | exact ih6 _ _ _ _
      | exact spinetref01_Asr.mono _ _ _
      | exact spinetref01_Lsl.mono _ _ _
      | exact spinetref01_Ror.mono _ _ _
      | exact spinetref12_Good.mono _ _ _ _
      | exact spinetref12_integer.mono _ _
      | exact LeO.none _
      | refine LeO.ite ?_ ?_
      | refine LeO.bind ?_ (fun _ => ?_)
    · intro y0 y1
      unfold spinetref12_Call.j2
      repeat' first
      | (with_reducible exact ih0 _ _ _)
      | (with_reducible exact ih1 _ _ _)
      | (with_reducible exact ih2 _ _)
      | (with_reducible exact ih3 _ _ _ _ _)
      | (with_reducible exact ih4 _ _ _ _ _)
      | (with_reducible exact ih5 _ _ _ _)
      | (with_reducible exact ih6 _ _ _ _)
      | (with_reducible exact spinetref01_Asr.mono _ _ _)
      | (with_reducible exact spinetref01_Lsl.mono _ _ _)
      | (with_reducible exact spinetref01_Ror.mono _ _ _)
      | (with_reducible exact spinetref12_Good.mono _ _ _ _)
      | (with_reducible exact spinetref12_integer.mono _ _)
      | (with_reducible exact LeO.refl _)
      | (with_reducible exact LeO.none _)
      | (with_reducible refine LeO.ite ?_ ?_)
      | (with_reducible refine LeO.bind ?_ (fun _ => ?_))
      | exact ih0 _ _ _
      | exact ih1 _ _ _
      | exact ih2 _ _
      | exact ih3 _ _ _ _ _
      | exact ih4 _ _ _ _ _
      | exact ih5 _ _ _ _
      | exact ih6 _ _ _ _
      | exact spinetref01_Asr.mono _ _ _
      | exact spinetref01_Lsl.mono _ _ _
      | exact spinetref01_Ror.mono _ _ _
      | exact spinetref12_Good.mono _ _ _ _
      | exact spinetref12_integer.mono _ _
      | exact LeO.none _
      | refine LeO.ite ?_ ?_
      | refine LeO.bind ?_ (fun _ => ?_)
    · intro y0 y1 y2 y3 y4
      unfold spinetref12_Call.j3
      repeat' first
      | (with_reducible exact ih0 _ _ _)
      | (with_reducible exact ih1 _ _ _)
      | (with_reducible exact ih2 _ _)
      | (with_reducible exact ih3 _ _ _ _ _)
      | (with_reducible exact ih4 _ _ _ _ _)
      | (with_reducible exact ih5 _ _ _ _)
      | (with_reducible exact ih6 _ _ _ _)
      | (with_reducible exact spinetref01_Asr.mono _ _ _)
      | (with_reducible exact spinetref01_Lsl.mono _ _ _)
      | (with_reducible exact spinetref01_Ror.mono _ _ _)
      | (with_reducible exact spinetref12_Good.mono _ _ _ _)
      | (with_reducible exact spinetref12_integer.mono _ _)
      | (with_reducible exact LeO.refl _)
      | (with_reducible exact LeO.none _)
      | (with_reducible refine LeO.ite ?_ ?_)
      | (with_reducible refine LeO.bind ?_ (fun _ => ?_))
      | exact ih0 _ _ _
      | exact ih1 _ _ _
      | exact ih2 _ _
      | exact ih3 _ _ _ _ _
      | exact ih4 _ _ _ _ _
      | exact ih5 _ _ _ _
      | exact ih6 _ _ _ _
      | exact spinetref01_Asr.mono _ _ _
      | exact spinetref01_Lsl.mono _ _ _
      | exact spinetref01_Ror.mono _ _ _
      | exact spinetref12_Good.mono _ _ _ _
      | exact spinetref12_integer.mono _ _
      | exact LeO.none _
      | refine LeO.ite ?_ ?_
      | refine LeO.bind ?_ (fun _ => ?_)
    · intro y0 y1 y2 y3 y4
      unfold spinetref12_Call.j4
      repeat' first
      | (with_reducible exact ih0 _ _ _)
      | (with_reducible exact ih1 _ _ _)
      | (with_reducible exact ih2 _ _)
      | (with_reducible exact ih3 _ _ _ _ _)
      | (with_reducible exact ih4 _ _ _ _ _)
      | (with_reducible exact ih5 _ _ _ _)
      | (with_reducible exact ih6 _ _ _ _)
      | (with_reducible exact spinetref01_Asr.mono _ _ _)
      | (with_reducible exact spinetref01_Lsl.mono _ _ _)
      | (with_reducible exact spinetref01_Ror.mono _ _ _)
      | (with_reducible exact spinetref12_Good.mono _ _ _ _)
      | (with_reducible exact spinetref12_integer.mono _ _)
      | (with_reducible exact LeO.refl _)
      | (with_reducible exact LeO.none _)
      | (with_reducible refine LeO.ite ?_ ?_)
      | (with_reducible refine LeO.bind ?_ (fun _ => ?_))
      | exact ih0 _ _ _
      | exact ih1 _ _ _
      | exact ih2 _ _
      | exact ih3 _ _ _ _ _
      | exact ih4 _ _ _ _ _
      | exact ih5 _ _ _ _
      | exact ih6 _ _ _ _
      | exact spinetref01_Asr.mono _ _ _
      | exact spinetref01_Lsl.mono _ _ _
      | exact spinetref01_Ror.mono _ _ _
      | exact spinetref12_Good.mono _ _ _ _
      | exact spinetref12_integer.mono _ _
      | exact LeO.none _
      | refine LeO.ite ?_ ?_
      | refine LeO.bind ?_ (fun _ => ?_)
    · intro y0 y1 y2 y3
      unfold spinetref12_Call.j5
      repeat' first
      | (with_reducible exact ih0 _ _ _)
      | (with_reducible exact ih1 _ _ _)
      | (with_reducible exact ih2 _ _)
      | (with_reducible exact ih3 _ _ _ _ _)
      | (with_reducible exact ih4 _ _ _ _ _)
      | (with_reducible exact ih5 _ _ _ _)
      | (with_reducible exact ih6 _ _ _ _)
      | (with_reducible exact spinetref01_Asr.mono _ _ _)
      | (with_reducible exact spinetref01_Lsl.mono _ _ _)
      | (with_reducible exact spinetref01_Ror.mono _ _ _)
      | (with_reducible exact spinetref12_Good.mono _ _ _ _)
      | (with_reducible exact spinetref12_integer.mono _ _)
      | (with_reducible exact LeO.refl _)
      | (with_reducible exact LeO.none _)
      | (with_reducible refine LeO.ite ?_ ?_)
      | (with_reducible refine LeO.bind ?_ (fun _ => ?_))
      | exact ih0 _ _ _
      | exact ih1 _ _ _
      | exact ih2 _ _
      | exact ih3 _ _ _ _ _
      | exact ih4 _ _ _ _ _
      | exact ih5 _ _ _ _
      | exact ih6 _ _ _ _
      | exact spinetref01_Asr.mono _ _ _
      | exact spinetref01_Lsl.mono _ _ _
      | exact spinetref01_Ror.mono _ _ _
      | exact spinetref12_Good.mono _ _ _ _
      | exact spinetref12_integer.mono _ _
      | exact LeO.none _
      | refine LeO.ite ?_ ?_
      | refine LeO.bind ?_ (fun _ => ?_)
    · intro y0 y1 y2 y3
      unfold spinetref12_Call.j6
      repeat' first
      | (with_reducible exact ih0 _ _ _)
      | (with_reducible exact ih1 _ _ _)
      | (with_reducible exact ih2 _ _)
      | (with_reducible exact ih3 _ _ _ _ _)
      | (with_reducible exact ih4 _ _ _ _ _)
      | (with_reducible exact ih5 _ _ _ _)
      | (with_reducible exact ih6 _ _ _ _)
      | (with_reducible exact spinetref01_Asr.mono _ _ _)
      | (with_reducible exact spinetref01_Lsl.mono _ _ _)
      | (with_reducible exact spinetref01_Ror.mono _ _ _)
      | (with_reducible exact spinetref12_Good.mono _ _ _ _)
      | (with_reducible exact spinetref12_integer.mono _ _)
      | (with_reducible exact LeO.refl _)
      | (with_reducible exact LeO.none _)
      | (with_reducible refine LeO.ite ?_ ?_)
      | (with_reducible refine LeO.bind ?_ (fun _ => ?_))
      | exact ih0 _ _ _
      | exact ih1 _ _ _
      | exact ih2 _ _
      | exact ih3 _ _ _ _ _
      | exact ih4 _ _ _ _ _
      | exact ih5 _ _ _ _
      | exact ih6 _ _ _ _
      | exact spinetref01_Asr.mono _ _ _
      | exact spinetref01_Lsl.mono _ _ _
      | exact spinetref01_Ror.mono _ _ _
      | exact spinetref12_Good.mono _ _ _ _
      | exact spinetref12_integer.mono _ _
      | exact LeO.none _
      | refine LeO.ite ?_ ?_
      | refine LeO.bind ?_ (fun _ => ?_)
theorem spinetref12_Call.mono : ∀ a0 a1 k, LeO (spinetref12_Call.f k a0 a1) (spinetref12_Call.f (k + 1) a0 a1) := by
  intro a0 a1 k
  obtain ⟨ih0, ih1, ih2, ih3, ih4, ih5, ih6⟩ := spinetref12_Call.mono_l k
  unfold spinetref12_Call.f
  repeat' first
      | (with_reducible exact ih0 _ _ _)
      | (with_reducible exact ih1 _ _ _)
      | (with_reducible exact ih2 _ _)
      | (with_reducible exact ih3 _ _ _ _ _)
      | (with_reducible exact ih4 _ _ _ _ _)
      | (with_reducible exact ih5 _ _ _ _)
      | (with_reducible exact ih6 _ _ _ _)
      | (with_reducible exact spinetref01_Asr.mono _ _ _)
      | (with_reducible exact spinetref01_Lsl.mono _ _ _)
      | (with_reducible exact spinetref01_Ror.mono _ _ _)
      | (with_reducible exact spinetref12_Good.mono _ _ _ _)
      | (with_reducible exact spinetref12_integer.mono _ _)
      | (with_reducible exact LeO.refl _)
      | (with_reducible exact LeO.none _)
      | (with_reducible refine LeO.ite ?_ ?_)
      | (with_reducible refine LeO.bind ?_ (fun _ => ?_))
      | exact ih0 _ _ _
      | exact ih1 _ _ _
      | exact ih2 _ _
      | exact ih3 _ _ _ _ _
      | exact ih4 _ _ _ _ _
      | exact ih5 _ _ _ _
      | exact ih6 _ _ _ _
      | exact spinetref01_Asr.mono _ _ _
      | exact spinetref01_Lsl.mono _ _ _
      | exact spinetref01_Ror.mono _ _ _
      | exact spinetref12_Good.mono _ _ _ _
      | exact spinetref12_integer.mono _ _
      | exact LeO.none _
      | refine LeO.ite ?_ ?_
      | refine LeO.bind ?_ (fun _ => ?_)
set_option maxHeartbeats 8000000 in
set_option maxRecDepth 100000 in
theorem spinetref12_Call.calls (k : Nat) (a0 : ByteArray) (A1 : Option Addr) (c1 : Nat) (l1 : List (S23)) (r1 : Int) (r2 : Int) (r3 : ByteArray) (r4 : Int) (w : World) (hr1 : Kd.C k23 w A1 l1.length l1) (hc1 : l1.length ≤ c1) (h : spinetref12_Call.f k a0 l1 = some (r1, r2, r3, r4)) :
    Calls Try.prog 24 #[.string a0, .slice A1 l1.length c1] w fun e w' => e = .returned (.tuple #[.agg #[.int .i64 r1, .int .i64 r2, .string r3], .int .i64 r4]) ∧ Below w.heap.size w w' := by
  have hu23 := Try.underlying23
  have HR1 := Aside0.mk hr1
  have HC1 := Aside0.mk hc1
  clear hr1 hc1
  have HB := Aside0.mk (Below.refl w.heap.size w)
  have H : (spinetref12_Call.l0 k a0 l1 0) = some (r1, r2, r3, r4) := h
  clear h
  have H' := Aside0.mk H
  clear H
  go_enter Try.func24, Try.ntmps24
  go_wp2_with (first | ((with_reducible refine gate_dst (N := 4) rfl ?_); refine box_event ?hg (N := 4) ?hd (cs := #[.int .i64 0, .int .i64 0, .string (⟨#[]⟩ : ByteArray)]) (t := 23) ?hr ?_; (case hd => rfl); (case hg => rfl); (case hr => first | (go_simp; done) | (go_simp; rfl)); intro gb202 hg w3 hbox hb; have n0_ := Aside0.mk (below_step (by repeat (first | (with_reducible first | exact HB.out | apply below_alloc | apply pw_below_drewN | apply below_drew1) | exact HB.out)) hb); have n1_ := Aside0.mk (hbox); have n2_ := Aside0.mk ((by rw [hg]; exact (below_size (by repeat (first | (with_reducible first | exact HB.out | apply below_alloc | apply pw_below_drewN | apply below_drew1) | exact HB.out))) : w.heap.size ≤ gb202)); have n3_ := Aside0.mk ((by rw [hg]; exact (below_size (by repeat (first | (with_reducible first | exact HB.out | apply below_alloc | apply pw_below_drewN | apply below_drew1) | exact HB.out))) : w.heap.size ≤ gb202)); clear HB; have HB := n0_; have BK202 := n1_; have GW202 := n2_; have GE202 := n3_; clear n0_ n1_ n2_ n3_; clear hb hbox hg))
  repeat (go_quiet (first | ((with_reducible refine gate_dst (N := 4) rfl ?_); refine box_event ?hg (N := 4) ?hd (cs := #[.int .i64 0, .int .i64 0, .string (⟨#[]⟩ : ByteArray)]) (t := 23) ?hr ?_; (case hd => rfl); (case hg => rfl); (case hr => first | (go_simp; done) | (go_simp; rfl)); intro gb202 hg w3 hbox hb; have n0_ := Aside0.mk (below_step (by repeat (first | (with_reducible first | exact HB.out | apply below_alloc | apply pw_below_drewN | apply below_drew1) | exact HB.out)) hb); have n1_ := Aside0.mk (hbox); have n2_ := Aside0.mk ((by rw [hg]; exact (below_size (by repeat (first | (with_reducible first | exact HB.out | apply below_alloc | apply pw_below_drewN | apply below_drew1) | exact HB.out))) : w.heap.size ≤ gb202)); have n3_ := Aside0.mk ((by rw [hg]; exact (below_size (by repeat (first | (with_reducible first | exact HB.out | apply below_alloc | apply pw_below_drewN | apply below_drew1) | exact HB.out))) : w.heap.size ≤ gb202)); clear HB; have HB := n0_; have BK202 := n1_; have GW202 := n2_; have GE202 := n3_; clear n0_ n1_ n2_ n3_; clear hb hbox hg)); try go_wp2_with (first | ((with_reducible refine gate_dst (N := 4) rfl ?_); refine box_event ?hg (N := 4) ?hd (cs := #[.int .i64 0, .int .i64 0, .string (⟨#[]⟩ : ByteArray)]) (t := 23) ?hr ?_; (case hd => rfl); (case hg => rfl); (case hr => first | (go_simp; done) | (go_simp; rfl)); intro gb202 hg w3 hbox hb; have n0_ := Aside0.mk (below_step (by repeat (first | (with_reducible first | exact HB.out | apply below_alloc | apply pw_below_drewN | apply below_drew1) | exact HB.out)) hb); have n1_ := Aside0.mk (hbox); have n2_ := Aside0.mk ((by rw [hg]; exact (below_size (by repeat (first | (with_reducible first | exact HB.out | apply below_alloc | apply pw_below_drewN | apply below_drew1) | exact HB.out))) : w.heap.size ≤ gb202)); have n3_ := Aside0.mk ((by rw [hg]; exact (below_size (by repeat (first | (with_reducible first | exact HB.out | apply below_alloc | apply pw_below_drewN | apply below_drew1) | exact HB.out))) : w.heap.size ≤ gb202)); clear HB; have HB := n0_; have BK202 := n1_; have GW202 := n2_; have GE202 := n3_; clear n0_ n1_ n2_ n3_; clear hb hbox hg)))
  go_loopg [6] k (fun kq v6 w' => ∃ (x6_1 : Int) (x203000_1 : Int) (x203001_1 : Int) (x203002_1 : ByteArray), v6 = .int .i64 x6_1 ∧ Aside0 (spinetref12_Call.l0 kq a0 l1 x6_1 = some (r1, r2, r3, r4)) ∧ Aside0 (kq ≤ k) ∧ Aside0 (w'.heap[gb202]? = some (.cells #[.int .i64 x203000_1, .int .i64 x203001_1, .string x203002_1] 23 (0, 0))) ∧ Aside0 (Below w.heap.size w w'))
  case atStart => exact ⟨(0), (0), (0), ((⟨#[]⟩ : ByteArray)), (by first | rfl | (simp; done) | (simp [*]; done)), H', ⟨Nat.le_refl _⟩, ⟨by (with_reducible repeat (first | refine blk_drewN ?_ _ | refine blk_drew ?_ | refine blk_alloc ?_ _)); exact BK202.out⟩, ⟨by repeat (first | (with_reducible first | exact HB.out | apply below_alloc | apply pw_below_drewN | apply below_drew1 | refine below_set ?_ GE202.out) | exact HB.out)⟩⟩
  case round =>
    clear H'
    try clear c1
    try clear c2
    try clear p2
    obtain ⟨x6_1, x203000_1, x203001_1, x203002_1, rfl, HA, HK1, BK202, HB⟩ := hrel
    cases gk with
    | zero => exact absurd HA.out (by simp [spinetref12_Call.l0])
    | succ k1 =>
      have H := HA.out
      clear HA
      simp only [spinetref12_Call.l0] at H
      by_cases c4 : x6_1 < (l1.length : Int)
      · rw [if_pos c4] at H
        have c4b0 : decide (x6_1 < (l1.length : Int)) = true := decide_eq_true c4
        clear c4
        by_cases c5 : 0 ≤ x6_1
        · rw [if_pos c5] at H
          have c5b0 : decide (0 ≤ x6_1) = true := decide_eq_true c5
          clear c5
          replace H := Option.bind_eq_some_iff.mp H
          obtain ⟨t204, A60, H⟩ := H
          replace H : (if t204 = true then (spinetref12_Call.l0 k1 a0 l1 (wrap64 (x6_1 + 1))) else ((spinetref12_none.f).bind fun bt205 => (some (bt205.1, bt205.2.1, bt205.2.2.1, bt205.2.2.2)))) = some (r1, r2, r3, r4) := H
          have A6 := Aside0.mk A60
          clear A60
          by_cases c7 : t204 = true
          · subst c7
            have H1 : (spinetref12_Call.l0 k1 a0 l1 (wrap64 (x6_1 + 1))) = some (r1, r2, r3, r4) := by rw [if_pos rfl] at H; exact H
            clear H
            have H := H1
            clear H1
            have H' := Aside0.mk H
            clear H
            have p203 : 0 ≤ (x6_1 : Int) := of_decide_eq_true (by first | (with_reducible assumption) | assumption)
            have q203 : x6_1 < (l1.length : Int) := of_decide_eq_true (by first | (with_reducible assumption) | assumption)
            obtain ⟨ad203, e203, hx203_0, hx203_1, hx203_2⟩ := at_T23 HR1.out x6_1 p203 q203
            cases e203
            replace hx203_0 := (HB.out.cell (World.block_lt_of_cell? w _ hx203_0)).trans hx203_0
            replace hx203_1 := (HB.out.cell (World.block_lt_of_cell? w _ hx203_1)).trans hx203_1
            replace hx203_2 := (HB.out.cell (World.block_lt_of_cell? w _ hx203_2)).trans hx203_2
            replace p203 := eq_true p203
            replace q203 := eq_true q203
            go_wp2_with (first | (go_at_call 21; (with_reducible refine (spinetref12_Good.calls k1 ((rd_T23 l1 x6_1).f0) ((rd_T23 l1 x6_1).f1) ((rd_T23 l1 x6_1).f2) true _ A6.out).mono ?_); rintro e w8 ⟨rfl, hb⟩; have n0_ := Aside0.mk (blk_below (g := gb202) (o := .cells #[.int .i64 x203000_1, .int .i64 x203001_1, .string x203002_1] 23 (0, 0)) (by (with_reducible repeat (first | refine blk_drewN ?_ _ | refine blk_drew ?_ | refine blk_alloc ?_ _)); exact BK202.out) hb); have n1_ := Aside0.mk (below_step (by repeat (first | (with_reducible first | exact HB.out | apply below_alloc | apply pw_below_drewN | apply below_drew1 | refine below_set ?_ GE202.out) | exact HB.out)) hb); clear BK202; clear HB; have BK202 := n0_; have HB := n1_; clear n0_ n1_; (try clear hb); (try clear hb2); (try clear hk); (try clear hi)))
            repeat (go_quiet (first | (go_at_call 21; (with_reducible refine (spinetref12_Good.calls k1 ((rd_T23 l1 x6_1).f0) ((rd_T23 l1 x6_1).f1) ((rd_T23 l1 x6_1).f2) true _ A6.out).mono ?_); rintro e w8 ⟨rfl, hb⟩; have n0_ := Aside0.mk (blk_below (g := gb202) (o := .cells #[.int .i64 x203000_1, .int .i64 x203001_1, .string x203002_1] 23 (0, 0)) (by (with_reducible repeat (first | refine blk_drewN ?_ _ | refine blk_drew ?_ | refine blk_alloc ?_ _)); exact BK202.out) hb); have n1_ := Aside0.mk (below_step (by repeat (first | (with_reducible first | exact HB.out | apply below_alloc | apply pw_below_drewN | apply below_drew1 | refine below_set ?_ GE202.out) | exact HB.out)) hb); clear BK202; clear HB; have BK202 := n0_; have HB := n1_; clear n0_ n1_; (try clear hb); (try clear hb2); (try clear hk); (try clear hi))); try go_wp2_with (first | (go_at_call 21; (with_reducible refine (spinetref12_Good.calls k1 ((rd_T23 l1 x6_1).f0) ((rd_T23 l1 x6_1).f1) ((rd_T23 l1 x6_1).f2) true _ A6.out).mono ?_); rintro e w8 ⟨rfl, hb⟩; have n0_ := Aside0.mk (blk_below (g := gb202) (o := .cells #[.int .i64 x203000_1, .int .i64 x203001_1, .string x203002_1] 23 (0, 0)) (by (with_reducible repeat (first | refine blk_drewN ?_ _ | refine blk_drew ?_ | refine blk_alloc ?_ _)); exact BK202.out) hb); have n1_ := Aside0.mk (below_step (by repeat (first | (with_reducible first | exact HB.out | apply below_alloc | apply pw_below_drewN | apply below_drew1 | refine below_set ?_ GE202.out) | exact HB.out)) hb); clear BK202; clear HB; have BK202 := n0_; have HB := n1_; clear n0_ n1_; (try clear hb); (try clear hb2); (try clear hk); (try clear hi))))
            go_roundg k1
            case measure => have := HK1.out; omega
            case rel => exact ⟨(wrap64 (x6_1 + 1)), (x203000_1), (x203001_1), (x203002_1), (by first | rfl | (simp; done) | (simp [*]; done)), H', ⟨by have := HK1.out; omega⟩, ⟨by (with_reducible repeat (first | refine blk_drewN ?_ _ | refine blk_drew ?_ | refine blk_alloc ?_ _)); exact BK202.out⟩, ⟨by repeat (first | (with_reducible first | exact HB.out | apply below_alloc | apply pw_below_drewN | apply below_drew1 | refine below_set ?_ GE202.out) | exact HB.out)⟩⟩
          · replace c7 := Bool.eq_false_iff.mpr c7
            subst c7
            have H1 : ((spinetref12_none.f).bind fun bt205 => (some (bt205.1, bt205.2.1, bt205.2.2.1, bt205.2.2.2))) = some (r1, r2, r3, r4) := by rw [if_neg (show ¬ (false = true) by decide)] at H; exact H
            clear H
            have H := H1
            clear H1
            replace H := Option.bind_eq_some_iff.mp H
            obtain ⟨⟨t205, t206, t207, t208⟩, A90, H⟩ := H
            replace H : (some (t205, t206, t207, t208)) = some (r1, r2, r3, r4) := H
            have A9 := Aside0.mk A90
            clear A90
            simp only [Option.some.injEq, Prod.mk.injEq] at H
            obtain ⟨rfl, rfl, rfl, rfl⟩ := H
            have p203 : 0 ≤ (x6_1 : Int) := of_decide_eq_true (by first | (with_reducible assumption) | assumption)
            have q203 : x6_1 < (l1.length : Int) := of_decide_eq_true (by first | (with_reducible assumption) | assumption)
            obtain ⟨ad203, e203, hx203_0, hx203_1, hx203_2⟩ := at_T23 HR1.out x6_1 p203 q203
            cases e203
            replace hx203_0 := (HB.out.cell (World.block_lt_of_cell? w _ hx203_0)).trans hx203_0
            replace hx203_1 := (HB.out.cell (World.block_lt_of_cell? w _ hx203_1)).trans hx203_1
            replace hx203_2 := (HB.out.cell (World.block_lt_of_cell? w _ hx203_2)).trans hx203_2
            replace p203 := eq_true p203
            replace q203 := eq_true q203
            go_wp2_with (first | (go_at_call 21; (with_reducible refine (spinetref12_Good.calls k1 ((rd_T23 l1 x6_1).f0) ((rd_T23 l1 x6_1).f1) ((rd_T23 l1 x6_1).f2) false _ A6.out).mono ?_); rintro e w10 ⟨rfl, hb⟩; have n0_ := Aside0.mk (blk_below (g := gb202) (o := .cells #[.int .i64 x203000_1, .int .i64 x203001_1, .string x203002_1] 23 (0, 0)) (by (with_reducible repeat (first | refine blk_drewN ?_ _ | refine blk_drew ?_ | refine blk_alloc ?_ _)); exact BK202.out) hb); have n1_ := Aside0.mk (below_step (by repeat (first | (with_reducible first | exact HB.out | apply below_alloc | apply pw_below_drewN | apply below_drew1 | refine below_set ?_ GE202.out) | exact HB.out)) hb); clear BK202; clear HB; have BK202 := n0_; have HB := n1_; clear n0_ n1_; (try clear hb); (try clear hb2); (try clear hk); (try clear hi)) | (go_at_call 33; (with_reducible refine (spinetref12_none.calls  t205 t206 t207 t208 _ A9.out).mono ?_); rintro e w11 ⟨rfl, hb⟩; have n0_ := Aside0.mk (blk_below (g := gb202) (o := .cells #[.int .i64 x203000_1, .int .i64 x203001_1, .string x203002_1] 23 (0, 0)) (by (with_reducible repeat (first | refine blk_drewN ?_ _ | refine blk_drew ?_ | refine blk_alloc ?_ _)); exact BK202.out) hb); have n1_ := Aside0.mk (below_step (by repeat (first | (with_reducible first | exact HB.out | apply below_alloc | apply pw_below_drewN | apply below_drew1 | refine below_set ?_ GE202.out) | exact HB.out)) hb); clear BK202; clear HB; have BK202 := n0_; have HB := n1_; clear n0_ n1_; (try clear hb); (try clear hb2); (try clear hk); (try clear hi); have hcz12_0 : w11.cell? ⟨gb202, 0, none⟩ = some (.int .i64 x203000_1) := (blk_cell BK202.out 0).trans rfl; have hcz12_1 : w11.cell? ⟨gb202, 1, none⟩ = some (.int .i64 x203001_1) := (blk_cell BK202.out 1).trans rfl; have hcz12_2 : w11.cell? ⟨gb202, 2, none⟩ = some (.string x203002_1) := (blk_cell BK202.out 2).trans rfl; have hfz12_0 := blk_frozen BK202.out 0; have hfz12_1 := blk_frozen BK202.out 1; have hfz12_2 := blk_frozen BK202.out 2))
            repeat (go_quiet (first | (go_at_call 21; (with_reducible refine (spinetref12_Good.calls k1 ((rd_T23 l1 x6_1).f0) ((rd_T23 l1 x6_1).f1) ((rd_T23 l1 x6_1).f2) false _ A6.out).mono ?_); rintro e w10 ⟨rfl, hb⟩; have n0_ := Aside0.mk (blk_below (g := gb202) (o := .cells #[.int .i64 x203000_1, .int .i64 x203001_1, .string x203002_1] 23 (0, 0)) (by (with_reducible repeat (first | refine blk_drewN ?_ _ | refine blk_drew ?_ | refine blk_alloc ?_ _)); exact BK202.out) hb); have n1_ := Aside0.mk (below_step (by repeat (first | (with_reducible first | exact HB.out | apply below_alloc | apply pw_below_drewN | apply below_drew1 | refine below_set ?_ GE202.out) | exact HB.out)) hb); clear BK202; clear HB; have BK202 := n0_; have HB := n1_; clear n0_ n1_; (try clear hb); (try clear hb2); (try clear hk); (try clear hi)) | (go_at_call 33; (with_reducible refine (spinetref12_none.calls  t205 t206 t207 t208 _ A9.out).mono ?_); rintro e w11 ⟨rfl, hb⟩; have n0_ := Aside0.mk (blk_below (g := gb202) (o := .cells #[.int .i64 x203000_1, .int .i64 x203001_1, .string x203002_1] 23 (0, 0)) (by (with_reducible repeat (first | refine blk_drewN ?_ _ | refine blk_drew ?_ | refine blk_alloc ?_ _)); exact BK202.out) hb); have n1_ := Aside0.mk (below_step (by repeat (first | (with_reducible first | exact HB.out | apply below_alloc | apply pw_below_drewN | apply below_drew1 | refine below_set ?_ GE202.out) | exact HB.out)) hb); clear BK202; clear HB; have BK202 := n0_; have HB := n1_; clear n0_ n1_; (try clear hb); (try clear hb2); (try clear hk); (try clear hi); have hcz12_0 : w11.cell? ⟨gb202, 0, none⟩ = some (.int .i64 x203000_1) := (blk_cell BK202.out 0).trans rfl; have hcz12_1 : w11.cell? ⟨gb202, 1, none⟩ = some (.int .i64 x203001_1) := (blk_cell BK202.out 1).trans rfl; have hcz12_2 : w11.cell? ⟨gb202, 2, none⟩ = some (.string x203002_1) := (blk_cell BK202.out 2).trans rfl; have hfz12_0 := blk_frozen BK202.out 0; have hfz12_1 := blk_frozen BK202.out 1; have hfz12_2 := blk_frozen BK202.out 2)); try go_wp2_with (first | (go_at_call 21; (with_reducible refine (spinetref12_Good.calls k1 ((rd_T23 l1 x6_1).f0) ((rd_T23 l1 x6_1).f1) ((rd_T23 l1 x6_1).f2) false _ A6.out).mono ?_); rintro e w10 ⟨rfl, hb⟩; have n0_ := Aside0.mk (blk_below (g := gb202) (o := .cells #[.int .i64 x203000_1, .int .i64 x203001_1, .string x203002_1] 23 (0, 0)) (by (with_reducible repeat (first | refine blk_drewN ?_ _ | refine blk_drew ?_ | refine blk_alloc ?_ _)); exact BK202.out) hb); have n1_ := Aside0.mk (below_step (by repeat (first | (with_reducible first | exact HB.out | apply below_alloc | apply pw_below_drewN | apply below_drew1 | refine below_set ?_ GE202.out) | exact HB.out)) hb); clear BK202; clear HB; have BK202 := n0_; have HB := n1_; clear n0_ n1_; (try clear hb); (try clear hb2); (try clear hk); (try clear hi)) | (go_at_call 33; (with_reducible refine (spinetref12_none.calls  t205 t206 t207 t208 _ A9.out).mono ?_); rintro e w11 ⟨rfl, hb⟩; have n0_ := Aside0.mk (blk_below (g := gb202) (o := .cells #[.int .i64 x203000_1, .int .i64 x203001_1, .string x203002_1] 23 (0, 0)) (by (with_reducible repeat (first | refine blk_drewN ?_ _ | refine blk_drew ?_ | refine blk_alloc ?_ _)); exact BK202.out) hb); have n1_ := Aside0.mk (below_step (by repeat (first | (with_reducible first | exact HB.out | apply below_alloc | apply pw_below_drewN | apply below_drew1 | refine below_set ?_ GE202.out) | exact HB.out)) hb); clear BK202; clear HB; have BK202 := n0_; have HB := n1_; clear n0_ n1_; (try clear hb); (try clear hb2); (try clear hk); (try clear hi); have hcz12_0 : w11.cell? ⟨gb202, 0, none⟩ = some (.int .i64 x203000_1) := (blk_cell BK202.out 0).trans rfl; have hcz12_1 : w11.cell? ⟨gb202, 1, none⟩ = some (.int .i64 x203001_1) := (blk_cell BK202.out 1).trans rfl; have hcz12_2 : w11.cell? ⟨gb202, 2, none⟩ = some (.string x203002_1) := (blk_cell BK202.out 2).trans rfl; have hfz12_0 := blk_frozen BK202.out 0; have hfz12_1 := blk_frozen BK202.out 1; have hfz12_2 := blk_frozen BK202.out 2)))
            refine bodyPost_ret (results_ct rfl _ _ gb202 23 #[.int .i64 t205, .int .i64 t206, .string t207] (0, 0) _ rfl (by (with_reducible repeat (first | refine blk_drewN ?_ _ | refine blk_drew ?_ | refine blk_alloc ?_ _)); refine blk_put (cs := #[.int .i64 t205, .int .i64 t206, .string x203002_1]) ?_ 2 _ rfl; (with_reducible repeat (first | refine blk_drewN ?_ _ | refine blk_drew ?_ | refine blk_alloc ?_ _)); refine blk_put (cs := #[.int .i64 t205, .int .i64 x203001_1, .string x203002_1]) ?_ 1 _ rfl; (with_reducible repeat (first | refine blk_drewN ?_ _ | refine blk_drew ?_ | refine blk_alloc ?_ _)); refine blk_put (cs := #[.int .i64 x203000_1, .int .i64 x203001_1, .string x203002_1]) ?_ 0 _ rfl; (with_reducible repeat (first | refine blk_drewN ?_ _ | refine blk_drew ?_ | refine blk_alloc ?_ _)); exact BK202.out) Try.underlying23 rfl (by kernel_rfl)) rfl ?_
            exact ⟨by first | rfl | (simp [errW_none, errW_some] <;> rfl) | (simp [*, errW_none, errW_some] <;> rfl), by repeat (first | (with_reducible first | exact HB.out | apply below_alloc | apply pw_below_drewN | apply below_drew1 | refine below_set ?_ GE202.out) | exact HB.out)⟩
        · rw [if_neg c5] at H
          exact absurd H (by simp)
      · rw [if_neg c4] at H
        have c4b0 : decide (x6_1 < (l1.length : Int)) = false := decide_eq_false c4
        clear c4
        have HC13 := Aside0.mk H
        clear H
        go_upto_region 6 with (fail)
        repeat (go_quiet (fail); go_upto_region 6 with (fail))
        go_cut [41] (fun v41 wc => ∃ (kq : Nat) (x41_12 : Bool), v41 = .bool x41_12 ∧ Aside0 (spinetref12_Call.j1 kq a0 l1 x41_12 = some (r1, r2, r3, r4)) ∧ Aside0 (kq ≤ k1) ∧ Aside0 (wc.heap[gb202]? = some (.cells #[.int .i64 x203000_1, .int .i64 x203001_1, .string x203002_1] 23 (0, 0))) ∧ Aside0 (Below w.heap.size w wc))
        case first =>
          have H := HC13.out
          clear HC13
          by_cases c14 : (l1.length : Int) = 2
          · rw [if_pos c14] at H
            have c14b0 : ((l1.length : Int) == 2) = true := beq_iff_eq.mpr c14
            have c14b1 : ((l1.length : Int) != 2) = false := bne_eq_false_iff_eq.mpr c14
            clear c14
            (first | rw [c14b0] | (simp only [i64_w, i32_w]; rw [c14b0]) | skip)
            by_cases c15 : 0 < (l1.length : Int)
            · rw [if_pos c15] at H
              have c15b0 : decide (0 < (l1.length : Int)) = true := decide_eq_true c15
              have c15b1 : decide (0 < l1.length) = true := decide_eq_true (by omega)
              clear c15
              by_cases c16 : ((rd_T23 l1 0).f0) = 1
              · rw [if_pos c16] at H
                have c16b0 : (((rd_T23 l1 0).f0) == 1) = true := beq_iff_eq.mpr c16
                have c16b1 : (((rd_T23 l1 0).f0) != 1) = false := bne_eq_false_iff_eq.mpr c16
                clear c16
                by_cases c17 : 1 < (l1.length : Int)
                · rw [if_pos c17] at H
                  have c17b0 : decide (1 < (l1.length : Int)) = true := decide_eq_true c17
                  have c17b1 : decide (1 < l1.length) = true := decide_eq_true (by omega)
                  clear c17
                  have H' := Aside0.mk H
                  clear H
                  have p209 : 0 ≤ (0 : Int) := (by omega)
                  have q209 : 0 < (l1.length : Int) := of_decide_eq_true (by first | (with_reducible assumption) | assumption)
                  obtain ⟨ad209, e209, hx209_0, hx209_1, hx209_2⟩ := at_T23 HR1.out 0 p209 q209
                  cases e209
                  have qi209 : (0 < l1.length) = True := eq_true (by omega)
                  (try rw [show ((0 : Int)).toNat = 0 from rfl] at hx209_0)
                  (try rw [show 0 * 3 = 0 from rfl] at hx209_0)
                  (try rw [Addr.add_zero'] at hx209_0)
                  (try rw [show ((0 : Int)).toNat = 0 from rfl] at hx209_1)
                  (try rw [show 0 * 3 = 0 from rfl] at hx209_1)
                  (try rw [Addr.add_zero'] at hx209_1)
                  (try rw [show ((0 : Int)).toNat = 0 from rfl] at hx209_2)
                  (try rw [show 0 * 3 = 0 from rfl] at hx209_2)
                  (try rw [Addr.add_zero'] at hx209_2)
                  replace hx209_0 := (HB.out.cell (World.block_lt_of_cell? w _ hx209_0)).trans hx209_0
                  replace hx209_1 := (HB.out.cell (World.block_lt_of_cell? w _ hx209_1)).trans hx209_1
                  replace hx209_2 := (HB.out.cell (World.block_lt_of_cell? w _ hx209_2)).trans hx209_2
                  replace p209 := eq_true p209
                  replace q209 := eq_true q209
                  have p210 : 0 ≤ (1 : Int) := (by omega)
                  have q210 : 1 < (l1.length : Int) := of_decide_eq_true (by first | (with_reducible assumption) | assumption)
                  obtain ⟨ad210, e210, hx210_0, hx210_1, hx210_2⟩ := at_T23 HR1.out 1 p210 q210
                  obtain rfl : ad209 = ad210 := (by injection e210)
                  (try simp only [show (1 : Int).toNat = 1 from rfl, Nat.reduceMul, Nat.reduceEqDiff, Go.Addr.add, ↓reduceIte] at hx210_0)
                  (try simp only [show (1 : Int).toNat = 1 from rfl, Nat.reduceMul, Nat.reduceEqDiff, Go.Addr.add, ↓reduceIte] at hx210_1)
                  (try simp only [show (1 : Int).toNat = 1 from rfl, Nat.reduceMul, Nat.reduceEqDiff, Go.Addr.add, ↓reduceIte] at hx210_2)
                  have qi210 : (1 < l1.length) = True := eq_true (by omega)
                  (try rw [show ((1 : Int)).toNat = 1 from rfl] at hx210_0)
                  (try rw [show 1 * 3 = 3 from rfl] at hx210_0)
                  (try rw [show ((1 : Int)).toNat = 1 from rfl] at hx210_1)
                  (try rw [show 1 * 3 = 3 from rfl] at hx210_1)
                  (try rw [show ((1 : Int)).toNat = 1 from rfl] at hx210_2)
                  (try rw [show 1 * 3 = 3 from rfl] at hx210_2)
                  replace hx210_0 := (HB.out.cell (World.block_lt_of_cell? w _ hx210_0)).trans hx210_0
                  replace hx210_1 := (HB.out.cell (World.block_lt_of_cell? w _ hx210_1)).trans hx210_1
                  replace hx210_2 := (HB.out.cell (World.block_lt_of_cell? w _ hx210_2)).trans hx210_2
                  replace p210 := eq_true p210
                  replace q210 := eq_true q210
                  go_wp2
                  repeat (go_quiet (fail); try go_wp2)
                  go_meet
                  case rel => exact ⟨_, ((((rd_T23 l1 1).f0) == 1)), (by first | rfl | (simp; done) | (simp [*]; done)), H', ⟨by have := HK1.out; first | omega | exact Nat.le_refl _⟩, ⟨by (with_reducible repeat (first | refine blk_drewN ?_ _ | refine blk_drew ?_ | refine blk_alloc ?_ _)); exact BK202.out⟩, ⟨by repeat (first | (with_reducible first | exact HB.out | apply below_alloc | apply pw_below_drewN | apply below_drew1 | refine below_set ?_ GE202.out) | exact HB.out)⟩⟩
                · rw [if_neg c17] at H
                  exact absurd H (by simp)
              · rw [if_neg c16] at H
                have c16b0 : (((rd_T23 l1 0).f0) == 1) = false := beq_eq_false_iff_ne.mpr c16
                have c16b1 : (((rd_T23 l1 0).f0) != 1) = true := bne_iff_ne.mpr c16
                have H' := Aside0.mk H
                clear H
                have p209 : 0 ≤ (0 : Int) := (by omega)
                have q209 : 0 < (l1.length : Int) := of_decide_eq_true (by first | (with_reducible assumption) | assumption)
                obtain ⟨ad209, e209, hx209_0, hx209_1, hx209_2⟩ := at_T23 HR1.out 0 p209 q209
                cases e209
                have qi209 : (0 < l1.length) = True := eq_true (by omega)
                (try rw [show ((0 : Int)).toNat = 0 from rfl] at hx209_0)
                (try rw [show 0 * 3 = 0 from rfl] at hx209_0)
                (try rw [Addr.add_zero'] at hx209_0)
                (try rw [show ((0 : Int)).toNat = 0 from rfl] at hx209_1)
                (try rw [show 0 * 3 = 0 from rfl] at hx209_1)
                (try rw [Addr.add_zero'] at hx209_1)
                (try rw [show ((0 : Int)).toNat = 0 from rfl] at hx209_2)
                (try rw [show 0 * 3 = 0 from rfl] at hx209_2)
                (try rw [Addr.add_zero'] at hx209_2)
                replace hx209_0 := (HB.out.cell (World.block_lt_of_cell? w _ hx209_0)).trans hx209_0
                replace hx209_1 := (HB.out.cell (World.block_lt_of_cell? w _ hx209_1)).trans hx209_1
                replace hx209_2 := (HB.out.cell (World.block_lt_of_cell? w _ hx209_2)).trans hx209_2
                replace p209 := eq_true p209
                replace q209 := eq_true q209
                go_wp2
                repeat (go_quiet (fail); try go_wp2)
                go_meet
                case rel => exact ⟨_, (false), (by first | rfl | (simp; done) | (simp [*]; done)), H', ⟨by have := HK1.out; first | omega | exact Nat.le_refl _⟩, ⟨by (with_reducible repeat (first | refine blk_drewN ?_ _ | refine blk_drew ?_ | refine blk_alloc ?_ _)); exact BK202.out⟩, ⟨by repeat (first | (with_reducible first | exact HB.out | apply below_alloc | apply pw_below_drewN | apply below_drew1 | refine below_set ?_ GE202.out) | exact HB.out)⟩⟩
            · rw [if_neg c15] at H
              exact absurd H (by simp)
          · rw [if_neg c14] at H
            have c14b0 : ((l1.length : Int) == 2) = false := beq_eq_false_iff_ne.mpr c14
            have c14b1 : ((l1.length : Int) != 2) = true := bne_iff_ne.mpr c14
            (first | rw [c14b0] | (simp only [i64_w, i32_w]; rw [c14b0]) | skip)
            have H' := Aside0.mk H
            clear H
            go_wp2
            repeat (go_quiet (fail); try go_wp2)
            go_meet
            case rel => exact ⟨_, (false), (by first | rfl | (simp; done) | (simp [*]; done)), H', ⟨by have := HK1.out; first | omega | exact Nat.le_refl _⟩, ⟨by (with_reducible repeat (first | refine blk_drewN ?_ _ | refine blk_drew ?_ | refine blk_alloc ?_ _)); exact BK202.out⟩, ⟨by repeat (first | (with_reducible first | exact HB.out | apply below_alloc | apply pw_below_drewN | apply below_drew1 | refine below_set ?_ GE202.out) | exact HB.out)⟩⟩
        case rest =>
          clear HC13
          try clear c1
          try clear c2
          try clear p2
          try clear q2
          try clear hx2
          try clear qi2
          try clear c4
          try clear c4b0
          try clear c5
          try clear c5b0
          try clear p6
          try clear c7
          try clear c14
          try clear c14b0
          try clear c14b1
          try clear c15
          try clear c15b0
          try clear c15b1
          try clear c16
          try clear c16b0
          try clear c16b1
          try clear c17
          try clear c17b0
          try clear c17b1
          try clear hcz12_0
          try clear hcz12_1
          try clear hcz12_2
          try clear hfz12_0
          try clear hfz12_1
          try clear hfz12_2
          try clear hx203_0
          try clear hx203_1
          try clear hx203_2
          try clear hx209_0
          try clear hx209_1
          try clear hx209_2
          try clear hx210_0
          try clear hx210_1
          try clear hx210_2
          try clear p2
          try clear p203
          try clear p209
          try clear p210
          try clear q203
          try clear q209
          try clear q210
          obtain ⟨kq, x41_12, rfl, HA, HJ12, BK202, HB⟩ := hcut
          cases kq with
          | zero => exact absurd HA.out (by simp [spinetref12_Call.j1])
          | succ kj12 =>
            have H := HA.out
            clear HA
            simp only [spinetref12_Call.j1] at H
            have HC18 := Aside0.mk H
            clear H
            go_upto_if 41 with (fail)
            repeat (go_quiet (fail); go_upto_if 41 with (fail))
            go_cut [] (fun wc => ∃ (kq : Nat) (x203000_17 : Int) (x203001_17 : Int) (x203002_17 : ByteArray), Aside0 (spinetref12_Call.j2 kq a0 l1 = some (r1, r2, r3, r4)) ∧ Aside0 (kq ≤ kj12) ∧ Aside0 (wc.heap[gb202]? = some (.cells #[.int .i64 x203000_17, .int .i64 x203001_17, .string x203002_17] 23 (0, 0))) ∧ Aside0 (Below w.heap.size w wc))
            case first =>
              have H := HC18.out
              clear HC18
              by_cases c19 : x41_12 = true
              · subst c19
                have H1 : (if 0 < (l1.length : Int) then ((spinetref01_Word.f ((rd_T23 l1 0).f1)).bind fun t212 => (if 1 < (l1.length : Int) then ((spinetref01_Word.f ((rd_T23 l1 1).f1)).bind fun t214 => (if a0.toList = ([76, 83, 76] : List UInt8) then ((spinetref01_Lsl.f kj12 t212 t214).bind fun t215 => ((spinetref01_Signed.f t215).bind fun t216 => ((spinetref12_integer.f kj12 t216).bind fun bt217 => (some (bt217.1, bt217.2.1, bt217.2.2.1, bt217.2.2.2))))) else (if a0.toList = ([65, 83, 82] : List UInt8) then ((spinetref01_Asr.f kj12 t212 t214).bind fun t221 => ((spinetref01_Signed.f t221).bind fun t222 => ((spinetref12_integer.f kj12 t222).bind fun bt223 => (some (bt223.1, bt223.2.1, bt223.2.2.1, bt223.2.2.2))))) else (if a0.toList = ([82, 79, 82] : List UInt8) then ((spinetref01_Ror.f kj12 t212 t214).bind fun t227 => ((spinetref01_Signed.f t227).bind fun t228 => ((spinetref12_integer.f kj12 t228).bind fun bt229 => (some (bt229.1, bt229.2.1, bt229.2.2.1, bt229.2.2.2))))) else (spinetref12_Call.j2 kj12 a0 l1))))) else (none))) else (none)) = some (r1, r2, r3, r4) := by rw [if_pos rfl] at H; exact H
                clear H
                have H := H1
                clear H1
                by_cases c20 : 0 < (l1.length : Int)
                · rw [if_pos c20] at H
                  have c20b0 : decide (0 < (l1.length : Int)) = true := decide_eq_true c20
                  have c20b1 : decide (0 < l1.length) = true := decide_eq_true (by omega)
                  clear c20
                  (first | rw [c20b0] | (simp only [i64_w, i32_w]; rw [c20b0]) | skip)
                  replace H := Option.bind_eq_some_iff.mp H
                  obtain ⟨t212, A210, H⟩ := H
                  replace H : (if 1 < (l1.length : Int) then ((spinetref01_Word.f ((rd_T23 l1 1).f1)).bind fun t214 => (if a0.toList = ([76, 83, 76] : List UInt8) then ((spinetref01_Lsl.f kj12 t212 t214).bind fun t215 => ((spinetref01_Signed.f t215).bind fun t216 => ((spinetref12_integer.f kj12 t216).bind fun bt217 => (some (bt217.1, bt217.2.1, bt217.2.2.1, bt217.2.2.2))))) else (if a0.toList = ([65, 83, 82] : List UInt8) then ((spinetref01_Asr.f kj12 t212 t214).bind fun t221 => ((spinetref01_Signed.f t221).bind fun t222 => ((spinetref12_integer.f kj12 t222).bind fun bt223 => (some (bt223.1, bt223.2.1, bt223.2.2.1, bt223.2.2.2))))) else (if a0.toList = ([82, 79, 82] : List UInt8) then ((spinetref01_Ror.f kj12 t212 t214).bind fun t227 => ((spinetref01_Signed.f t227).bind fun t228 => ((spinetref12_integer.f kj12 t228).bind fun bt229 => (some (bt229.1, bt229.2.1, bt229.2.2.1, bt229.2.2.2))))) else (spinetref12_Call.j2 kj12 a0 l1))))) else (none)) = some (r1, r2, r3, r4) := H
                  have A21 := Aside0.mk A210
                  clear A210
                  by_cases c22 : 1 < (l1.length : Int)
                  · rw [if_pos c22] at H
                    have c22b0 : decide (1 < (l1.length : Int)) = true := decide_eq_true c22
                    have c22b1 : decide (1 < l1.length) = true := decide_eq_true (by omega)
                    clear c22
                    replace H := Option.bind_eq_some_iff.mp H
                    obtain ⟨t214, A230, H⟩ := H
                    replace H : (if a0.toList = ([76, 83, 76] : List UInt8) then ((spinetref01_Lsl.f kj12 t212 t214).bind fun t215 => ((spinetref01_Signed.f t215).bind fun t216 => ((spinetref12_integer.f kj12 t216).bind fun bt217 => (some (bt217.1, bt217.2.1, bt217.2.2.1, bt217.2.2.2))))) else (if a0.toList = ([65, 83, 82] : List UInt8) then ((spinetref01_Asr.f kj12 t212 t214).bind fun t221 => ((spinetref01_Signed.f t221).bind fun t222 => ((spinetref12_integer.f kj12 t222).bind fun bt223 => (some (bt223.1, bt223.2.1, bt223.2.2.1, bt223.2.2.2))))) else (if a0.toList = ([82, 79, 82] : List UInt8) then ((spinetref01_Ror.f kj12 t212 t214).bind fun t227 => ((spinetref01_Signed.f t227).bind fun t228 => ((spinetref12_integer.f kj12 t228).bind fun bt229 => (some (bt229.1, bt229.2.1, bt229.2.2.1, bt229.2.2.2))))) else (spinetref12_Call.j2 kj12 a0 l1)))) = some (r1, r2, r3, r4) := H
                    have A23 := Aside0.mk A230
                    clear A230
                    by_cases c24 : a0.toList = ([76, 83, 76] : List UInt8)
                    · rw [if_pos c24] at H
                      have c24b0 : (a0.toList == ([76, 83, 76] : List UInt8)) = true := beq_iff_eq.mpr c24
                      have c24b1 : (a0.toList != ([76, 83, 76] : List UInt8)) = false := bne_eq_false_iff_eq.mpr c24
                      clear c24
                      replace H := Option.bind_eq_some_iff.mp H
                      obtain ⟨t215, A250, H⟩ := H
                      replace H : ((spinetref01_Signed.f t215).bind fun t216 => ((spinetref12_integer.f kj12 t216).bind fun bt217 => (some (bt217.1, bt217.2.1, bt217.2.2.1, bt217.2.2.2)))) = some (r1, r2, r3, r4) := H
                      have A25 := Aside0.mk A250
                      clear A250
                      replace H := Option.bind_eq_some_iff.mp H
                      obtain ⟨t216, A260, H⟩ := H
                      replace H : ((spinetref12_integer.f kj12 t216).bind fun bt217 => (some (bt217.1, bt217.2.1, bt217.2.2.1, bt217.2.2.2))) = some (r1, r2, r3, r4) := H
                      have A26 := Aside0.mk A260
                      clear A260
                      replace H := Option.bind_eq_some_iff.mp H
                      obtain ⟨⟨t217, t218, t219, t220⟩, A270, H⟩ := H
                      replace H : (some (t217, t218, t219, t220)) = some (r1, r2, r3, r4) := H
                      have A27 := Aside0.mk A270
                      clear A270
                      simp only [Option.some.injEq, Prod.mk.injEq] at H
                      obtain ⟨rfl, rfl, rfl, rfl⟩ := H
                      have p211 : 0 ≤ (0 : Int) := (by omega)
                      have q211 : 0 < (l1.length : Int) := of_decide_eq_true (by first | (with_reducible assumption) | assumption)
                      obtain ⟨ad211, e211, hx211_0, hx211_1, hx211_2⟩ := at_T23 HR1.out 0 p211 q211
                      cases e211
                      have qi211 : (0 < l1.length) = True := eq_true (by omega)
                      (try rw [show ((0 : Int)).toNat = 0 from rfl] at hx211_0)
                      (try rw [show 0 * 3 = 0 from rfl] at hx211_0)
                      (try rw [Addr.add_zero'] at hx211_0)
                      (try rw [show ((0 : Int)).toNat = 0 from rfl] at hx211_1)
                      (try rw [show 0 * 3 = 0 from rfl] at hx211_1)
                      (try rw [Addr.add_zero'] at hx211_1)
                      (try rw [show ((0 : Int)).toNat = 0 from rfl] at hx211_2)
                      (try rw [show 0 * 3 = 0 from rfl] at hx211_2)
                      (try rw [Addr.add_zero'] at hx211_2)
                      replace hx211_0 := (HB.out.cell (World.block_lt_of_cell? w _ hx211_0)).trans hx211_0
                      replace hx211_1 := (HB.out.cell (World.block_lt_of_cell? w _ hx211_1)).trans hx211_1
                      replace hx211_2 := (HB.out.cell (World.block_lt_of_cell? w _ hx211_2)).trans hx211_2
                      replace p211 := eq_true p211
                      replace q211 := eq_true q211
                      go_wp2_with (first | (go_at_call 52; (with_reducible refine (spinetref01_Word.calls ((rd_T23 l1 0).f1) t212 _ A21.out).mono ?_); rintro e w' ⟨rfl, ⟨nd, rfl⟩⟩; (try first | exact ⟨rfl, _, World.drewN_drewN _ _ _⟩ | exact ⟨rfl, _, Eq.trans (World.drewN_drewN _ _ _) (congrArg (World.drewN _) (Nat.add_assoc _ _ _))⟩); have p213 : 0 ≤ (1 : Int) := (by omega); have q213 : 1 < (l1.length : Int) := of_decide_eq_true (by first | (with_reducible assumption) | assumption); obtain ⟨ad213, e213, hx213_0, hx213_1, hx213_2⟩ := at_T23 HR1.out 1 p213 q213; obtain rfl : ad211 = ad213 := (by injection e213); (try simp only [show (1 : Int).toNat = 1 from rfl, Nat.reduceMul, Nat.reduceEqDiff, Go.Addr.add, ↓reduceIte] at hx213_0); (try simp only [show (1 : Int).toNat = 1 from rfl, Nat.reduceMul, Nat.reduceEqDiff, Go.Addr.add, ↓reduceIte] at hx213_1); (try simp only [show (1 : Int).toNat = 1 from rfl, Nat.reduceMul, Nat.reduceEqDiff, Go.Addr.add, ↓reduceIte] at hx213_2); have qi213 : (1 < l1.length) = True := eq_true (by omega); (try rw [show ((1 : Int)).toNat = 1 from rfl] at hx213_0); (try rw [show 1 * 3 = 3 from rfl] at hx213_0); (try rw [show ((1 : Int)).toNat = 1 from rfl] at hx213_1); (try rw [show 1 * 3 = 3 from rfl] at hx213_1); (try rw [show ((1 : Int)).toNat = 1 from rfl] at hx213_2); (try rw [show 1 * 3 = 3 from rfl] at hx213_2); replace hx213_0 := (HB.out.cell (World.block_lt_of_cell? w _ hx213_0)).trans hx213_0; replace hx213_1 := (HB.out.cell (World.block_lt_of_cell? w _ hx213_1)).trans hx213_1; replace hx213_2 := (HB.out.cell (World.block_lt_of_cell? w _ hx213_2)).trans hx213_2; replace p213 := eq_true p213; replace q213 := eq_true q213) | (go_at_call 52; (with_reducible refine (spinetref01_Word.calls ((rd_T23 l1 1).f1) t214 _ A23.out).mono ?_); rintro e w' ⟨rfl, ⟨nd, rfl⟩⟩; (try first | exact ⟨rfl, _, World.drewN_drewN _ _ _⟩ | exact ⟨rfl, _, Eq.trans (World.drewN_drewN _ _ _) (congrArg (World.drewN _) (Nat.add_assoc _ _ _))⟩)) | (go_at_call 54; (with_reducible refine (spinetref01_Lsl.calls kj12 t212 t214 t215 _ A25.out).mono ?_); rintro e w' ⟨rfl, ⟨nd, rfl⟩⟩; (try first | exact ⟨rfl, _, World.drewN_drewN _ _ _⟩ | exact ⟨rfl, _, Eq.trans (World.drewN_drewN _ _ _) (congrArg (World.drewN _) (Nat.add_assoc _ _ _))⟩)) | (go_at_call 53; (with_reducible refine (spinetref01_Signed.calls t215 t216 _ A26.out).mono ?_); rintro e w' ⟨rfl, ⟨nd, rfl⟩⟩; (try first | exact ⟨rfl, _, World.drewN_drewN _ _ _⟩ | exact ⟨rfl, _, Eq.trans (World.drewN_drewN _ _ _) (congrArg (World.drewN _) (Nat.add_assoc _ _ _))⟩)) | (go_at_call 45; (with_reducible refine (spinetref12_integer.calls kj12 t216 t217 t218 t219 t220 _ A27.out).mono ?_); rintro e w28 ⟨rfl, hb⟩; have n0_ := Aside0.mk (blk_below (g := gb202) (o := .cells #[.int .i64 x203000_1, .int .i64 x203001_1, .string x203002_1] 23 (0, 0)) (by (with_reducible repeat (first | refine blk_drewN ?_ _ | refine blk_drew ?_ | refine blk_alloc ?_ _)); exact BK202.out) hb); have n1_ := Aside0.mk (below_step (by repeat (first | (with_reducible first | exact HB.out | apply below_alloc | apply pw_below_drewN | apply below_drew1 | refine below_set ?_ GE202.out) | exact HB.out)) hb); clear BK202; clear HB; have BK202 := n0_; have HB := n1_; clear n0_ n1_; (try clear hb); (try clear hb2); (try clear hk); (try clear hi); have hcz29_0 : w28.cell? ⟨gb202, 0, none⟩ = some (.int .i64 x203000_1) := (blk_cell BK202.out 0).trans rfl; have hcz29_1 : w28.cell? ⟨gb202, 1, none⟩ = some (.int .i64 x203001_1) := (blk_cell BK202.out 1).trans rfl; have hcz29_2 : w28.cell? ⟨gb202, 2, none⟩ = some (.string x203002_1) := (blk_cell BK202.out 2).trans rfl; have hfz29_0 := blk_frozen BK202.out 0; have hfz29_1 := blk_frozen BK202.out 1; have hfz29_2 := blk_frozen BK202.out 2))
                      repeat (go_quiet (first | (go_at_call 52; (with_reducible refine (spinetref01_Word.calls ((rd_T23 l1 0).f1) t212 _ A21.out).mono ?_); rintro e w' ⟨rfl, ⟨nd, rfl⟩⟩; (try first | exact ⟨rfl, _, World.drewN_drewN _ _ _⟩ | exact ⟨rfl, _, Eq.trans (World.drewN_drewN _ _ _) (congrArg (World.drewN _) (Nat.add_assoc _ _ _))⟩); have p213 : 0 ≤ (1 : Int) := (by omega); have q213 : 1 < (l1.length : Int) := of_decide_eq_true (by first | (with_reducible assumption) | assumption); obtain ⟨ad213, e213, hx213_0, hx213_1, hx213_2⟩ := at_T23 HR1.out 1 p213 q213; obtain rfl : ad211 = ad213 := (by injection e213); (try simp only [show (1 : Int).toNat = 1 from rfl, Nat.reduceMul, Nat.reduceEqDiff, Go.Addr.add, ↓reduceIte] at hx213_0); (try simp only [show (1 : Int).toNat = 1 from rfl, Nat.reduceMul, Nat.reduceEqDiff, Go.Addr.add, ↓reduceIte] at hx213_1); (try simp only [show (1 : Int).toNat = 1 from rfl, Nat.reduceMul, Nat.reduceEqDiff, Go.Addr.add, ↓reduceIte] at hx213_2); have qi213 : (1 < l1.length) = True := eq_true (by omega); (try rw [show ((1 : Int)).toNat = 1 from rfl] at hx213_0); (try rw [show 1 * 3 = 3 from rfl] at hx213_0); (try rw [show ((1 : Int)).toNat = 1 from rfl] at hx213_1); (try rw [show 1 * 3 = 3 from rfl] at hx213_1); (try rw [show ((1 : Int)).toNat = 1 from rfl] at hx213_2); (try rw [show 1 * 3 = 3 from rfl] at hx213_2); replace hx213_0 := (HB.out.cell (World.block_lt_of_cell? w _ hx213_0)).trans hx213_0; replace hx213_1 := (HB.out.cell (World.block_lt_of_cell? w _ hx213_1)).trans hx213_1; replace hx213_2 := (HB.out.cell (World.block_lt_of_cell? w _ hx213_2)).trans hx213_2; replace p213 := eq_true p213; replace q213 := eq_true q213) | (go_at_call 52; (with_reducible refine (spinetref01_Word.calls ((rd_T23 l1 1).f1) t214 _ A23.out).mono ?_); rintro e w' ⟨rfl, ⟨nd, rfl⟩⟩; (try first | exact ⟨rfl, _, World.drewN_drewN _ _ _⟩ | exact ⟨rfl, _, Eq.trans (World.drewN_drewN _ _ _) (congrArg (World.drewN _) (Nat.add_assoc _ _ _))⟩)) | (go_at_call 54; (with_reducible refine (spinetref01_Lsl.calls kj12 t212 t214 t215 _ A25.out).mono ?_); rintro e w' ⟨rfl, ⟨nd, rfl⟩⟩; (try first | exact ⟨rfl, _, World.drewN_drewN _ _ _⟩ | exact ⟨rfl, _, Eq.trans (World.drewN_drewN _ _ _) (congrArg (World.drewN _) (Nat.add_assoc _ _ _))⟩)) | (go_at_call 53; (with_reducible refine (spinetref01_Signed.calls t215 t216 _ A26.out).mono ?_); rintro e w' ⟨rfl, ⟨nd, rfl⟩⟩; (try first | exact ⟨rfl, _, World.drewN_drewN _ _ _⟩ | exact ⟨rfl, _, Eq.trans (World.drewN_drewN _ _ _) (congrArg (World.drewN _) (Nat.add_assoc _ _ _))⟩)) | (go_at_call 45; (with_reducible refine (spinetref12_integer.calls kj12 t216 t217 t218 t219 t220 _ A27.out).mono ?_); rintro e w28 ⟨rfl, hb⟩; have n0_ := Aside0.mk (blk_below (g := gb202) (o := .cells #[.int .i64 x203000_1, .int .i64 x203001_1, .string x203002_1] 23 (0, 0)) (by (with_reducible repeat (first | refine blk_drewN ?_ _ | refine blk_drew ?_ | refine blk_alloc ?_ _)); exact BK202.out) hb); have n1_ := Aside0.mk (below_step (by repeat (first | (with_reducible first | exact HB.out | apply below_alloc | apply pw_below_drewN | apply below_drew1 | refine below_set ?_ GE202.out) | exact HB.out)) hb); clear BK202; clear HB; have BK202 := n0_; have HB := n1_; clear n0_ n1_; (try clear hb); (try clear hb2); (try clear hk); (try clear hi); have hcz29_0 : w28.cell? ⟨gb202, 0, none⟩ = some (.int .i64 x203000_1) := (blk_cell BK202.out 0).trans rfl; have hcz29_1 : w28.cell? ⟨gb202, 1, none⟩ = some (.int .i64 x203001_1) := (blk_cell BK202.out 1).trans rfl; have hcz29_2 : w28.cell? ⟨gb202, 2, none⟩ = some (.string x203002_1) := (blk_cell BK202.out 2).trans rfl; have hfz29_0 := blk_frozen BK202.out 0; have hfz29_1 := blk_frozen BK202.out 1; have hfz29_2 := blk_frozen BK202.out 2)); try go_wp2_with (first | (go_at_call 52; (with_reducible refine (spinetref01_Word.calls ((rd_T23 l1 0).f1) t212 _ A21.out).mono ?_); rintro e w' ⟨rfl, ⟨nd, rfl⟩⟩; (try first | exact ⟨rfl, _, World.drewN_drewN _ _ _⟩ | exact ⟨rfl, _, Eq.trans (World.drewN_drewN _ _ _) (congrArg (World.drewN _) (Nat.add_assoc _ _ _))⟩); have p213 : 0 ≤ (1 : Int) := (by omega); have q213 : 1 < (l1.length : Int) := of_decide_eq_true (by first | (with_reducible assumption) | assumption); obtain ⟨ad213, e213, hx213_0, hx213_1, hx213_2⟩ := at_T23 HR1.out 1 p213 q213; obtain rfl : ad211 = ad213 := (by injection e213); (try simp only [show (1 : Int).toNat = 1 from rfl, Nat.reduceMul, Nat.reduceEqDiff, Go.Addr.add, ↓reduceIte] at hx213_0); (try simp only [show (1 : Int).toNat = 1 from rfl, Nat.reduceMul, Nat.reduceEqDiff, Go.Addr.add, ↓reduceIte] at hx213_1); (try simp only [show (1 : Int).toNat = 1 from rfl, Nat.reduceMul, Nat.reduceEqDiff, Go.Addr.add, ↓reduceIte] at hx213_2); have qi213 : (1 < l1.length) = True := eq_true (by omega); (try rw [show ((1 : Int)).toNat = 1 from rfl] at hx213_0); (try rw [show 1 * 3 = 3 from rfl] at hx213_0); (try rw [show ((1 : Int)).toNat = 1 from rfl] at hx213_1); (try rw [show 1 * 3 = 3 from rfl] at hx213_1); (try rw [show ((1 : Int)).toNat = 1 from rfl] at hx213_2); (try rw [show 1 * 3 = 3 from rfl] at hx213_2); replace hx213_0 := (HB.out.cell (World.block_lt_of_cell? w _ hx213_0)).trans hx213_0; replace hx213_1 := (HB.out.cell (World.block_lt_of_cell? w _ hx213_1)).trans hx213_1; replace hx213_2 := (HB.out.cell (World.block_lt_of_cell? w _ hx213_2)).trans hx213_2; replace p213 := eq_true p213; replace q213 := eq_true q213) | (go_at_call 52; (with_reducible refine (spinetref01_Word.calls ((rd_T23 l1 1).f1) t214 _ A23.out).mono ?_); rintro e w' ⟨rfl, ⟨nd, rfl⟩⟩; (try first | exact ⟨rfl, _, World.drewN_drewN _ _ _⟩ | exact ⟨rfl, _, Eq.trans (World.drewN_drewN _ _ _) (congrArg (World.drewN _) (Nat.add_assoc _ _ _))⟩)) | (go_at_call 54; (with_reducible refine (spinetref01_Lsl.calls kj12 t212 t214 t215 _ A25.out).mono ?_); rintro e w' ⟨rfl, ⟨nd, rfl⟩⟩; (try first | exact ⟨rfl, _, World.drewN_drewN _ _ _⟩ | exact ⟨rfl, _, Eq.trans (World.drewN_drewN _ _ _) (congrArg (World.drewN _) (Nat.add_assoc _ _ _))⟩)) | (go_at_call 53; (with_reducible refine (spinetref01_Signed.calls t215 t216 _ A26.out).mono ?_); rintro e w' ⟨rfl, ⟨nd, rfl⟩⟩; (try first | exact ⟨rfl, _, World.drewN_drewN _ _ _⟩ | exact ⟨rfl, _, Eq.trans (World.drewN_drewN _ _ _) (congrArg (World.drewN _) (Nat.add_assoc _ _ _))⟩)) | (go_at_call 45; (with_reducible refine (spinetref12_integer.calls kj12 t216 t217 t218 t219 t220 _ A27.out).mono ?_); rintro e w28 ⟨rfl, hb⟩; have n0_ := Aside0.mk (blk_below (g := gb202) (o := .cells #[.int .i64 x203000_1, .int .i64 x203001_1, .string x203002_1] 23 (0, 0)) (by (with_reducible repeat (first | refine blk_drewN ?_ _ | refine blk_drew ?_ | refine blk_alloc ?_ _)); exact BK202.out) hb); have n1_ := Aside0.mk (below_step (by repeat (first | (with_reducible first | exact HB.out | apply below_alloc | apply pw_below_drewN | apply below_drew1 | refine below_set ?_ GE202.out) | exact HB.out)) hb); clear BK202; clear HB; have BK202 := n0_; have HB := n1_; clear n0_ n1_; (try clear hb); (try clear hb2); (try clear hk); (try clear hi); have hcz29_0 : w28.cell? ⟨gb202, 0, none⟩ = some (.int .i64 x203000_1) := (blk_cell BK202.out 0).trans rfl; have hcz29_1 : w28.cell? ⟨gb202, 1, none⟩ = some (.int .i64 x203001_1) := (blk_cell BK202.out 1).trans rfl; have hcz29_2 : w28.cell? ⟨gb202, 2, none⟩ = some (.string x203002_1) := (blk_cell BK202.out 2).trans rfl; have hfz29_0 := blk_frozen BK202.out 0; have hfz29_1 := blk_frozen BK202.out 1; have hfz29_2 := blk_frozen BK202.out 2)))
                      refine bodyPost_ret (results_ct rfl _ _ gb202 23 #[.int .i64 t217, .int .i64 t218, .string t219] (0, 0) _ rfl (by (with_reducible repeat (first | refine blk_drewN ?_ _ | refine blk_drew ?_ | refine blk_alloc ?_ _)); refine blk_put (cs := #[.int .i64 t217, .int .i64 t218, .string x203002_1]) ?_ 2 _ rfl; (with_reducible repeat (first | refine blk_drewN ?_ _ | refine blk_drew ?_ | refine blk_alloc ?_ _)); refine blk_put (cs := #[.int .i64 t217, .int .i64 x203001_1, .string x203002_1]) ?_ 1 _ rfl; (with_reducible repeat (first | refine blk_drewN ?_ _ | refine blk_drew ?_ | refine blk_alloc ?_ _)); refine blk_put (cs := #[.int .i64 x203000_1, .int .i64 x203001_1, .string x203002_1]) ?_ 0 _ rfl; (with_reducible repeat (first | refine blk_drewN ?_ _ | refine blk_drew ?_ | refine blk_alloc ?_ _)); exact BK202.out) Try.underlying23 rfl (by kernel_rfl)) rfl ?_
                      exact ⟨by first | rfl | (simp [errW_none, errW_some] <;> rfl) | (simp [*, errW_none, errW_some] <;> rfl), by repeat (first | (with_reducible first | exact HB.out | apply below_alloc | apply pw_below_drewN | apply below_drew1 | refine below_set ?_ GE202.out) | exact HB.out)⟩
                    · rw [if_neg c24] at H
                      have c24b0 : (a0.toList == ([76, 83, 76] : List UInt8)) = false := beq_eq_false_iff_ne.mpr c24
                      have c24b1 : (a0.toList != ([76, 83, 76] : List UInt8)) = true := bne_iff_ne.mpr c24
                      by_cases c30 : a0.toList = ([65, 83, 82] : List UInt8)
                      · rw [if_pos c30] at H
                        have c30b0 : (a0.toList == ([65, 83, 82] : List UInt8)) = true := beq_iff_eq.mpr c30
                        have c30b1 : (a0.toList != ([65, 83, 82] : List UInt8)) = false := bne_eq_false_iff_eq.mpr c30
                        clear c30
                        replace H := Option.bind_eq_some_iff.mp H
                        obtain ⟨t221, A310, H⟩ := H
                        replace H : ((spinetref01_Signed.f t221).bind fun t222 => ((spinetref12_integer.f kj12 t222).bind fun bt223 => (some (bt223.1, bt223.2.1, bt223.2.2.1, bt223.2.2.2)))) = some (r1, r2, r3, r4) := H
                        have A31 := Aside0.mk A310
                        clear A310
                        replace H := Option.bind_eq_some_iff.mp H
                        obtain ⟨t222, A320, H⟩ := H
                        replace H : ((spinetref12_integer.f kj12 t222).bind fun bt223 => (some (bt223.1, bt223.2.1, bt223.2.2.1, bt223.2.2.2))) = some (r1, r2, r3, r4) := H
                        have A32 := Aside0.mk A320
                        clear A320
                        replace H := Option.bind_eq_some_iff.mp H
                        obtain ⟨⟨t223, t224, t225, t226⟩, A330, H⟩ := H
                        replace H : (some (t223, t224, t225, t226)) = some (r1, r2, r3, r4) := H
                        have A33 := Aside0.mk A330
                        clear A330
                        simp only [Option.some.injEq, Prod.mk.injEq] at H
                        obtain ⟨rfl, rfl, rfl, rfl⟩ := H
                        have p211 : 0 ≤ (0 : Int) := (by omega)
                        have q211 : 0 < (l1.length : Int) := of_decide_eq_true (by first | (with_reducible assumption) | assumption)
                        obtain ⟨ad211, e211, hx211_0, hx211_1, hx211_2⟩ := at_T23 HR1.out 0 p211 q211
                        cases e211
                        have qi211 : (0 < l1.length) = True := eq_true (by omega)
                        (try rw [show ((0 : Int)).toNat = 0 from rfl] at hx211_0)
                        (try rw [show 0 * 3 = 0 from rfl] at hx211_0)
                        (try rw [Addr.add_zero'] at hx211_0)
                        (try rw [show ((0 : Int)).toNat = 0 from rfl] at hx211_1)
                        (try rw [show 0 * 3 = 0 from rfl] at hx211_1)
                        (try rw [Addr.add_zero'] at hx211_1)
                        (try rw [show ((0 : Int)).toNat = 0 from rfl] at hx211_2)
                        (try rw [show 0 * 3 = 0 from rfl] at hx211_2)
                        (try rw [Addr.add_zero'] at hx211_2)
                        replace hx211_0 := (HB.out.cell (World.block_lt_of_cell? w _ hx211_0)).trans hx211_0
                        replace hx211_1 := (HB.out.cell (World.block_lt_of_cell? w _ hx211_1)).trans hx211_1
                        replace hx211_2 := (HB.out.cell (World.block_lt_of_cell? w _ hx211_2)).trans hx211_2
                        replace p211 := eq_true p211
                        replace q211 := eq_true q211
                        go_wp2_with (first | (go_at_call 52; (with_reducible refine (spinetref01_Word.calls ((rd_T23 l1 0).f1) t212 _ A21.out).mono ?_); rintro e w' ⟨rfl, ⟨nd, rfl⟩⟩; (try first | exact ⟨rfl, _, World.drewN_drewN _ _ _⟩ | exact ⟨rfl, _, Eq.trans (World.drewN_drewN _ _ _) (congrArg (World.drewN _) (Nat.add_assoc _ _ _))⟩); have p213 : 0 ≤ (1 : Int) := (by omega); have q213 : 1 < (l1.length : Int) := of_decide_eq_true (by first | (with_reducible assumption) | assumption); obtain ⟨ad213, e213, hx213_0, hx213_1, hx213_2⟩ := at_T23 HR1.out 1 p213 q213; obtain rfl : ad211 = ad213 := (by injection e213); (try simp only [show (1 : Int).toNat = 1 from rfl, Nat.reduceMul, Nat.reduceEqDiff, Go.Addr.add, ↓reduceIte] at hx213_0); (try simp only [show (1 : Int).toNat = 1 from rfl, Nat.reduceMul, Nat.reduceEqDiff, Go.Addr.add, ↓reduceIte] at hx213_1); (try simp only [show (1 : Int).toNat = 1 from rfl, Nat.reduceMul, Nat.reduceEqDiff, Go.Addr.add, ↓reduceIte] at hx213_2); have qi213 : (1 < l1.length) = True := eq_true (by omega); (try rw [show ((1 : Int)).toNat = 1 from rfl] at hx213_0); (try rw [show 1 * 3 = 3 from rfl] at hx213_0); (try rw [show ((1 : Int)).toNat = 1 from rfl] at hx213_1); (try rw [show 1 * 3 = 3 from rfl] at hx213_1); (try rw [show ((1 : Int)).toNat = 1 from rfl] at hx213_2); (try rw [show 1 * 3 = 3 from rfl] at hx213_2); replace hx213_0 := (HB.out.cell (World.block_lt_of_cell? w _ hx213_0)).trans hx213_0; replace hx213_1 := (HB.out.cell (World.block_lt_of_cell? w _ hx213_1)).trans hx213_1; replace hx213_2 := (HB.out.cell (World.block_lt_of_cell? w _ hx213_2)).trans hx213_2; replace p213 := eq_true p213; replace q213 := eq_true q213) | (go_at_call 52; (with_reducible refine (spinetref01_Word.calls ((rd_T23 l1 1).f1) t214 _ A23.out).mono ?_); rintro e w' ⟨rfl, ⟨nd, rfl⟩⟩; (try first | exact ⟨rfl, _, World.drewN_drewN _ _ _⟩ | exact ⟨rfl, _, Eq.trans (World.drewN_drewN _ _ _) (congrArg (World.drewN _) (Nat.add_assoc _ _ _))⟩)) | (go_at_call 55; (with_reducible refine (spinetref01_Asr.calls kj12 t212 t214 t221 _ A31.out).mono ?_); rintro e w' ⟨rfl, ⟨nd, rfl⟩⟩; (try first | exact ⟨rfl, _, World.drewN_drewN _ _ _⟩ | exact ⟨rfl, _, Eq.trans (World.drewN_drewN _ _ _) (congrArg (World.drewN _) (Nat.add_assoc _ _ _))⟩)) | (go_at_call 53; (with_reducible refine (spinetref01_Signed.calls t221 t222 _ A32.out).mono ?_); rintro e w' ⟨rfl, ⟨nd, rfl⟩⟩; (try first | exact ⟨rfl, _, World.drewN_drewN _ _ _⟩ | exact ⟨rfl, _, Eq.trans (World.drewN_drewN _ _ _) (congrArg (World.drewN _) (Nat.add_assoc _ _ _))⟩)) | (go_at_call 45; (with_reducible refine (spinetref12_integer.calls kj12 t222 t223 t224 t225 t226 _ A33.out).mono ?_); rintro e w34 ⟨rfl, hb⟩; have n0_ := Aside0.mk (blk_below (g := gb202) (o := .cells #[.int .i64 x203000_1, .int .i64 x203001_1, .string x203002_1] 23 (0, 0)) (by (with_reducible repeat (first | refine blk_drewN ?_ _ | refine blk_drew ?_ | refine blk_alloc ?_ _)); exact BK202.out) hb); have n1_ := Aside0.mk (below_step (by repeat (first | (with_reducible first | exact HB.out | apply below_alloc | apply pw_below_drewN | apply below_drew1 | refine below_set ?_ GE202.out) | exact HB.out)) hb); clear BK202; clear HB; have BK202 := n0_; have HB := n1_; clear n0_ n1_; (try clear hb); (try clear hb2); (try clear hk); (try clear hi); have hcz35_0 : w34.cell? ⟨gb202, 0, none⟩ = some (.int .i64 x203000_1) := (blk_cell BK202.out 0).trans rfl; have hcz35_1 : w34.cell? ⟨gb202, 1, none⟩ = some (.int .i64 x203001_1) := (blk_cell BK202.out 1).trans rfl; have hcz35_2 : w34.cell? ⟨gb202, 2, none⟩ = some (.string x203002_1) := (blk_cell BK202.out 2).trans rfl; have hfz35_0 := blk_frozen BK202.out 0; have hfz35_1 := blk_frozen BK202.out 1; have hfz35_2 := blk_frozen BK202.out 2))
                        repeat (go_quiet (first | (go_at_call 52; (with_reducible refine (spinetref01_Word.calls ((rd_T23 l1 0).f1) t212 _ A21.out).mono ?_); rintro e w' ⟨rfl, ⟨nd, rfl⟩⟩; (try first | exact ⟨rfl, _, World.drewN_drewN _ _ _⟩ | exact ⟨rfl, _, Eq.trans (World.drewN_drewN _ _ _) (congrArg (World.drewN _) (Nat.add_assoc _ _ _))⟩); have p213 : 0 ≤ (1 : Int) := (by omega); have q213 : 1 < (l1.length : Int) := of_decide_eq_true (by first | (with_reducible assumption) | assumption); obtain ⟨ad213, e213, hx213_0, hx213_1, hx213_2⟩ := at_T23 HR1.out 1 p213 q213; obtain rfl : ad211 = ad213 := (by injection e213); (try simp only [show (1 : Int).toNat = 1 from rfl, Nat.reduceMul, Nat.reduceEqDiff, Go.Addr.add, ↓reduceIte] at hx213_0); (try simp only [show (1 : Int).toNat = 1 from rfl, Nat.reduceMul, Nat.reduceEqDiff, Go.Addr.add, ↓reduceIte] at hx213_1); (try simp only [show (1 : Int).toNat = 1 from rfl, Nat.reduceMul, Nat.reduceEqDiff, Go.Addr.add, ↓reduceIte] at hx213_2); have qi213 : (1 < l1.length) = True := eq_true (by omega); (try rw [show ((1 : Int)).toNat = 1 from rfl] at hx213_0); (try rw [show 1 * 3 = 3 from rfl] at hx213_0); (try rw [show ((1 : Int)).toNat = 1 from rfl] at hx213_1); (try rw [show 1 * 3 = 3 from rfl] at hx213_1); (try rw [show ((1 : Int)).toNat = 1 from rfl] at hx213_2); (try rw [show 1 * 3 = 3 from rfl] at hx213_2); replace hx213_0 := (HB.out.cell (World.block_lt_of_cell? w _ hx213_0)).trans hx213_0; replace hx213_1 := (HB.out.cell (World.block_lt_of_cell? w _ hx213_1)).trans hx213_1; replace hx213_2 := (HB.out.cell (World.block_lt_of_cell? w _ hx213_2)).trans hx213_2; replace p213 := eq_true p213; replace q213 := eq_true q213) | (go_at_call 52; (with_reducible refine (spinetref01_Word.calls ((rd_T23 l1 1).f1) t214 _ A23.out).mono ?_); rintro e w' ⟨rfl, ⟨nd, rfl⟩⟩; (try first | exact ⟨rfl, _, World.drewN_drewN _ _ _⟩ | exact ⟨rfl, _, Eq.trans (World.drewN_drewN _ _ _) (congrArg (World.drewN _) (Nat.add_assoc _ _ _))⟩)) | (go_at_call 55; (with_reducible refine (spinetref01_Asr.calls kj12 t212 t214 t221 _ A31.out).mono ?_); rintro e w' ⟨rfl, ⟨nd, rfl⟩⟩; (try first | exact ⟨rfl, _, World.drewN_drewN _ _ _⟩ | exact ⟨rfl, _, Eq.trans (World.drewN_drewN _ _ _) (congrArg (World.drewN _) (Nat.add_assoc _ _ _))⟩)) | (go_at_call 53; (with_reducible refine (spinetref01_Signed.calls t221 t222 _ A32.out).mono ?_); rintro e w' ⟨rfl, ⟨nd, rfl⟩⟩; (try first | exact ⟨rfl, _, World.drewN_drewN _ _ _⟩ | exact ⟨rfl, _, Eq.trans (World.drewN_drewN _ _ _) (congrArg (World.drewN _) (Nat.add_assoc _ _ _))⟩)) | (go_at_call 45; (with_reducible refine (spinetref12_integer.calls kj12 t222 t223 t224 t225 t226 _ A33.out).mono ?_); rintro e w34 ⟨rfl, hb⟩; have n0_ := Aside0.mk (blk_below (g := gb202) (o := .cells #[.int .i64 x203000_1, .int .i64 x203001_1, .string x203002_1] 23 (0, 0)) (by (with_reducible repeat (first | refine blk_drewN ?_ _ | refine blk_drew ?_ | refine blk_alloc ?_ _)); exact BK202.out) hb); have n1_ := Aside0.mk (below_step (by repeat (first | (with_reducible first | exact HB.out | apply below_alloc | apply pw_below_drewN | apply below_drew1 | refine below_set ?_ GE202.out) | exact HB.out)) hb); clear BK202; clear HB; have BK202 := n0_; have HB := n1_; clear n0_ n1_; (try clear hb); (try clear hb2); (try clear hk); (try clear hi); have hcz35_0 : w34.cell? ⟨gb202, 0, none⟩ = some (.int .i64 x203000_1) := (blk_cell BK202.out 0).trans rfl; have hcz35_1 : w34.cell? ⟨gb202, 1, none⟩ = some (.int .i64 x203001_1) := (blk_cell BK202.out 1).trans rfl; have hcz35_2 : w34.cell? ⟨gb202, 2, none⟩ = some (.string x203002_1) := (blk_cell BK202.out 2).trans rfl; have hfz35_0 := blk_frozen BK202.out 0; have hfz35_1 := blk_frozen BK202.out 1; have hfz35_2 := blk_frozen BK202.out 2)); try go_wp2_with (first | (go_at_call 52; (with_reducible refine (spinetref01_Word.calls ((rd_T23 l1 0).f1) t212 _ A21.out).mono ?_); rintro e w' ⟨rfl, ⟨nd, rfl⟩⟩; (try first | exact ⟨rfl, _, World.drewN_drewN _ _ _⟩ | exact ⟨rfl, _, Eq.trans (World.drewN_drewN _ _ _) (congrArg (World.drewN _) (Nat.add_assoc _ _ _))⟩); have p213 : 0 ≤ (1 : Int) := (by omega); have q213 : 1 < (l1.length : Int) := of_decide_eq_true (by first | (with_reducible assumption) | assumption); obtain ⟨ad213, e213, hx213_0, hx213_1, hx213_2⟩ := at_T23 HR1.out 1 p213 q213; obtain rfl : ad211 = ad213 := (by injection e213); (try simp only [show (1 : Int).toNat = 1 from rfl, Nat.reduceMul, Nat.reduceEqDiff, Go.Addr.add, ↓reduceIte] at hx213_0); (try simp only [show (1 : Int).toNat = 1 from rfl, Nat.reduceMul, Nat.reduceEqDiff, Go.Addr.add, ↓reduceIte] at hx213_1); (try simp only [show (1 : Int).toNat = 1 from rfl, Nat.reduceMul, Nat.reduceEqDiff, Go.Addr.add, ↓reduceIte] at hx213_2); have qi213 : (1 < l1.length) = True := eq_true (by omega); (try rw [show ((1 : Int)).toNat = 1 from rfl] at hx213_0); (try rw [show 1 * 3 = 3 from rfl] at hx213_0); (try rw [show ((1 : Int)).toNat = 1 from rfl] at hx213_1); (try rw [show 1 * 3 = 3 from rfl] at hx213_1); (try rw [show ((1 : Int)).toNat = 1 from rfl] at hx213_2); (try rw [show 1 * 3 = 3 from rfl] at hx213_2); replace hx213_0 := (HB.out.cell (World.block_lt_of_cell? w _ hx213_0)).trans hx213_0; replace hx213_1 := (HB.out.cell (World.block_lt_of_cell? w _ hx213_1)).trans hx213_1; replace hx213_2 := (HB.out.cell (World.block_lt_of_cell? w _ hx213_2)).trans hx213_2; replace p213 := eq_true p213; replace q213 := eq_true q213) | (go_at_call 52; (with_reducible refine (spinetref01_Word.calls ((rd_T23 l1 1).f1) t214 _ A23.out).mono ?_); rintro e w' ⟨rfl, ⟨nd, rfl⟩⟩; (try first | exact ⟨rfl, _, World.drewN_drewN _ _ _⟩ | exact ⟨rfl, _, Eq.trans (World.drewN_drewN _ _ _) (congrArg (World.drewN _) (Nat.add_assoc _ _ _))⟩)) | (go_at_call 55; (with_reducible refine (spinetref01_Asr.calls kj12 t212 t214 t221 _ A31.out).mono ?_); rintro e w' ⟨rfl, ⟨nd, rfl⟩⟩; (try first | exact ⟨rfl, _, World.drewN_drewN _ _ _⟩ | exact ⟨rfl, _, Eq.trans (World.drewN_drewN _ _ _) (congrArg (World.drewN _) (Nat.add_assoc _ _ _))⟩)) | (go_at_call 53; (with_reducible refine (spinetref01_Signed.calls t221 t222 _ A32.out).mono ?_); rintro e w' ⟨rfl, ⟨nd, rfl⟩⟩; (try first | exact ⟨rfl, _, World.drewN_drewN _ _ _⟩ | exact ⟨rfl, _, Eq.trans (World.drewN_drewN _ _ _) (congrArg (World.drewN _) (Nat.add_assoc _ _ _))⟩)) | (go_at_call 45; (with_reducible refine (spinetref12_integer.calls kj12 t222 t223 t224 t225 t226 _ A33.out).mono ?_); rintro e w34 ⟨rfl, hb⟩; have n0_ := Aside0.mk (blk_below (g := gb202) (o := .cells #[.int .i64 x203000_1, .int .i64 x203001_1, .string x203002_1] 23 (0, 0)) (by (with_reducible repeat (first | refine blk_drewN ?_ _ | refine blk_drew ?_ | refine blk_alloc ?_ _)); exact BK202.out) hb); have n1_ := Aside0.mk (below_step (by repeat (first | (with_reducible first | exact HB.out | apply below_alloc | apply pw_below_drewN | apply below_drew1 | refine below_set ?_ GE202.out) | exact HB.out)) hb); clear BK202; clear HB; have BK202 := n0_; have HB := n1_; clear n0_ n1_; (try clear hb); (try clear hb2); (try clear hk); (try clear hi); have hcz35_0 : w34.cell? ⟨gb202, 0, none⟩ = some (.int .i64 x203000_1) := (blk_cell BK202.out 0).trans rfl; have hcz35_1 : w34.cell? ⟨gb202, 1, none⟩ = some (.int .i64 x203001_1) := (blk_cell BK202.out 1).trans rfl; have hcz35_2 : w34.cell? ⟨gb202, 2, none⟩ = some (.string x203002_1) := (blk_cell BK202.out 2).trans rfl; have hfz35_0 := blk_frozen BK202.out 0; have hfz35_1 := blk_frozen BK202.out 1; have hfz35_2 := blk_frozen BK202.out 2)))
                        refine bodyPost_ret (results_ct rfl _ _ gb202 23 #[.int .i64 t223, .int .i64 t224, .string t225] (0, 0) _ rfl (by (with_reducible repeat (first | refine blk_drewN ?_ _ | refine blk_drew ?_ | refine blk_alloc ?_ _)); refine blk_put (cs := #[.int .i64 t223, .int .i64 t224, .string x203002_1]) ?_ 2 _ rfl; (with_reducible repeat (first | refine blk_drewN ?_ _ | refine blk_drew ?_ | refine blk_alloc ?_ _)); refine blk_put (cs := #[.int .i64 t223, .int .i64 x203001_1, .string x203002_1]) ?_ 1 _ rfl; (with_reducible repeat (first | refine blk_drewN ?_ _ | refine blk_drew ?_ | refine blk_alloc ?_ _)); refine blk_put (cs := #[.int .i64 x203000_1, .int .i64 x203001_1, .string x203002_1]) ?_ 0 _ rfl; (with_reducible repeat (first | refine blk_drewN ?_ _ | refine blk_drew ?_ | refine blk_alloc ?_ _)); exact BK202.out) Try.underlying23 rfl (by kernel_rfl)) rfl ?_
                        exact ⟨by first | rfl | (simp [errW_none, errW_some] <;> rfl) | (simp [*, errW_none, errW_some] <;> rfl), by repeat (first | (with_reducible first | exact HB.out | apply below_alloc | apply pw_below_drewN | apply below_drew1 | refine below_set ?_ GE202.out) | exact HB.out)⟩
                      · rw [if_neg c30] at H
                        have c30b0 : (a0.toList == ([65, 83, 82] : List UInt8)) = false := beq_eq_false_iff_ne.mpr c30
                        have c30b1 : (a0.toList != ([65, 83, 82] : List UInt8)) = true := bne_iff_ne.mpr c30
                        by_cases c36 : a0.toList = ([82, 79, 82] : List UInt8)
                        · rw [if_pos c36] at H
                          have c36b0 : (a0.toList == ([82, 79, 82] : List UInt8)) = true := beq_iff_eq.mpr c36
                          have c36b1 : (a0.toList != ([82, 79, 82] : List UInt8)) = false := bne_eq_false_iff_eq.mpr c36
                          clear c36
                          replace H := Option.bind_eq_some_iff.mp H
                          obtain ⟨t227, A370, H⟩ := H
                          replace H : ((spinetref01_Signed.f t227).bind fun t228 => ((spinetref12_integer.f kj12 t228).bind fun bt229 => (some (bt229.1, bt229.2.1, bt229.2.2.1, bt229.2.2.2)))) = some (r1, r2, r3, r4) := H
                          have A37 := Aside0.mk A370
                          clear A370
                          replace H := Option.bind_eq_some_iff.mp H
                          obtain ⟨t228, A380, H⟩ := H
                          replace H : ((spinetref12_integer.f kj12 t228).bind fun bt229 => (some (bt229.1, bt229.2.1, bt229.2.2.1, bt229.2.2.2))) = some (r1, r2, r3, r4) := H
                          have A38 := Aside0.mk A380
                          clear A380
                          replace H := Option.bind_eq_some_iff.mp H
                          obtain ⟨⟨t229, t230, t231, t232⟩, A390, H⟩ := H
                          replace H : (some (t229, t230, t231, t232)) = some (r1, r2, r3, r4) := H
                          have A39 := Aside0.mk A390
                          clear A390
                          simp only [Option.some.injEq, Prod.mk.injEq] at H
                          obtain ⟨rfl, rfl, rfl, rfl⟩ := H
                          have p211 : 0 ≤ (0 : Int) := (by omega)
                          have q211 : 0 < (l1.length : Int) := of_decide_eq_true (by first | (with_reducible assumption) | assumption)
                          obtain ⟨ad211, e211, hx211_0, hx211_1, hx211_2⟩ := at_T23 HR1.out 0 p211 q211
                          cases e211
                          have qi211 : (0 < l1.length) = True := eq_true (by omega)
                          (try rw [show ((0 : Int)).toNat = 0 from rfl] at hx211_0)
                          (try rw [show 0 * 3 = 0 from rfl] at hx211_0)
                          (try rw [Addr.add_zero'] at hx211_0)
                          (try rw [show ((0 : Int)).toNat = 0 from rfl] at hx211_1)
                          (try rw [show 0 * 3 = 0 from rfl] at hx211_1)
                          (try rw [Addr.add_zero'] at hx211_1)
                          (try rw [show ((0 : Int)).toNat = 0 from rfl] at hx211_2)
                          (try rw [show 0 * 3 = 0 from rfl] at hx211_2)
                          (try rw [Addr.add_zero'] at hx211_2)
                          replace hx211_0 := (HB.out.cell (World.block_lt_of_cell? w _ hx211_0)).trans hx211_0
                          replace hx211_1 := (HB.out.cell (World.block_lt_of_cell? w _ hx211_1)).trans hx211_1
                          replace hx211_2 := (HB.out.cell (World.block_lt_of_cell? w _ hx211_2)).trans hx211_2
                          replace p211 := eq_true p211
                          replace q211 := eq_true q211
                          go_wp2_with (first | (go_at_call 52; (with_reducible refine (spinetref01_Word.calls ((rd_T23 l1 0).f1) t212 _ A21.out).mono ?_); rintro e w' ⟨rfl, ⟨nd, rfl⟩⟩; (try first | exact ⟨rfl, _, World.drewN_drewN _ _ _⟩ | exact ⟨rfl, _, Eq.trans (World.drewN_drewN _ _ _) (congrArg (World.drewN _) (Nat.add_assoc _ _ _))⟩); have p213 : 0 ≤ (1 : Int) := (by omega); have q213 : 1 < (l1.length : Int) := of_decide_eq_true (by first | (with_reducible assumption) | assumption); obtain ⟨ad213, e213, hx213_0, hx213_1, hx213_2⟩ := at_T23 HR1.out 1 p213 q213; obtain rfl : ad211 = ad213 := (by injection e213); (try simp only [show (1 : Int).toNat = 1 from rfl, Nat.reduceMul, Nat.reduceEqDiff, Go.Addr.add, ↓reduceIte] at hx213_0); (try simp only [show (1 : Int).toNat = 1 from rfl, Nat.reduceMul, Nat.reduceEqDiff, Go.Addr.add, ↓reduceIte] at hx213_1); (try simp only [show (1 : Int).toNat = 1 from rfl, Nat.reduceMul, Nat.reduceEqDiff, Go.Addr.add, ↓reduceIte] at hx213_2); have qi213 : (1 < l1.length) = True := eq_true (by omega); (try rw [show ((1 : Int)).toNat = 1 from rfl] at hx213_0); (try rw [show 1 * 3 = 3 from rfl] at hx213_0); (try rw [show ((1 : Int)).toNat = 1 from rfl] at hx213_1); (try rw [show 1 * 3 = 3 from rfl] at hx213_1); (try rw [show ((1 : Int)).toNat = 1 from rfl] at hx213_2); (try rw [show 1 * 3 = 3 from rfl] at hx213_2); replace hx213_0 := (HB.out.cell (World.block_lt_of_cell? w _ hx213_0)).trans hx213_0; replace hx213_1 := (HB.out.cell (World.block_lt_of_cell? w _ hx213_1)).trans hx213_1; replace hx213_2 := (HB.out.cell (World.block_lt_of_cell? w _ hx213_2)).trans hx213_2; replace p213 := eq_true p213; replace q213 := eq_true q213) | (go_at_call 52; (with_reducible refine (spinetref01_Word.calls ((rd_T23 l1 1).f1) t214 _ A23.out).mono ?_); rintro e w' ⟨rfl, ⟨nd, rfl⟩⟩; (try first | exact ⟨rfl, _, World.drewN_drewN _ _ _⟩ | exact ⟨rfl, _, Eq.trans (World.drewN_drewN _ _ _) (congrArg (World.drewN _) (Nat.add_assoc _ _ _))⟩)) | (go_at_call 56; (with_reducible refine (spinetref01_Ror.calls kj12 t212 t214 t227 _ A37.out).mono ?_); rintro e w' ⟨rfl, ⟨nd, rfl⟩⟩; (try first | exact ⟨rfl, _, World.drewN_drewN _ _ _⟩ | exact ⟨rfl, _, Eq.trans (World.drewN_drewN _ _ _) (congrArg (World.drewN _) (Nat.add_assoc _ _ _))⟩)) | (go_at_call 53; (with_reducible refine (spinetref01_Signed.calls t227 t228 _ A38.out).mono ?_); rintro e w' ⟨rfl, ⟨nd, rfl⟩⟩; (try first | exact ⟨rfl, _, World.drewN_drewN _ _ _⟩ | exact ⟨rfl, _, Eq.trans (World.drewN_drewN _ _ _) (congrArg (World.drewN _) (Nat.add_assoc _ _ _))⟩)) | (go_at_call 45; (with_reducible refine (spinetref12_integer.calls kj12 t228 t229 t230 t231 t232 _ A39.out).mono ?_); rintro e w40 ⟨rfl, hb⟩; have n0_ := Aside0.mk (blk_below (g := gb202) (o := .cells #[.int .i64 x203000_1, .int .i64 x203001_1, .string x203002_1] 23 (0, 0)) (by (with_reducible repeat (first | refine blk_drewN ?_ _ | refine blk_drew ?_ | refine blk_alloc ?_ _)); exact BK202.out) hb); have n1_ := Aside0.mk (below_step (by repeat (first | (with_reducible first | exact HB.out | apply below_alloc | apply pw_below_drewN | apply below_drew1 | refine below_set ?_ GE202.out) | exact HB.out)) hb); clear BK202; clear HB; have BK202 := n0_; have HB := n1_; clear n0_ n1_; (try clear hb); (try clear hb2); (try clear hk); (try clear hi); have hcz41_0 : w40.cell? ⟨gb202, 0, none⟩ = some (.int .i64 x203000_1) := (blk_cell BK202.out 0).trans rfl; have hcz41_1 : w40.cell? ⟨gb202, 1, none⟩ = some (.int .i64 x203001_1) := (blk_cell BK202.out 1).trans rfl; have hcz41_2 : w40.cell? ⟨gb202, 2, none⟩ = some (.string x203002_1) := (blk_cell BK202.out 2).trans rfl; have hfz41_0 := blk_frozen BK202.out 0; have hfz41_1 := blk_frozen BK202.out 1; have hfz41_2 := blk_frozen BK202.out 2))
                          repeat (go_quiet (first | (go_at_call 52; (with_reducible refine (spinetref01_Word.calls ((rd_T23 l1 0).f1) t212 _ A21.out).mono ?_); rintro e w' ⟨rfl, ⟨nd, rfl⟩⟩; (try first | exact ⟨rfl, _, World.drewN_drewN _ _ _⟩ | exact ⟨rfl, _, Eq.trans (World.drewN_drewN _ _ _) (congrArg (World.drewN _) (Nat.add_assoc _ _ _))⟩); have p213 : 0 ≤ (1 : Int) := (by omega); have q213 : 1 < (l1.length : Int) := of_decide_eq_true (by first | (with_reducible assumption) | assumption); obtain ⟨ad213, e213, hx213_0, hx213_1, hx213_2⟩ := at_T23 HR1.out 1 p213 q213; obtain rfl : ad211 = ad213 := (by injection e213); (try simp only [show (1 : Int).toNat = 1 from rfl, Nat.reduceMul, Nat.reduceEqDiff, Go.Addr.add, ↓reduceIte] at hx213_0); (try simp only [show (1 : Int).toNat = 1 from rfl, Nat.reduceMul, Nat.reduceEqDiff, Go.Addr.add, ↓reduceIte] at hx213_1); (try simp only [show (1 : Int).toNat = 1 from rfl, Nat.reduceMul, Nat.reduceEqDiff, Go.Addr.add, ↓reduceIte] at hx213_2); have qi213 : (1 < l1.length) = True := eq_true (by omega); (try rw [show ((1 : Int)).toNat = 1 from rfl] at hx213_0); (try rw [show 1 * 3 = 3 from rfl] at hx213_0); (try rw [show ((1 : Int)).toNat = 1 from rfl] at hx213_1); (try rw [show 1 * 3 = 3 from rfl] at hx213_1); (try rw [show ((1 : Int)).toNat = 1 from rfl] at hx213_2); (try rw [show 1 * 3 = 3 from rfl] at hx213_2); replace hx213_0 := (HB.out.cell (World.block_lt_of_cell? w _ hx213_0)).trans hx213_0; replace hx213_1 := (HB.out.cell (World.block_lt_of_cell? w _ hx213_1)).trans hx213_1; replace hx213_2 := (HB.out.cell (World.block_lt_of_cell? w _ hx213_2)).trans hx213_2; replace p213 := eq_true p213; replace q213 := eq_true q213) | (go_at_call 52; (with_reducible refine (spinetref01_Word.calls ((rd_T23 l1 1).f1) t214 _ A23.out).mono ?_); rintro e w' ⟨rfl, ⟨nd, rfl⟩⟩; (try first | exact ⟨rfl, _, World.drewN_drewN _ _ _⟩ | exact ⟨rfl, _, Eq.trans (World.drewN_drewN _ _ _) (congrArg (World.drewN _) (Nat.add_assoc _ _ _))⟩)) | (go_at_call 56; (with_reducible refine (spinetref01_Ror.calls kj12 t212 t214 t227 _ A37.out).mono ?_); rintro e w' ⟨rfl, ⟨nd, rfl⟩⟩; (try first | exact ⟨rfl, _, World.drewN_drewN _ _ _⟩ | exact ⟨rfl, _, Eq.trans (World.drewN_drewN _ _ _) (congrArg (World.drewN _) (Nat.add_assoc _ _ _))⟩)) | (go_at_call 53; (with_reducible refine (spinetref01_Signed.calls t227 t228 _ A38.out).mono ?_); rintro e w' ⟨rfl, ⟨nd, rfl⟩⟩; (try first | exact ⟨rfl, _, World.drewN_drewN _ _ _⟩ | exact ⟨rfl, _, Eq.trans (World.drewN_drewN _ _ _) (congrArg (World.drewN _) (Nat.add_assoc _ _ _))⟩)) | (go_at_call 45; (with_reducible refine (spinetref12_integer.calls kj12 t228 t229 t230 t231 t232 _ A39.out).mono ?_); rintro e w40 ⟨rfl, hb⟩; have n0_ := Aside0.mk (blk_below (g := gb202) (o := .cells #[.int .i64 x203000_1, .int .i64 x203001_1, .string x203002_1] 23 (0, 0)) (by (with_reducible repeat (first | refine blk_drewN ?_ _ | refine blk_drew ?_ | refine blk_alloc ?_ _)); exact BK202.out) hb); have n1_ := Aside0.mk (below_step (by repeat (first | (with_reducible first | exact HB.out | apply below_alloc | apply pw_below_drewN | apply below_drew1 | refine below_set ?_ GE202.out) | exact HB.out)) hb); clear BK202; clear HB; have BK202 := n0_; have HB := n1_; clear n0_ n1_; (try clear hb); (try clear hb2); (try clear hk); (try clear hi); have hcz41_0 : w40.cell? ⟨gb202, 0, none⟩ = some (.int .i64 x203000_1) := (blk_cell BK202.out 0).trans rfl; have hcz41_1 : w40.cell? ⟨gb202, 1, none⟩ = some (.int .i64 x203001_1) := (blk_cell BK202.out 1).trans rfl; have hcz41_2 : w40.cell? ⟨gb202, 2, none⟩ = some (.string x203002_1) := (blk_cell BK202.out 2).trans rfl; have hfz41_0 := blk_frozen BK202.out 0; have hfz41_1 := blk_frozen BK202.out 1; have hfz41_2 := blk_frozen BK202.out 2)); try go_wp2_with (first | (go_at_call 52; (with_reducible refine (spinetref01_Word.calls ((rd_T23 l1 0).f1) t212 _ A21.out).mono ?_); rintro e w' ⟨rfl, ⟨nd, rfl⟩⟩; (try first | exact ⟨rfl, _, World.drewN_drewN _ _ _⟩ | exact ⟨rfl, _, Eq.trans (World.drewN_drewN _ _ _) (congrArg (World.drewN _) (Nat.add_assoc _ _ _))⟩); have p213 : 0 ≤ (1 : Int) := (by omega); have q213 : 1 < (l1.length : Int) := of_decide_eq_true (by first | (with_reducible assumption) | assumption); obtain ⟨ad213, e213, hx213_0, hx213_1, hx213_2⟩ := at_T23 HR1.out 1 p213 q213; obtain rfl : ad211 = ad213 := (by injection e213); (try simp only [show (1 : Int).toNat = 1 from rfl, Nat.reduceMul, Nat.reduceEqDiff, Go.Addr.add, ↓reduceIte] at hx213_0); (try simp only [show (1 : Int).toNat = 1 from rfl, Nat.reduceMul, Nat.reduceEqDiff, Go.Addr.add, ↓reduceIte] at hx213_1); (try simp only [show (1 : Int).toNat = 1 from rfl, Nat.reduceMul, Nat.reduceEqDiff, Go.Addr.add, ↓reduceIte] at hx213_2); have qi213 : (1 < l1.length) = True := eq_true (by omega); (try rw [show ((1 : Int)).toNat = 1 from rfl] at hx213_0); (try rw [show 1 * 3 = 3 from rfl] at hx213_0); (try rw [show ((1 : Int)).toNat = 1 from rfl] at hx213_1); (try rw [show 1 * 3 = 3 from rfl] at hx213_1); (try rw [show ((1 : Int)).toNat = 1 from rfl] at hx213_2); (try rw [show 1 * 3 = 3 from rfl] at hx213_2); replace hx213_0 := (HB.out.cell (World.block_lt_of_cell? w _ hx213_0)).trans hx213_0; replace hx213_1 := (HB.out.cell (World.block_lt_of_cell? w _ hx213_1)).trans hx213_1; replace hx213_2 := (HB.out.cell (World.block_lt_of_cell? w _ hx213_2)).trans hx213_2; replace p213 := eq_true p213; replace q213 := eq_true q213) | (go_at_call 52; (with_reducible refine (spinetref01_Word.calls ((rd_T23 l1 1).f1) t214 _ A23.out).mono ?_); rintro e w' ⟨rfl, ⟨nd, rfl⟩⟩; (try first | exact ⟨rfl, _, World.drewN_drewN _ _ _⟩ | exact ⟨rfl, _, Eq.trans (World.drewN_drewN _ _ _) (congrArg (World.drewN _) (Nat.add_assoc _ _ _))⟩)) | (go_at_call 56; (with_reducible refine (spinetref01_Ror.calls kj12 t212 t214 t227 _ A37.out).mono ?_); rintro e w' ⟨rfl, ⟨nd, rfl⟩⟩; (try first | exact ⟨rfl, _, World.drewN_drewN _ _ _⟩ | exact ⟨rfl, _, Eq.trans (World.drewN_drewN _ _ _) (congrArg (World.drewN _) (Nat.add_assoc _ _ _))⟩)) | (go_at_call 53; (with_reducible refine (spinetref01_Signed.calls t227 t228 _ A38.out).mono ?_); rintro e w' ⟨rfl, ⟨nd, rfl⟩⟩; (try first | exact ⟨rfl, _, World.drewN_drewN _ _ _⟩ | exact ⟨rfl, _, Eq.trans (World.drewN_drewN _ _ _) (congrArg (World.drewN _) (Nat.add_assoc _ _ _))⟩)) | (go_at_call 45; (with_reducible refine (spinetref12_integer.calls kj12 t228 t229 t230 t231 t232 _ A39.out).mono ?_); rintro e w40 ⟨rfl, hb⟩; have n0_ := Aside0.mk (blk_below (g := gb202) (o := .cells #[.int .i64 x203000_1, .int .i64 x203001_1, .string x203002_1] 23 (0, 0)) (by (with_reducible repeat (first | refine blk_drewN ?_ _ | refine blk_drew ?_ | refine blk_alloc ?_ _)); exact BK202.out) hb); have n1_ := Aside0.mk (below_step (by repeat (first | (with_reducible first | exact HB.out | apply below_alloc | apply pw_below_drewN | apply below_drew1 | refine below_set ?_ GE202.out) | exact HB.out)) hb); clear BK202; clear HB; have BK202 := n0_; have HB := n1_; clear n0_ n1_; (try clear hb); (try clear hb2); (try clear hk); (try clear hi); have hcz41_0 : w40.cell? ⟨gb202, 0, none⟩ = some (.int .i64 x203000_1) := (blk_cell BK202.out 0).trans rfl; have hcz41_1 : w40.cell? ⟨gb202, 1, none⟩ = some (.int .i64 x203001_1) := (blk_cell BK202.out 1).trans rfl; have hcz41_2 : w40.cell? ⟨gb202, 2, none⟩ = some (.string x203002_1) := (blk_cell BK202.out 2).trans rfl; have hfz41_0 := blk_frozen BK202.out 0; have hfz41_1 := blk_frozen BK202.out 1; have hfz41_2 := blk_frozen BK202.out 2)))
                          refine bodyPost_ret (results_ct rfl _ _ gb202 23 #[.int .i64 t229, .int .i64 t230, .string t231] (0, 0) _ rfl (by (with_reducible repeat (first | refine blk_drewN ?_ _ | refine blk_drew ?_ | refine blk_alloc ?_ _)); refine blk_put (cs := #[.int .i64 t229, .int .i64 t230, .string x203002_1]) ?_ 2 _ rfl; (with_reducible repeat (first | refine blk_drewN ?_ _ | refine blk_drew ?_ | refine blk_alloc ?_ _)); refine blk_put (cs := #[.int .i64 t229, .int .i64 x203001_1, .string x203002_1]) ?_ 1 _ rfl; (with_reducible repeat (first | refine blk_drewN ?_ _ | refine blk_drew ?_ | refine blk_alloc ?_ _)); refine blk_put (cs := #[.int .i64 x203000_1, .int .i64 x203001_1, .string x203002_1]) ?_ 0 _ rfl; (with_reducible repeat (first | refine blk_drewN ?_ _ | refine blk_drew ?_ | refine blk_alloc ?_ _)); exact BK202.out) Try.underlying23 rfl (by kernel_rfl)) rfl ?_
                          exact ⟨by first | rfl | (simp [errW_none, errW_some] <;> rfl) | (simp [*, errW_none, errW_some] <;> rfl), by repeat (first | (with_reducible first | exact HB.out | apply below_alloc | apply pw_below_drewN | apply below_drew1 | refine below_set ?_ GE202.out) | exact HB.out)⟩
                        · rw [if_neg c36] at H
                          have c36b0 : (a0.toList == ([82, 79, 82] : List UInt8)) = false := beq_eq_false_iff_ne.mpr c36
                          have c36b1 : (a0.toList != ([82, 79, 82] : List UInt8)) = true := bne_iff_ne.mpr c36
                          have H' := Aside0.mk H
                          clear H
                          have p211 : 0 ≤ (0 : Int) := (by omega)
                          have q211 : 0 < (l1.length : Int) := of_decide_eq_true (by first | (with_reducible assumption) | assumption)
                          obtain ⟨ad211, e211, hx211_0, hx211_1, hx211_2⟩ := at_T23 HR1.out 0 p211 q211
                          cases e211
                          have qi211 : (0 < l1.length) = True := eq_true (by omega)
                          (try rw [show ((0 : Int)).toNat = 0 from rfl] at hx211_0)
                          (try rw [show 0 * 3 = 0 from rfl] at hx211_0)
                          (try rw [Addr.add_zero'] at hx211_0)
                          (try rw [show ((0 : Int)).toNat = 0 from rfl] at hx211_1)
                          (try rw [show 0 * 3 = 0 from rfl] at hx211_1)
                          (try rw [Addr.add_zero'] at hx211_1)
                          (try rw [show ((0 : Int)).toNat = 0 from rfl] at hx211_2)
                          (try rw [show 0 * 3 = 0 from rfl] at hx211_2)
                          (try rw [Addr.add_zero'] at hx211_2)
                          replace hx211_0 := (HB.out.cell (World.block_lt_of_cell? w _ hx211_0)).trans hx211_0
                          replace hx211_1 := (HB.out.cell (World.block_lt_of_cell? w _ hx211_1)).trans hx211_1
                          replace hx211_2 := (HB.out.cell (World.block_lt_of_cell? w _ hx211_2)).trans hx211_2
                          replace p211 := eq_true p211
                          replace q211 := eq_true q211
                          go_wp2_with (first | (go_at_call 52; (with_reducible refine (spinetref01_Word.calls ((rd_T23 l1 0).f1) t212 _ A21.out).mono ?_); rintro e w' ⟨rfl, ⟨nd, rfl⟩⟩; (try first | exact ⟨rfl, _, World.drewN_drewN _ _ _⟩ | exact ⟨rfl, _, Eq.trans (World.drewN_drewN _ _ _) (congrArg (World.drewN _) (Nat.add_assoc _ _ _))⟩); have p213 : 0 ≤ (1 : Int) := (by omega); have q213 : 1 < (l1.length : Int) := of_decide_eq_true (by first | (with_reducible assumption) | assumption); obtain ⟨ad213, e213, hx213_0, hx213_1, hx213_2⟩ := at_T23 HR1.out 1 p213 q213; obtain rfl : ad211 = ad213 := (by injection e213); (try simp only [show (1 : Int).toNat = 1 from rfl, Nat.reduceMul, Nat.reduceEqDiff, Go.Addr.add, ↓reduceIte] at hx213_0); (try simp only [show (1 : Int).toNat = 1 from rfl, Nat.reduceMul, Nat.reduceEqDiff, Go.Addr.add, ↓reduceIte] at hx213_1); (try simp only [show (1 : Int).toNat = 1 from rfl, Nat.reduceMul, Nat.reduceEqDiff, Go.Addr.add, ↓reduceIte] at hx213_2); have qi213 : (1 < l1.length) = True := eq_true (by omega); (try rw [show ((1 : Int)).toNat = 1 from rfl] at hx213_0); (try rw [show 1 * 3 = 3 from rfl] at hx213_0); (try rw [show ((1 : Int)).toNat = 1 from rfl] at hx213_1); (try rw [show 1 * 3 = 3 from rfl] at hx213_1); (try rw [show ((1 : Int)).toNat = 1 from rfl] at hx213_2); (try rw [show 1 * 3 = 3 from rfl] at hx213_2); replace hx213_0 := (HB.out.cell (World.block_lt_of_cell? w _ hx213_0)).trans hx213_0; replace hx213_1 := (HB.out.cell (World.block_lt_of_cell? w _ hx213_1)).trans hx213_1; replace hx213_2 := (HB.out.cell (World.block_lt_of_cell? w _ hx213_2)).trans hx213_2; replace p213 := eq_true p213; replace q213 := eq_true q213) | (go_at_call 52; (with_reducible refine (spinetref01_Word.calls ((rd_T23 l1 1).f1) t214 _ A23.out).mono ?_); rintro e w' ⟨rfl, ⟨nd, rfl⟩⟩; (try first | exact ⟨rfl, _, World.drewN_drewN _ _ _⟩ | exact ⟨rfl, _, Eq.trans (World.drewN_drewN _ _ _) (congrArg (World.drewN _) (Nat.add_assoc _ _ _))⟩)))
                          repeat (go_quiet (first | (go_at_call 52; (with_reducible refine (spinetref01_Word.calls ((rd_T23 l1 0).f1) t212 _ A21.out).mono ?_); rintro e w' ⟨rfl, ⟨nd, rfl⟩⟩; (try first | exact ⟨rfl, _, World.drewN_drewN _ _ _⟩ | exact ⟨rfl, _, Eq.trans (World.drewN_drewN _ _ _) (congrArg (World.drewN _) (Nat.add_assoc _ _ _))⟩); have p213 : 0 ≤ (1 : Int) := (by omega); have q213 : 1 < (l1.length : Int) := of_decide_eq_true (by first | (with_reducible assumption) | assumption); obtain ⟨ad213, e213, hx213_0, hx213_1, hx213_2⟩ := at_T23 HR1.out 1 p213 q213; obtain rfl : ad211 = ad213 := (by injection e213); (try simp only [show (1 : Int).toNat = 1 from rfl, Nat.reduceMul, Nat.reduceEqDiff, Go.Addr.add, ↓reduceIte] at hx213_0); (try simp only [show (1 : Int).toNat = 1 from rfl, Nat.reduceMul, Nat.reduceEqDiff, Go.Addr.add, ↓reduceIte] at hx213_1); (try simp only [show (1 : Int).toNat = 1 from rfl, Nat.reduceMul, Nat.reduceEqDiff, Go.Addr.add, ↓reduceIte] at hx213_2); have qi213 : (1 < l1.length) = True := eq_true (by omega); (try rw [show ((1 : Int)).toNat = 1 from rfl] at hx213_0); (try rw [show 1 * 3 = 3 from rfl] at hx213_0); (try rw [show ((1 : Int)).toNat = 1 from rfl] at hx213_1); (try rw [show 1 * 3 = 3 from rfl] at hx213_1); (try rw [show ((1 : Int)).toNat = 1 from rfl] at hx213_2); (try rw [show 1 * 3 = 3 from rfl] at hx213_2); replace hx213_0 := (HB.out.cell (World.block_lt_of_cell? w _ hx213_0)).trans hx213_0; replace hx213_1 := (HB.out.cell (World.block_lt_of_cell? w _ hx213_1)).trans hx213_1; replace hx213_2 := (HB.out.cell (World.block_lt_of_cell? w _ hx213_2)).trans hx213_2; replace p213 := eq_true p213; replace q213 := eq_true q213) | (go_at_call 52; (with_reducible refine (spinetref01_Word.calls ((rd_T23 l1 1).f1) t214 _ A23.out).mono ?_); rintro e w' ⟨rfl, ⟨nd, rfl⟩⟩; (try first | exact ⟨rfl, _, World.drewN_drewN _ _ _⟩ | exact ⟨rfl, _, Eq.trans (World.drewN_drewN _ _ _) (congrArg (World.drewN _) (Nat.add_assoc _ _ _))⟩))); try go_wp2_with (first | (go_at_call 52; (with_reducible refine (spinetref01_Word.calls ((rd_T23 l1 0).f1) t212 _ A21.out).mono ?_); rintro e w' ⟨rfl, ⟨nd, rfl⟩⟩; (try first | exact ⟨rfl, _, World.drewN_drewN _ _ _⟩ | exact ⟨rfl, _, Eq.trans (World.drewN_drewN _ _ _) (congrArg (World.drewN _) (Nat.add_assoc _ _ _))⟩); have p213 : 0 ≤ (1 : Int) := (by omega); have q213 : 1 < (l1.length : Int) := of_decide_eq_true (by first | (with_reducible assumption) | assumption); obtain ⟨ad213, e213, hx213_0, hx213_1, hx213_2⟩ := at_T23 HR1.out 1 p213 q213; obtain rfl : ad211 = ad213 := (by injection e213); (try simp only [show (1 : Int).toNat = 1 from rfl, Nat.reduceMul, Nat.reduceEqDiff, Go.Addr.add, ↓reduceIte] at hx213_0); (try simp only [show (1 : Int).toNat = 1 from rfl, Nat.reduceMul, Nat.reduceEqDiff, Go.Addr.add, ↓reduceIte] at hx213_1); (try simp only [show (1 : Int).toNat = 1 from rfl, Nat.reduceMul, Nat.reduceEqDiff, Go.Addr.add, ↓reduceIte] at hx213_2); have qi213 : (1 < l1.length) = True := eq_true (by omega); (try rw [show ((1 : Int)).toNat = 1 from rfl] at hx213_0); (try rw [show 1 * 3 = 3 from rfl] at hx213_0); (try rw [show ((1 : Int)).toNat = 1 from rfl] at hx213_1); (try rw [show 1 * 3 = 3 from rfl] at hx213_1); (try rw [show ((1 : Int)).toNat = 1 from rfl] at hx213_2); (try rw [show 1 * 3 = 3 from rfl] at hx213_2); replace hx213_0 := (HB.out.cell (World.block_lt_of_cell? w _ hx213_0)).trans hx213_0; replace hx213_1 := (HB.out.cell (World.block_lt_of_cell? w _ hx213_1)).trans hx213_1; replace hx213_2 := (HB.out.cell (World.block_lt_of_cell? w _ hx213_2)).trans hx213_2; replace p213 := eq_true p213; replace q213 := eq_true q213) | (go_at_call 52; (with_reducible refine (spinetref01_Word.calls ((rd_T23 l1 1).f1) t214 _ A23.out).mono ?_); rintro e w' ⟨rfl, ⟨nd, rfl⟩⟩; (try first | exact ⟨rfl, _, World.drewN_drewN _ _ _⟩ | exact ⟨rfl, _, Eq.trans (World.drewN_drewN _ _ _) (congrArg (World.drewN _) (Nat.add_assoc _ _ _))⟩))))
                          go_meet
                          case rel => exact ⟨_, (x203000_1), (x203001_1), (x203002_1), H', ⟨by have := HK1.out; have := HJ12.out; first | omega | exact Nat.le_refl _⟩, ⟨by (with_reducible repeat (first | refine blk_drewN ?_ _ | refine blk_drew ?_ | refine blk_alloc ?_ _)); exact BK202.out⟩, ⟨by repeat (first | (with_reducible first | exact HB.out | apply below_alloc | apply pw_below_drewN | apply below_drew1 | refine below_set ?_ GE202.out) | exact HB.out)⟩⟩
                  · rw [if_neg c22] at H
                    exact absurd H (by simp)
                · rw [if_neg c20] at H
                  exact absurd H (by simp)
              · replace c19 := Bool.eq_false_iff.mpr c19
                subst c19
                have H1 : (spinetref12_Call.j2 kj12 a0 l1) = some (r1, r2, r3, r4) := by rw [if_neg (show ¬ (false = true) by decide)] at H; exact H
                clear H
                have H := H1
                clear H1
                have H' := Aside0.mk H
                clear H
                go_wp2
                repeat (go_quiet (fail); try go_wp2)
                go_meet
                case rel => exact ⟨_, (x203000_1), (x203001_1), (x203002_1), H', ⟨by have := HK1.out; have := HJ12.out; first | omega | exact Nat.le_refl _⟩, ⟨by (with_reducible repeat (first | refine blk_drewN ?_ _ | refine blk_drew ?_ | refine blk_alloc ?_ _)); exact BK202.out⟩, ⟨by repeat (first | (with_reducible first | exact HB.out | apply below_alloc | apply pw_below_drewN | apply below_drew1 | refine below_set ?_ GE202.out) | exact HB.out)⟩⟩
            case rest =>
              clear HC18
              try clear c1
              try clear c2
              try clear p2
              try clear q2
              try clear hx2
              try clear qi2
              try clear c3
              try clear c4
              try clear c4b0
              try clear c5
              try clear c5b0
              try clear p6
              try clear c7
              try clear c14
              try clear c14b0
              try clear c14b1
              try clear c15
              try clear c15b0
              try clear c15b1
              try clear c16
              try clear c16b0
              try clear c16b1
              try clear c17
              try clear c17b0
              try clear c17b1
              try clear c19
              try clear c20
              try clear c20b0
              try clear c20b1
              try clear p20
              try clear q20
              try clear hx20
              try clear qi20
              try clear p21
              try clear q21
              try clear hx21
              try clear qi21
              try clear c22
              try clear c22b0
              try clear c22b1
              try clear c24
              try clear c24b0
              try clear c24b1
              try clear c30
              try clear c30b0
              try clear c30b1
              try clear c36
              try clear c36b0
              try clear c36b1
              try clear hcz12_0
              try clear hcz12_1
              try clear hcz12_2
              try clear hcz29_0
              try clear hcz29_1
              try clear hcz29_2
              try clear hcz35_0
              try clear hcz35_1
              try clear hcz35_2
              try clear hcz41_0
              try clear hcz41_1
              try clear hcz41_2
              try clear hfz12_0
              try clear hfz12_1
              try clear hfz12_2
              try clear hfz29_0
              try clear hfz29_1
              try clear hfz29_2
              try clear hfz35_0
              try clear hfz35_1
              try clear hfz35_2
              try clear hfz41_0
              try clear hfz41_1
              try clear hfz41_2
              try clear hx203_0
              try clear hx203_1
              try clear hx203_2
              try clear hx209_0
              try clear hx209_1
              try clear hx209_2
              try clear hx210_0
              try clear hx210_1
              try clear hx210_2
              try clear hx211_0
              try clear hx211_1
              try clear hx211_2
              try clear hx213_0
              try clear hx213_1
              try clear hx213_2
              try clear p2
              try clear p203
              try clear p209
              try clear p210
              try clear p211
              try clear p213
              try clear p6
              try clear q2
              try clear q203
              try clear q209
              try clear q210
              try clear q211
              try clear q213
              obtain ⟨kq, x203000_17, x203001_17, x203002_17, HA, HJ17, BK202, HB⟩ := hcut
              cases kq with
              | zero => exact absurd HA.out (by simp [spinetref12_Call.j2])
              | succ kj17 =>
                have H := HA.out
                clear HA
                simp only [spinetref12_Call.j2] at H
                by_cases c42 : (l1.length : Int) = 1
                · rw [if_pos c42] at H
                  have c42b0 : ((l1.length : Int) == 1) = true := beq_iff_eq.mpr c42
                  have c42b1 : ((l1.length : Int) != 1) = false := bne_eq_false_iff_eq.mpr c42
                  clear c42
                  by_cases c43 : 0 < (l1.length : Int)
                  · rw [if_pos c43] at H
                    have c43b0 : decide (0 < (l1.length : Int)) = true := decide_eq_true c43
                    have c43b1 : decide (0 < l1.length) = true := decide_eq_true (by omega)
                    clear c43
                    have HC44 := Aside0.mk H
                    clear H
                    have p237 : 0 ≤ (0 : Int) := (by omega)
                    have q237 : 0 < (l1.length : Int) := of_decide_eq_true (by first | (with_reducible assumption) | assumption)
                    obtain ⟨ad237, e237, hx237_0, hx237_1, hx237_2⟩ := at_T23 HR1.out 0 p237 q237
                    cases e237
                    have qi237 : (0 < l1.length) = True := eq_true (by omega)
                    (try rw [show ((0 : Int)).toNat = 0 from rfl] at hx237_0)
                    (try rw [show 0 * 3 = 0 from rfl] at hx237_0)
                    (try rw [Addr.add_zero'] at hx237_0)
                    (try rw [show ((0 : Int)).toNat = 0 from rfl] at hx237_1)
                    (try rw [show 0 * 3 = 0 from rfl] at hx237_1)
                    (try rw [Addr.add_zero'] at hx237_1)
                    (try rw [show ((0 : Int)).toNat = 0 from rfl] at hx237_2)
                    (try rw [show 0 * 3 = 0 from rfl] at hx237_2)
                    (try rw [Addr.add_zero'] at hx237_2)
                    replace hx237_0 := (HB.out.cell (World.block_lt_of_cell? w _ hx237_0)).trans hx237_0
                    replace hx237_1 := (HB.out.cell (World.block_lt_of_cell? w _ hx237_1)).trans hx237_1
                    replace hx237_2 := (HB.out.cell (World.block_lt_of_cell? w _ hx237_2)).trans hx237_2
                    replace p237 := eq_true p237
                    replace q237 := eq_true q237
                    go_upto_region 18 with (first | ((with_reducible refine gate_dst (N := 9) rfl ?_); refine box_event ?hg (N := 9) ?hd (cs := #[.int .i64 0, .int .i64 0, .string (⟨#[]⟩ : ByteArray)]) (t := 23) ?hr ?_; (case hd => rfl); (case hg => rfl); (case hr => first | (go_simp; done) | (go_simp; rfl)); intro gb238 hg w45 hbox hb; have n0_ := Aside0.mk (blk_below (g := gb202) (o := .cells #[.int .i64 x203000_17, .int .i64 x203001_17, .string x203002_17] 23 (0, 0)) (by (with_reducible repeat (first | refine blk_drewN ?_ _ | refine blk_drew ?_ | refine blk_alloc ?_ _)); exact BK202.out) hb); have n1_ := Aside0.mk (below_step (by repeat (first | (with_reducible first | exact HB.out | apply below_alloc | apply pw_below_drewN | apply below_drew1 | refine below_set ?_ GE202.out) | exact HB.out)) hb); have n2_ := Aside0.mk (hbox); have n3_ := Aside0.mk ((by rw [hg]; exact (below_size (by repeat (first | (with_reducible first | exact HB.out | apply below_alloc | apply pw_below_drewN | apply below_drew1 | refine below_set ?_ GE202.out) | exact HB.out))) : w.heap.size ≤ gb238)); have n4_ := Aside0.mk ((by rw [hg]; exact (below_size (by repeat (first | (with_reducible first | exact HB.out | apply below_alloc | apply pw_below_drewN | apply below_drew1 | refine below_set ?_ GE202.out) | exact HB.out))) : w.heap.size ≤ gb238)); have n5_ := Aside0.mk ((by rw [hg]; exact Nat.ne_of_lt (blk_lt (g := gb202) (o := .cells #[.int .i64 x203000_17, .int .i64 x203001_17, .string x203002_17] 23 (0, 0)) (by (with_reducible repeat (first | refine blk_drewN ?_ _ | refine blk_drew ?_ | refine blk_alloc ?_ _)); exact BK202.out)) : gb202 ≠ gb238)); have n6_ := Aside0.mk ((by rw [hg]; exact Nat.ne_of_gt (blk_lt (g := gb202) (o := .cells #[.int .i64 x203000_17, .int .i64 x203001_17, .string x203002_17] 23 (0, 0)) (by (with_reducible repeat (first | refine blk_drewN ?_ _ | refine blk_drew ?_ | refine blk_alloc ?_ _)); exact BK202.out)) : gb238 ≠ gb202)); clear BK202; clear HB; have BK202 := n0_; have HB := n1_; have BK238 := n2_; have GW238 := n3_; have GE238 := n4_; have NB202_238 := n5_; have NB238_202 := n6_; clear n0_ n1_ n2_ n3_ n4_ n5_ n6_; clear hb hbox hg; have hnb46 := NB238_202.out; have hnc46 := NB202_238.out; have hcz47_0 : w45.cell? ⟨gb238, 0, none⟩ = some (.int .i64 0) := (blk_cell BK238.out 0).trans rfl; have hcz47_1 : w45.cell? ⟨gb238, 1, none⟩ = some (.int .i64 0) := (blk_cell BK238.out 1).trans rfl; have hcz47_2 : w45.cell? ⟨gb238, 2, none⟩ = some (.string (⟨#[]⟩ : ByteArray)) := (blk_cell BK238.out 2).trans rfl; have hfz47_0 := blk_frozen BK238.out 0; have hfz47_1 := blk_frozen BK238.out 1; have hfz47_2 := blk_frozen BK238.out 2))
                    repeat (go_quiet (first | ((with_reducible refine gate_dst (N := 9) rfl ?_); refine box_event ?hg (N := 9) ?hd (cs := #[.int .i64 0, .int .i64 0, .string (⟨#[]⟩ : ByteArray)]) (t := 23) ?hr ?_; (case hd => rfl); (case hg => rfl); (case hr => first | (go_simp; done) | (go_simp; rfl)); intro gb238 hg w45 hbox hb; have n0_ := Aside0.mk (blk_below (g := gb202) (o := .cells #[.int .i64 x203000_17, .int .i64 x203001_17, .string x203002_17] 23 (0, 0)) (by (with_reducible repeat (first | refine blk_drewN ?_ _ | refine blk_drew ?_ | refine blk_alloc ?_ _)); exact BK202.out) hb); have n1_ := Aside0.mk (below_step (by repeat (first | (with_reducible first | exact HB.out | apply below_alloc | apply pw_below_drewN | apply below_drew1 | refine below_set ?_ GE202.out) | exact HB.out)) hb); have n2_ := Aside0.mk (hbox); have n3_ := Aside0.mk ((by rw [hg]; exact (below_size (by repeat (first | (with_reducible first | exact HB.out | apply below_alloc | apply pw_below_drewN | apply below_drew1 | refine below_set ?_ GE202.out) | exact HB.out))) : w.heap.size ≤ gb238)); have n4_ := Aside0.mk ((by rw [hg]; exact (below_size (by repeat (first | (with_reducible first | exact HB.out | apply below_alloc | apply pw_below_drewN | apply below_drew1 | refine below_set ?_ GE202.out) | exact HB.out))) : w.heap.size ≤ gb238)); have n5_ := Aside0.mk ((by rw [hg]; exact Nat.ne_of_lt (blk_lt (g := gb202) (o := .cells #[.int .i64 x203000_17, .int .i64 x203001_17, .string x203002_17] 23 (0, 0)) (by (with_reducible repeat (first | refine blk_drewN ?_ _ | refine blk_drew ?_ | refine blk_alloc ?_ _)); exact BK202.out)) : gb202 ≠ gb238)); have n6_ := Aside0.mk ((by rw [hg]; exact Nat.ne_of_gt (blk_lt (g := gb202) (o := .cells #[.int .i64 x203000_17, .int .i64 x203001_17, .string x203002_17] 23 (0, 0)) (by (with_reducible repeat (first | refine blk_drewN ?_ _ | refine blk_drew ?_ | refine blk_alloc ?_ _)); exact BK202.out)) : gb238 ≠ gb202)); clear BK202; clear HB; have BK202 := n0_; have HB := n1_; have BK238 := n2_; have GW238 := n3_; have GE238 := n4_; have NB202_238 := n5_; have NB238_202 := n6_; clear n0_ n1_ n2_ n3_ n4_ n5_ n6_; clear hb hbox hg; have hnb46 := NB238_202.out; have hnc46 := NB202_238.out; have hcz47_0 : w45.cell? ⟨gb238, 0, none⟩ = some (.int .i64 0) := (blk_cell BK238.out 0).trans rfl; have hcz47_1 : w45.cell? ⟨gb238, 1, none⟩ = some (.int .i64 0) := (blk_cell BK238.out 1).trans rfl; have hcz47_2 : w45.cell? ⟨gb238, 2, none⟩ = some (.string (⟨#[]⟩ : ByteArray)) := (blk_cell BK238.out 2).trans rfl; have hfz47_0 := blk_frozen BK238.out 0; have hfz47_1 := blk_frozen BK238.out 1; have hfz47_2 := blk_frozen BK238.out 2)); go_upto_region 18 with (first | ((with_reducible refine gate_dst (N := 9) rfl ?_); refine box_event ?hg (N := 9) ?hd (cs := #[.int .i64 0, .int .i64 0, .string (⟨#[]⟩ : ByteArray)]) (t := 23) ?hr ?_; (case hd => rfl); (case hg => rfl); (case hr => first | (go_simp; done) | (go_simp; rfl)); intro gb238 hg w45 hbox hb; have n0_ := Aside0.mk (blk_below (g := gb202) (o := .cells #[.int .i64 x203000_17, .int .i64 x203001_17, .string x203002_17] 23 (0, 0)) (by (with_reducible repeat (first | refine blk_drewN ?_ _ | refine blk_drew ?_ | refine blk_alloc ?_ _)); exact BK202.out) hb); have n1_ := Aside0.mk (below_step (by repeat (first | (with_reducible first | exact HB.out | apply below_alloc | apply pw_below_drewN | apply below_drew1 | refine below_set ?_ GE202.out) | exact HB.out)) hb); have n2_ := Aside0.mk (hbox); have n3_ := Aside0.mk ((by rw [hg]; exact (below_size (by repeat (first | (with_reducible first | exact HB.out | apply below_alloc | apply pw_below_drewN | apply below_drew1 | refine below_set ?_ GE202.out) | exact HB.out))) : w.heap.size ≤ gb238)); have n4_ := Aside0.mk ((by rw [hg]; exact (below_size (by repeat (first | (with_reducible first | exact HB.out | apply below_alloc | apply pw_below_drewN | apply below_drew1 | refine below_set ?_ GE202.out) | exact HB.out))) : w.heap.size ≤ gb238)); have n5_ := Aside0.mk ((by rw [hg]; exact Nat.ne_of_lt (blk_lt (g := gb202) (o := .cells #[.int .i64 x203000_17, .int .i64 x203001_17, .string x203002_17] 23 (0, 0)) (by (with_reducible repeat (first | refine blk_drewN ?_ _ | refine blk_drew ?_ | refine blk_alloc ?_ _)); exact BK202.out)) : gb202 ≠ gb238)); have n6_ := Aside0.mk ((by rw [hg]; exact Nat.ne_of_gt (blk_lt (g := gb202) (o := .cells #[.int .i64 x203000_17, .int .i64 x203001_17, .string x203002_17] 23 (0, 0)) (by (with_reducible repeat (first | refine blk_drewN ?_ _ | refine blk_drew ?_ | refine blk_alloc ?_ _)); exact BK202.out)) : gb238 ≠ gb202)); clear BK202; clear HB; have BK202 := n0_; have HB := n1_; have BK238 := n2_; have GW238 := n3_; have GE238 := n4_; have NB202_238 := n5_; have NB238_202 := n6_; clear n0_ n1_ n2_ n3_ n4_ n5_ n6_; clear hb hbox hg; have hnb46 := NB238_202.out; have hnc46 := NB202_238.out; have hcz47_0 : w45.cell? ⟨gb238, 0, none⟩ = some (.int .i64 0) := (blk_cell BK238.out 0).trans rfl; have hcz47_1 : w45.cell? ⟨gb238, 1, none⟩ = some (.int .i64 0) := (blk_cell BK238.out 1).trans rfl; have hcz47_2 : w45.cell? ⟨gb238, 2, none⟩ = some (.string (⟨#[]⟩ : ByteArray)) := (blk_cell BK238.out 2).trans rfl; have hfz47_0 := blk_frozen BK238.out 0; have hfz47_1 := blk_frozen BK238.out 1; have hfz47_2 := blk_frozen BK238.out 2)))
                    (try simp only [Act.put, List.setIfInBounds_toArray, List.set_cons_zero, List.set_cons_succ])
                    go_cut [89] (fun v89 wc => ∃ (kq : Nat) (x89_43 : Bool), v89 = .bool x89_43 ∧ Aside0 (spinetref12_Call.j3 kq a0 x89_43 ((rd_T23 l1 0).f0) ((rd_T23 l1 0).f1) ((rd_T23 l1 0).f2) = some (r1, r2, r3, r4)) ∧ Aside0 (kq ≤ kj17) ∧ Aside0 (wc.heap[gb202]? = some (.cells #[.int .i64 x203000_17, .int .i64 x203001_17, .string x203002_17] 23 (0, 0))) ∧ Aside0 (wc.heap[gb238]? = some (.cells #[.int .i64 ((rd_T23 l1 0).f0), .int .i64 ((rd_T23 l1 0).f1), .string ((rd_T23 l1 0).f2)] 23 (0, 0))) ∧ Aside0 (Below w.heap.size w wc))
                    case first =>
                      have H := HC44.out
                      clear HC44
                      by_cases c48 : a0.toList = ([65, 66, 83] : List UInt8)
                      · rw [if_pos c48] at H
                        have c48b0 : (a0.toList == ([65, 66, 83] : List UInt8)) = true := beq_iff_eq.mpr c48
                        have c48b1 : (a0.toList != ([65, 66, 83] : List UInt8)) = false := bne_eq_false_iff_eq.mpr c48
                        clear c48
                        (first | rw [c48b0] | (simp only [i64_w, i32_w]; rw [c48b0]) | skip)
                        have H' := Aside0.mk H
                        clear H
                        have hnb49 := NB238_202.out
                        have hnc49 := NB202_238.out
                        have hcz50_0 : w45.cell? ⟨gb238, 0, none⟩ = some (.int .i64 0) := (blk_cell BK238.out 0).trans rfl
                        have hcz50_1 : w45.cell? ⟨gb238, 1, none⟩ = some (.int .i64 0) := (blk_cell BK238.out 1).trans rfl
                        have hcz50_2 : w45.cell? ⟨gb238, 2, none⟩ = some (.string (⟨#[]⟩ : ByteArray)) := (blk_cell BK238.out 2).trans rfl
                        have hfz50_0 := blk_frozen BK238.out 0
                        have hfz50_1 := blk_frozen BK238.out 1
                        have hfz50_2 := blk_frozen BK238.out 2
                        go_wp2
                        repeat (go_quiet (fail); try go_wp2)
                        go_meet
                        case rel => exact ⟨_, ((((rd_T23 l1 0).f0) == 1)), (by first | rfl | (simp; done) | (simp [*]; done)), H', ⟨by have := HK1.out; have := HJ12.out; have := HJ17.out; first | omega | exact Nat.le_refl _⟩, ⟨by (with_reducible repeat (first | refine blk_drewN ?_ _ | refine blk_drew ?_ | refine blk_alloc ?_ _)); refine blk_far ?_ NB202_238.out _; (with_reducible repeat (first | refine blk_drewN ?_ _ | refine blk_drew ?_ | refine blk_alloc ?_ _)); refine blk_far ?_ NB202_238.out _; (with_reducible repeat (first | refine blk_drewN ?_ _ | refine blk_drew ?_ | refine blk_alloc ?_ _)); refine blk_far ?_ NB202_238.out _; (with_reducible repeat (first | refine blk_drewN ?_ _ | refine blk_drew ?_ | refine blk_alloc ?_ _)); exact BK202.out⟩, ⟨by (with_reducible repeat (first | refine blk_drewN ?_ _ | refine blk_drew ?_ | refine blk_alloc ?_ _)); refine blk_put (cs := #[.int .i64 ((rd_T23 l1 0).f0), .int .i64 ((rd_T23 l1 0).f1), .string (⟨#[]⟩ : ByteArray)]) ?_ 2 _ rfl; (with_reducible repeat (first | refine blk_drewN ?_ _ | refine blk_drew ?_ | refine blk_alloc ?_ _)); refine blk_put (cs := #[.int .i64 ((rd_T23 l1 0).f0), .int .i64 0, .string (⟨#[]⟩ : ByteArray)]) ?_ 1 _ rfl; (with_reducible repeat (first | refine blk_drewN ?_ _ | refine blk_drew ?_ | refine blk_alloc ?_ _)); refine blk_put (cs := #[.int .i64 0, .int .i64 0, .string (⟨#[]⟩ : ByteArray)]) ?_ 0 _ rfl; (with_reducible repeat (first | refine blk_drewN ?_ _ | refine blk_drew ?_ | refine blk_alloc ?_ _)); exact BK238.out⟩, ⟨by repeat (first | (with_reducible first | exact HB.out | apply below_alloc | apply pw_below_drewN | apply below_drew1 | refine below_set ?_ GE202.out | refine below_set ?_ GE238.out) | exact HB.out)⟩⟩
                      · rw [if_neg c48] at H
                        have c48b0 : (a0.toList == ([65, 66, 83] : List UInt8)) = false := beq_eq_false_iff_ne.mpr c48
                        have c48b1 : (a0.toList != ([65, 66, 83] : List UInt8)) = true := bne_iff_ne.mpr c48
                        (first | rw [c48b0] | (simp only [i64_w, i32_w]; rw [c48b0]) | skip)
                        have H' := Aside0.mk H
                        clear H
                        go_wp2
                        repeat (go_quiet (fail); try go_wp2)
                        go_meet
                        case rel => exact ⟨_, (false), (by first | rfl | (simp; done) | (simp [*]; done)), H', ⟨by have := HK1.out; have := HJ12.out; have := HJ17.out; first | omega | exact Nat.le_refl _⟩, ⟨by (with_reducible repeat (first | refine blk_drewN ?_ _ | refine blk_drew ?_ | refine blk_alloc ?_ _)); refine blk_far ?_ NB202_238.out _; (with_reducible repeat (first | refine blk_drewN ?_ _ | refine blk_drew ?_ | refine blk_alloc ?_ _)); refine blk_far ?_ NB202_238.out _; (with_reducible repeat (first | refine blk_drewN ?_ _ | refine blk_drew ?_ | refine blk_alloc ?_ _)); refine blk_far ?_ NB202_238.out _; (with_reducible repeat (first | refine blk_drewN ?_ _ | refine blk_drew ?_ | refine blk_alloc ?_ _)); exact BK202.out⟩, ⟨by (with_reducible repeat (first | refine blk_drewN ?_ _ | refine blk_drew ?_ | refine blk_alloc ?_ _)); refine blk_put (cs := #[.int .i64 ((rd_T23 l1 0).f0), .int .i64 ((rd_T23 l1 0).f1), .string (⟨#[]⟩ : ByteArray)]) ?_ 2 _ rfl; (with_reducible repeat (first | refine blk_drewN ?_ _ | refine blk_drew ?_ | refine blk_alloc ?_ _)); refine blk_put (cs := #[.int .i64 ((rd_T23 l1 0).f0), .int .i64 0, .string (⟨#[]⟩ : ByteArray)]) ?_ 1 _ rfl; (with_reducible repeat (first | refine blk_drewN ?_ _ | refine blk_drew ?_ | refine blk_alloc ?_ _)); refine blk_put (cs := #[.int .i64 0, .int .i64 0, .string (⟨#[]⟩ : ByteArray)]) ?_ 0 _ rfl; (with_reducible repeat (first | refine blk_drewN ?_ _ | refine blk_drew ?_ | refine blk_alloc ?_ _)); exact BK238.out⟩, ⟨by repeat (first | (with_reducible first | exact HB.out | apply below_alloc | apply pw_below_drewN | apply below_drew1 | refine below_set ?_ GE202.out | refine below_set ?_ GE238.out) | exact HB.out)⟩⟩
                    case rest =>
                      clear HC44
                      try clear c1
                      try clear c2
                      try clear p2
                      try clear q2
                      try clear hx2
                      try clear qi2
                      try clear c3
                      try clear c4
                      try clear c4b0
                      try clear c5
                      try clear c5b0
                      try clear p6
                      try clear c7
                      try clear c14
                      try clear c14b0
                      try clear c14b1
                      try clear c15
                      try clear c15b0
                      try clear c15b1
                      try clear c16
                      try clear c16b0
                      try clear c16b1
                      try clear c17
                      try clear c17b0
                      try clear c17b1
                      try clear c19
                      try clear c20
                      try clear c20b0
                      try clear c20b1
                      try clear p20
                      try clear q20
                      try clear hx20
                      try clear qi20
                      try clear p21
                      try clear q21
                      try clear hx21
                      try clear qi21
                      try clear c22
                      try clear c22b0
                      try clear c22b1
                      try clear p23
                      try clear q23
                      try clear hx23
                      try clear qi23
                      try clear c24
                      try clear c24b0
                      try clear c24b1
                      try clear c30
                      try clear c30b0
                      try clear c30b1
                      try clear c36
                      try clear c36b0
                      try clear c36b1
                      try clear c42
                      try clear c42b0
                      try clear c42b1
                      try clear c43
                      try clear c43b0
                      try clear c43b1
                      try clear c46
                      try clear c48
                      try clear c48b0
                      try clear c48b1
                      try clear c49
                      try clear hcz12_0
                      try clear hcz12_1
                      try clear hcz12_2
                      try clear hcz29_0
                      try clear hcz29_1
                      try clear hcz29_2
                      try clear hcz35_0
                      try clear hcz35_1
                      try clear hcz35_2
                      try clear hcz41_0
                      try clear hcz41_1
                      try clear hcz41_2
                      try clear hcz47_0
                      try clear hcz47_1
                      try clear hcz47_2
                      try clear hcz50_0
                      try clear hcz50_1
                      try clear hcz50_2
                      try clear hfz12_0
                      try clear hfz12_1
                      try clear hfz12_2
                      try clear hfz29_0
                      try clear hfz29_1
                      try clear hfz29_2
                      try clear hfz35_0
                      try clear hfz35_1
                      try clear hfz35_2
                      try clear hfz41_0
                      try clear hfz41_1
                      try clear hfz41_2
                      try clear hfz47_0
                      try clear hfz47_1
                      try clear hfz47_2
                      try clear hfz50_0
                      try clear hfz50_1
                      try clear hfz50_2
                      try clear hx203_0
                      try clear hx203_1
                      try clear hx203_2
                      try clear hx209_0
                      try clear hx209_1
                      try clear hx209_2
                      try clear hx210_0
                      try clear hx210_1
                      try clear hx210_2
                      try clear hx211_0
                      try clear hx211_1
                      try clear hx211_2
                      try clear hx213_0
                      try clear hx213_1
                      try clear hx213_2
                      try clear hx237_0
                      try clear hx237_1
                      try clear hx237_2
                      try clear p2
                      try clear p20
                      try clear p203
                      try clear p209
                      try clear p21
                      try clear p210
                      try clear p211
                      try clear p213
                      try clear p237
                      try clear p6
                      try clear q2
                      try clear q20
                      try clear q203
                      try clear q209
                      try clear q21
                      try clear q210
                      try clear q211
                      try clear q213
                      try clear q237
                      obtain ⟨kq, x89_43, rfl, HA, HJ43, BK202, BK238, HB⟩ := hcut
                      cases kq with
                      | zero => exact absurd HA.out (by simp [spinetref12_Call.j3])
                      | succ kj43 =>
                        have H := HA.out
                        clear HA
                        simp only [spinetref12_Call.j3] at H
                        by_cases c51 : x89_43 = true
                        · subst c51
                          have H1 : ((spinetref12_integer.f kj43 (mx ((rd_T23 l1 0).f1) (wrap64 (-((rd_T23 l1 0).f1))))).bind fun bt239 => (some (bt239.1, bt239.2.1, bt239.2.2.1, bt239.2.2.2))) = some (r1, r2, r3, r4) := by rw [if_pos rfl] at H; exact H
                          clear H
                          have H := H1
                          clear H1
                          obtain ⟨ji52, hji52⟩ : ∃ j_ : Int, (mx ((rd_T23 l1 0).f1) (wrap64 (-((rd_T23 l1 0).f1)))) = j_ := ⟨_, rfl⟩
                          replace H : ((spinetref12_integer.f kj43 (ji52)).bind fun bt239 => (some (bt239.1, bt239.2.1, bt239.2.2.1, bt239.2.2.2))) = some (r1, r2, r3, r4) := by first | (rw [hji52] at H; exact H) | (simp only [hji52] at H ⊢; exact H)
                          have hji52_ : (if ((rd_T23 l1 0).f1) < (wrap64 (-((rd_T23 l1 0).f1))) then (wrap64 (-((rd_T23 l1 0).f1))) else ((rd_T23 l1 0).f1)) = ji52 := hji52
                          replace H := Option.bind_eq_some_iff.mp H
                          obtain ⟨⟨t239, t240, t241, t242⟩, A530, H⟩ := H
                          replace H : (some (t239, t240, t241, t242)) = some (r1, r2, r3, r4) := H
                          have A53 := Aside0.mk A530
                          clear A530
                          simp only [Option.some.injEq, Prod.mk.injEq] at H
                          obtain ⟨rfl, rfl, rfl, rfl⟩ := H
                          have hnb54 := NB238_202.out
                          have hnc54 := NB202_238.out
                          have hcz55_0 : wc.cell? ⟨gb238, 0, none⟩ = some (.int .i64 ((rd_T23 l1 0).f0)) := (blk_cell BK238.out 0).trans rfl
                          have hcz55_1 : wc.cell? ⟨gb238, 1, none⟩ = some (.int .i64 ((rd_T23 l1 0).f1)) := (blk_cell BK238.out 1).trans rfl
                          have hcz55_2 : wc.cell? ⟨gb238, 2, none⟩ = some (.string ((rd_T23 l1 0).f2)) := (blk_cell BK238.out 2).trans rfl
                          have hfz55_0 := blk_frozen BK238.out 0
                          have hfz55_1 := blk_frozen BK238.out 1
                          have hfz55_2 := blk_frozen BK238.out 2
                          go_wp2_with (first | (go_at_call 45; (with_reducible refine (spinetref12_integer.calls kj43 ji52 t239 t240 t241 t242 _ A53.out).mono ?_); rintro e w56 ⟨rfl, hb⟩; have n0_ := Aside0.mk (blk_below (g := gb202) (o := .cells #[.int .i64 x203000_17, .int .i64 x203001_17, .string x203002_17] 23 (0, 0)) (by (with_reducible repeat (first | refine blk_drewN ?_ _ | refine blk_drew ?_ | refine blk_alloc ?_ _)); exact BK202.out) hb); have n1_ := Aside0.mk (blk_below (g := gb238) (o := .cells #[.int .i64 ((rd_T23 l1 0).f0), .int .i64 ((rd_T23 l1 0).f1), .string ((rd_T23 l1 0).f2)] 23 (0, 0)) (by (with_reducible repeat (first | refine blk_drewN ?_ _ | refine blk_drew ?_ | refine blk_alloc ?_ _)); exact BK238.out) hb); have n2_ := Aside0.mk (below_step (by repeat (first | (with_reducible first | exact HB.out | apply below_alloc | apply pw_below_drewN | apply below_drew1 | refine below_set ?_ GE202.out | refine below_set ?_ GE238.out) | exact HB.out)) hb); clear BK202; clear BK238; clear HB; have BK202 := n0_; have BK238 := n1_; have HB := n2_; clear n0_ n1_ n2_; (try clear hb); (try clear hb2); (try clear hk); (try clear hi); have hcz57_0 : w56.cell? ⟨gb202, 0, none⟩ = some (.int .i64 x203000_17) := (blk_cell BK202.out 0).trans rfl; have hcz57_1 : w56.cell? ⟨gb202, 1, none⟩ = some (.int .i64 x203001_17) := (blk_cell BK202.out 1).trans rfl; have hcz57_2 : w56.cell? ⟨gb202, 2, none⟩ = some (.string x203002_17) := (blk_cell BK202.out 2).trans rfl; have hfz57_0 := blk_frozen BK202.out 0; have hfz57_1 := blk_frozen BK202.out 1; have hfz57_2 := blk_frozen BK202.out 2))
                          repeat (go_quiet (first | (go_at_call 45; (with_reducible refine (spinetref12_integer.calls kj43 ji52 t239 t240 t241 t242 _ A53.out).mono ?_); rintro e w56 ⟨rfl, hb⟩; have n0_ := Aside0.mk (blk_below (g := gb202) (o := .cells #[.int .i64 x203000_17, .int .i64 x203001_17, .string x203002_17] 23 (0, 0)) (by (with_reducible repeat (first | refine blk_drewN ?_ _ | refine blk_drew ?_ | refine blk_alloc ?_ _)); exact BK202.out) hb); have n1_ := Aside0.mk (blk_below (g := gb238) (o := .cells #[.int .i64 ((rd_T23 l1 0).f0), .int .i64 ((rd_T23 l1 0).f1), .string ((rd_T23 l1 0).f2)] 23 (0, 0)) (by (with_reducible repeat (first | refine blk_drewN ?_ _ | refine blk_drew ?_ | refine blk_alloc ?_ _)); exact BK238.out) hb); have n2_ := Aside0.mk (below_step (by repeat (first | (with_reducible first | exact HB.out | apply below_alloc | apply pw_below_drewN | apply below_drew1 | refine below_set ?_ GE202.out | refine below_set ?_ GE238.out) | exact HB.out)) hb); clear BK202; clear BK238; clear HB; have BK202 := n0_; have BK238 := n1_; have HB := n2_; clear n0_ n1_ n2_; (try clear hb); (try clear hb2); (try clear hk); (try clear hi); have hcz57_0 : w56.cell? ⟨gb202, 0, none⟩ = some (.int .i64 x203000_17) := (blk_cell BK202.out 0).trans rfl; have hcz57_1 : w56.cell? ⟨gb202, 1, none⟩ = some (.int .i64 x203001_17) := (blk_cell BK202.out 1).trans rfl; have hcz57_2 : w56.cell? ⟨gb202, 2, none⟩ = some (.string x203002_17) := (blk_cell BK202.out 2).trans rfl; have hfz57_0 := blk_frozen BK202.out 0; have hfz57_1 := blk_frozen BK202.out 1; have hfz57_2 := blk_frozen BK202.out 2)); try go_wp2_with (first | (go_at_call 45; (with_reducible refine (spinetref12_integer.calls kj43 ji52 t239 t240 t241 t242 _ A53.out).mono ?_); rintro e w56 ⟨rfl, hb⟩; have n0_ := Aside0.mk (blk_below (g := gb202) (o := .cells #[.int .i64 x203000_17, .int .i64 x203001_17, .string x203002_17] 23 (0, 0)) (by (with_reducible repeat (first | refine blk_drewN ?_ _ | refine blk_drew ?_ | refine blk_alloc ?_ _)); exact BK202.out) hb); have n1_ := Aside0.mk (blk_below (g := gb238) (o := .cells #[.int .i64 ((rd_T23 l1 0).f0), .int .i64 ((rd_T23 l1 0).f1), .string ((rd_T23 l1 0).f2)] 23 (0, 0)) (by (with_reducible repeat (first | refine blk_drewN ?_ _ | refine blk_drew ?_ | refine blk_alloc ?_ _)); exact BK238.out) hb); have n2_ := Aside0.mk (below_step (by repeat (first | (with_reducible first | exact HB.out | apply below_alloc | apply pw_below_drewN | apply below_drew1 | refine below_set ?_ GE202.out | refine below_set ?_ GE238.out) | exact HB.out)) hb); clear BK202; clear BK238; clear HB; have BK202 := n0_; have BK238 := n1_; have HB := n2_; clear n0_ n1_ n2_; (try clear hb); (try clear hb2); (try clear hk); (try clear hi); have hcz57_0 : w56.cell? ⟨gb202, 0, none⟩ = some (.int .i64 x203000_17) := (blk_cell BK202.out 0).trans rfl; have hcz57_1 : w56.cell? ⟨gb202, 1, none⟩ = some (.int .i64 x203001_17) := (blk_cell BK202.out 1).trans rfl; have hcz57_2 : w56.cell? ⟨gb202, 2, none⟩ = some (.string x203002_17) := (blk_cell BK202.out 2).trans rfl; have hfz57_0 := blk_frozen BK202.out 0; have hfz57_1 := blk_frozen BK202.out 1; have hfz57_2 := blk_frozen BK202.out 2)))
                          refine bodyPost_ret (results_ct rfl _ _ gb202 23 #[.int .i64 t239, .int .i64 t240, .string t241] (0, 0) _ rfl (by (with_reducible repeat (first | refine blk_drewN ?_ _ | refine blk_drew ?_ | refine blk_alloc ?_ _)); refine blk_put (cs := #[.int .i64 t239, .int .i64 t240, .string x203002_17]) ?_ 2 _ rfl; (with_reducible repeat (first | refine blk_drewN ?_ _ | refine blk_drew ?_ | refine blk_alloc ?_ _)); refine blk_put (cs := #[.int .i64 t239, .int .i64 x203001_17, .string x203002_17]) ?_ 1 _ rfl; (with_reducible repeat (first | refine blk_drewN ?_ _ | refine blk_drew ?_ | refine blk_alloc ?_ _)); refine blk_put (cs := #[.int .i64 x203000_17, .int .i64 x203001_17, .string x203002_17]) ?_ 0 _ rfl; (with_reducible repeat (first | refine blk_drewN ?_ _ | refine blk_drew ?_ | refine blk_alloc ?_ _)); exact BK202.out) Try.underlying23 rfl (by kernel_rfl)) rfl ?_
                          exact ⟨by first | rfl | (simp [errW_none, errW_some] <;> rfl) | (simp only [← hji52]; first | rfl | (simp [errW_none, errW_some] <;> rfl)) | (simp [*, errW_none, errW_some] <;> rfl), by repeat (first | (with_reducible first | exact HB.out | apply below_alloc | apply pw_below_drewN | apply below_drew1 | refine below_set ?_ GE202.out | refine below_set ?_ GE238.out) | exact HB.out)⟩
                        · replace c51 := Bool.eq_false_iff.mpr c51
                          subst c51
                          have H1 : (if a0.toList = ([79, 68, 68] : List UInt8) then (spinetref12_Call.j4 kj43 a0 (((rd_T23 l1 0).f0) == 1) ((rd_T23 l1 0).f0) ((rd_T23 l1 0).f1) ((rd_T23 l1 0).f2)) else (spinetref12_Call.j4 kj43 a0 false ((rd_T23 l1 0).f0) ((rd_T23 l1 0).f1) ((rd_T23 l1 0).f2))) = some (r1, r2, r3, r4) := by rw [if_neg (show ¬ (false = true) by decide)] at H; exact H
                          clear H
                          have H := H1
                          clear H1
                          have HC58 := Aside0.mk H
                          clear H
                          go_upto_region 20 with (fail)
                          repeat (go_quiet (fail); go_upto_region 20 with (fail))
                          go_cut [106] (fun v106 wc => ∃ (kq : Nat) (x106_57 : Bool), v106 = .bool x106_57 ∧ Aside0 (spinetref12_Call.j4 kq a0 x106_57 ((rd_T23 l1 0).f0) ((rd_T23 l1 0).f1) ((rd_T23 l1 0).f2) = some (r1, r2, r3, r4)) ∧ Aside0 (kq ≤ kj43) ∧ Aside0 (wc.heap[gb202]? = some (.cells #[.int .i64 x203000_17, .int .i64 x203001_17, .string x203002_17] 23 (0, 0))) ∧ Aside0 (wc.heap[gb238]? = some (.cells #[.int .i64 ((rd_T23 l1 0).f0), .int .i64 ((rd_T23 l1 0).f1), .string ((rd_T23 l1 0).f2)] 23 (0, 0))) ∧ Aside0 (Below w.heap.size w wc))
                          case first =>
                            have H := HC58.out
                            clear HC58
                            by_cases c59 : a0.toList = ([79, 68, 68] : List UInt8)
                            · rw [if_pos c59] at H
                              have c59b0 : (a0.toList == ([79, 68, 68] : List UInt8)) = true := beq_iff_eq.mpr c59
                              have c59b1 : (a0.toList != ([79, 68, 68] : List UInt8)) = false := bne_eq_false_iff_eq.mpr c59
                              clear c59
                              (first | rw [c59b0] | (simp only [i64_w, i32_w]; rw [c59b0]) | skip)
                              have H' := Aside0.mk H
                              clear H
                              have hnb60 := NB238_202.out
                              have hnc60 := NB202_238.out
                              have hcz61_0 : wc.cell? ⟨gb238, 0, none⟩ = some (.int .i64 ((rd_T23 l1 0).f0)) := (blk_cell BK238.out 0).trans rfl
                              have hcz61_1 : wc.cell? ⟨gb238, 1, none⟩ = some (.int .i64 ((rd_T23 l1 0).f1)) := (blk_cell BK238.out 1).trans rfl
                              have hcz61_2 : wc.cell? ⟨gb238, 2, none⟩ = some (.string ((rd_T23 l1 0).f2)) := (blk_cell BK238.out 2).trans rfl
                              have hfz61_0 := blk_frozen BK238.out 0
                              have hfz61_1 := blk_frozen BK238.out 1
                              have hfz61_2 := blk_frozen BK238.out 2
                              go_wp2
                              repeat (go_quiet (fail); try go_wp2)
                              go_meet
                              case rel => exact ⟨_, ((((rd_T23 l1 0).f0) == 1)), (by first | rfl | (simp; done) | (simp [*]; done)), H', ⟨by have := HK1.out; have := HJ12.out; have := HJ17.out; have := HJ43.out; first | omega | exact Nat.le_refl _⟩, ⟨by (with_reducible repeat (first | refine blk_drewN ?_ _ | refine blk_drew ?_ | refine blk_alloc ?_ _)); exact BK202.out⟩, ⟨by (with_reducible repeat (first | refine blk_drewN ?_ _ | refine blk_drew ?_ | refine blk_alloc ?_ _)); exact BK238.out⟩, ⟨by repeat (first | (with_reducible first | exact HB.out | apply below_alloc | apply pw_below_drewN | apply below_drew1 | refine below_set ?_ GE202.out | refine below_set ?_ GE238.out) | exact HB.out)⟩⟩
                            · rw [if_neg c59] at H
                              have c59b0 : (a0.toList == ([79, 68, 68] : List UInt8)) = false := beq_eq_false_iff_ne.mpr c59
                              have c59b1 : (a0.toList != ([79, 68, 68] : List UInt8)) = true := bne_iff_ne.mpr c59
                              (first | rw [c59b0] | (simp only [i64_w, i32_w]; rw [c59b0]) | skip)
                              have H' := Aside0.mk H
                              clear H
                              go_wp2
                              repeat (go_quiet (fail); try go_wp2)
                              go_meet
                              case rel => exact ⟨_, (false), (by first | rfl | (simp; done) | (simp [*]; done)), H', ⟨by have := HK1.out; have := HJ12.out; have := HJ17.out; have := HJ43.out; first | omega | exact Nat.le_refl _⟩, ⟨by (with_reducible repeat (first | refine blk_drewN ?_ _ | refine blk_drew ?_ | refine blk_alloc ?_ _)); exact BK202.out⟩, ⟨by (with_reducible repeat (first | refine blk_drewN ?_ _ | refine blk_drew ?_ | refine blk_alloc ?_ _)); exact BK238.out⟩, ⟨by repeat (first | (with_reducible first | exact HB.out | apply below_alloc | apply pw_below_drewN | apply below_drew1 | refine below_set ?_ GE202.out | refine below_set ?_ GE238.out) | exact HB.out)⟩⟩
                          case rest =>
                            clear HC58
                            try clear c1
                            try clear c2
                            try clear p2
                            try clear q2
                            try clear hx2
                            try clear qi2
                            try clear c3
                            try clear c4
                            try clear c4b0
                            try clear c5
                            try clear c5b0
                            try clear c6
                            try clear p6
                            try clear c7
                            try clear c14
                            try clear c14b0
                            try clear c14b1
                            try clear c15
                            try clear c15b0
                            try clear c15b1
                            try clear c16
                            try clear c16b0
                            try clear c16b1
                            try clear c17
                            try clear c17b0
                            try clear c17b1
                            try clear c19
                            try clear c20
                            try clear c20b0
                            try clear c20b1
                            try clear p20
                            try clear q20
                            try clear hx20
                            try clear qi20
                            try clear p21
                            try clear q21
                            try clear hx21
                            try clear qi21
                            try clear c22
                            try clear c22b0
                            try clear c22b1
                            try clear p23
                            try clear q23
                            try clear hx23
                            try clear qi23
                            try clear c24
                            try clear c24b0
                            try clear c24b1
                            try clear c30
                            try clear c30b0
                            try clear c30b1
                            try clear c36
                            try clear c36b0
                            try clear c36b1
                            try clear c42
                            try clear c42b0
                            try clear c42b1
                            try clear c43
                            try clear c43b0
                            try clear c43b1
                            try clear c46
                            try clear c48
                            try clear c48b0
                            try clear c48b1
                            try clear c49
                            try clear c51
                            try clear c54
                            try clear c59
                            try clear c59b0
                            try clear c59b1
                            try clear c60
                            try clear hcz12_0
                            try clear hcz12_1
                            try clear hcz12_2
                            try clear hcz29_0
                            try clear hcz29_1
                            try clear hcz29_2
                            try clear hcz35_0
                            try clear hcz35_1
                            try clear hcz35_2
                            try clear hcz41_0
                            try clear hcz41_1
                            try clear hcz41_2
                            try clear hcz47_0
                            try clear hcz47_1
                            try clear hcz47_2
                            try clear hcz50_0
                            try clear hcz50_1
                            try clear hcz50_2
                            try clear hcz55_0
                            try clear hcz55_1
                            try clear hcz55_2
                            try clear hcz57_0
                            try clear hcz57_1
                            try clear hcz57_2
                            try clear hcz61_0
                            try clear hcz61_1
                            try clear hcz61_2
                            try clear hfz12_0
                            try clear hfz12_1
                            try clear hfz12_2
                            try clear hfz29_0
                            try clear hfz29_1
                            try clear hfz29_2
                            try clear hfz35_0
                            try clear hfz35_1
                            try clear hfz35_2
                            try clear hfz41_0
                            try clear hfz41_1
                            try clear hfz41_2
                            try clear hfz47_0
                            try clear hfz47_1
                            try clear hfz47_2
                            try clear hfz50_0
                            try clear hfz50_1
                            try clear hfz50_2
                            try clear hfz55_0
                            try clear hfz55_1
                            try clear hfz55_2
                            try clear hfz57_0
                            try clear hfz57_1
                            try clear hfz57_2
                            try clear hfz61_0
                            try clear hfz61_1
                            try clear hfz61_2
                            try clear hx203_0
                            try clear hx203_1
                            try clear hx203_2
                            try clear hx209_0
                            try clear hx209_1
                            try clear hx209_2
                            try clear hx210_0
                            try clear hx210_1
                            try clear hx210_2
                            try clear hx211_0
                            try clear hx211_1
                            try clear hx211_2
                            try clear hx213_0
                            try clear hx213_1
                            try clear hx213_2
                            try clear hx237_0
                            try clear hx237_1
                            try clear hx237_2
                            try clear p2
                            try clear p20
                            try clear p203
                            try clear p209
                            try clear p21
                            try clear p210
                            try clear p211
                            try clear p213
                            try clear p23
                            try clear p237
                            try clear p6
                            try clear q2
                            try clear q20
                            try clear q203
                            try clear q209
                            try clear q21
                            try clear q210
                            try clear q211
                            try clear q213
                            try clear q23
                            try clear q237
                            obtain ⟨kq, x106_57, rfl, HA, HJ57, BK202, BK238, HB⟩ := hcut
                            cases kq with
                            | zero => exact absurd HA.out (by simp [spinetref12_Call.j4])
                            | succ kj57 =>
                              have H := HA.out
                              clear HA
                              simp only [spinetref12_Call.j4] at H
                              by_cases c62 : x106_57 = true
                              · subst c62
                                have H1 : ((spinetref12_truth.f ((Int.tmod ((rd_T23 l1 0).f1) 2) != 0)).bind fun bt243 => (some (bt243.1, bt243.2.1, bt243.2.2.1, bt243.2.2.2))) = some (r1, r2, r3, r4) := by rw [if_pos rfl] at H; exact H
                                clear H
                                have H := H1
                                clear H1
                                replace H := Option.bind_eq_some_iff.mp H
                                obtain ⟨⟨t243, t244, t245, t246⟩, A630, H⟩ := H
                                replace H : (some (t243, t244, t245, t246)) = some (r1, r2, r3, r4) := H
                                have A63 := Aside0.mk A630
                                clear A630
                                simp only [Option.some.injEq, Prod.mk.injEq] at H
                                obtain ⟨rfl, rfl, rfl, rfl⟩ := H
                                have hnb64 := NB238_202.out
                                have hnc64 := NB202_238.out
                                have hcz65_0 : wc.cell? ⟨gb238, 0, none⟩ = some (.int .i64 ((rd_T23 l1 0).f0)) := (blk_cell BK238.out 0).trans rfl
                                have hcz65_1 : wc.cell? ⟨gb238, 1, none⟩ = some (.int .i64 ((rd_T23 l1 0).f1)) := (blk_cell BK238.out 1).trans rfl
                                have hcz65_2 : wc.cell? ⟨gb238, 2, none⟩ = some (.string ((rd_T23 l1 0).f2)) := (blk_cell BK238.out 2).trans rfl
                                have hfz65_0 := blk_frozen BK238.out 0
                                have hfz65_1 := blk_frozen BK238.out 1
                                have hfz65_2 := blk_frozen BK238.out 2
                                go_wp2_with (first | (go_at_call 35; (with_reducible refine (spinetref12_truth.calls ((Int.tmod ((rd_T23 l1 0).f1) 2) != 0) t243 t244 t245 t246 _ A63.out).mono ?_); rintro e w66 ⟨rfl, hb⟩; have n0_ := Aside0.mk (blk_below (g := gb202) (o := .cells #[.int .i64 x203000_17, .int .i64 x203001_17, .string x203002_17] 23 (0, 0)) (by (with_reducible repeat (first | refine blk_drewN ?_ _ | refine blk_drew ?_ | refine blk_alloc ?_ _)); exact BK202.out) hb); have n1_ := Aside0.mk (blk_below (g := gb238) (o := .cells #[.int .i64 ((rd_T23 l1 0).f0), .int .i64 ((rd_T23 l1 0).f1), .string ((rd_T23 l1 0).f2)] 23 (0, 0)) (by (with_reducible repeat (first | refine blk_drewN ?_ _ | refine blk_drew ?_ | refine blk_alloc ?_ _)); exact BK238.out) hb); have n2_ := Aside0.mk (below_step (by repeat (first | (with_reducible first | exact HB.out | apply below_alloc | apply pw_below_drewN | apply below_drew1 | refine below_set ?_ GE202.out | refine below_set ?_ GE238.out) | exact HB.out)) hb); clear BK202; clear BK238; clear HB; have BK202 := n0_; have BK238 := n1_; have HB := n2_; clear n0_ n1_ n2_; (try clear hb); (try clear hb2); (try clear hk); (try clear hi); have hcz67_0 : w66.cell? ⟨gb202, 0, none⟩ = some (.int .i64 x203000_17) := (blk_cell BK202.out 0).trans rfl; have hcz67_1 : w66.cell? ⟨gb202, 1, none⟩ = some (.int .i64 x203001_17) := (blk_cell BK202.out 1).trans rfl; have hcz67_2 : w66.cell? ⟨gb202, 2, none⟩ = some (.string x203002_17) := (blk_cell BK202.out 2).trans rfl; have hfz67_0 := blk_frozen BK202.out 0; have hfz67_1 := blk_frozen BK202.out 1; have hfz67_2 := blk_frozen BK202.out 2))
                                repeat (go_quiet (first | (go_at_call 35; (with_reducible refine (spinetref12_truth.calls ((Int.tmod ((rd_T23 l1 0).f1) 2) != 0) t243 t244 t245 t246 _ A63.out).mono ?_); rintro e w66 ⟨rfl, hb⟩; have n0_ := Aside0.mk (blk_below (g := gb202) (o := .cells #[.int .i64 x203000_17, .int .i64 x203001_17, .string x203002_17] 23 (0, 0)) (by (with_reducible repeat (first | refine blk_drewN ?_ _ | refine blk_drew ?_ | refine blk_alloc ?_ _)); exact BK202.out) hb); have n1_ := Aside0.mk (blk_below (g := gb238) (o := .cells #[.int .i64 ((rd_T23 l1 0).f0), .int .i64 ((rd_T23 l1 0).f1), .string ((rd_T23 l1 0).f2)] 23 (0, 0)) (by (with_reducible repeat (first | refine blk_drewN ?_ _ | refine blk_drew ?_ | refine blk_alloc ?_ _)); exact BK238.out) hb); have n2_ := Aside0.mk (below_step (by repeat (first | (with_reducible first | exact HB.out | apply below_alloc | apply pw_below_drewN | apply below_drew1 | refine below_set ?_ GE202.out | refine below_set ?_ GE238.out) | exact HB.out)) hb); clear BK202; clear BK238; clear HB; have BK202 := n0_; have BK238 := n1_; have HB := n2_; clear n0_ n1_ n2_; (try clear hb); (try clear hb2); (try clear hk); (try clear hi); have hcz67_0 : w66.cell? ⟨gb202, 0, none⟩ = some (.int .i64 x203000_17) := (blk_cell BK202.out 0).trans rfl; have hcz67_1 : w66.cell? ⟨gb202, 1, none⟩ = some (.int .i64 x203001_17) := (blk_cell BK202.out 1).trans rfl; have hcz67_2 : w66.cell? ⟨gb202, 2, none⟩ = some (.string x203002_17) := (blk_cell BK202.out 2).trans rfl; have hfz67_0 := blk_frozen BK202.out 0; have hfz67_1 := blk_frozen BK202.out 1; have hfz67_2 := blk_frozen BK202.out 2)); try go_wp2_with (first | (go_at_call 35; (with_reducible refine (spinetref12_truth.calls ((Int.tmod ((rd_T23 l1 0).f1) 2) != 0) t243 t244 t245 t246 _ A63.out).mono ?_); rintro e w66 ⟨rfl, hb⟩; have n0_ := Aside0.mk (blk_below (g := gb202) (o := .cells #[.int .i64 x203000_17, .int .i64 x203001_17, .string x203002_17] 23 (0, 0)) (by (with_reducible repeat (first | refine blk_drewN ?_ _ | refine blk_drew ?_ | refine blk_alloc ?_ _)); exact BK202.out) hb); have n1_ := Aside0.mk (blk_below (g := gb238) (o := .cells #[.int .i64 ((rd_T23 l1 0).f0), .int .i64 ((rd_T23 l1 0).f1), .string ((rd_T23 l1 0).f2)] 23 (0, 0)) (by (with_reducible repeat (first | refine blk_drewN ?_ _ | refine blk_drew ?_ | refine blk_alloc ?_ _)); exact BK238.out) hb); have n2_ := Aside0.mk (below_step (by repeat (first | (with_reducible first | exact HB.out | apply below_alloc | apply pw_below_drewN | apply below_drew1 | refine below_set ?_ GE202.out | refine below_set ?_ GE238.out) | exact HB.out)) hb); clear BK202; clear BK238; clear HB; have BK202 := n0_; have BK238 := n1_; have HB := n2_; clear n0_ n1_ n2_; (try clear hb); (try clear hb2); (try clear hk); (try clear hi); have hcz67_0 : w66.cell? ⟨gb202, 0, none⟩ = some (.int .i64 x203000_17) := (blk_cell BK202.out 0).trans rfl; have hcz67_1 : w66.cell? ⟨gb202, 1, none⟩ = some (.int .i64 x203001_17) := (blk_cell BK202.out 1).trans rfl; have hcz67_2 : w66.cell? ⟨gb202, 2, none⟩ = some (.string x203002_17) := (blk_cell BK202.out 2).trans rfl; have hfz67_0 := blk_frozen BK202.out 0; have hfz67_1 := blk_frozen BK202.out 1; have hfz67_2 := blk_frozen BK202.out 2)))
                                refine bodyPost_ret (results_ct rfl _ _ gb202 23 #[.int .i64 t243, .int .i64 t244, .string t245] (0, 0) _ rfl (by (with_reducible repeat (first | refine blk_drewN ?_ _ | refine blk_drew ?_ | refine blk_alloc ?_ _)); refine blk_put (cs := #[.int .i64 t243, .int .i64 t244, .string x203002_17]) ?_ 2 _ rfl; (with_reducible repeat (first | refine blk_drewN ?_ _ | refine blk_drew ?_ | refine blk_alloc ?_ _)); refine blk_put (cs := #[.int .i64 t243, .int .i64 x203001_17, .string x203002_17]) ?_ 1 _ rfl; (with_reducible repeat (first | refine blk_drewN ?_ _ | refine blk_drew ?_ | refine blk_alloc ?_ _)); refine blk_put (cs := #[.int .i64 x203000_17, .int .i64 x203001_17, .string x203002_17]) ?_ 0 _ rfl; (with_reducible repeat (first | refine blk_drewN ?_ _ | refine blk_drew ?_ | refine blk_alloc ?_ _)); exact BK202.out) Try.underlying23 rfl (by kernel_rfl)) rfl ?_
                                exact ⟨by first | rfl | (simp [errW_none, errW_some] <;> rfl) | (simp [*, errW_none, errW_some] <;> rfl), by repeat (first | (with_reducible first | exact HB.out | apply below_alloc | apply pw_below_drewN | apply below_drew1 | refine below_set ?_ GE202.out | refine below_set ?_ GE238.out) | exact HB.out)⟩
                              · replace c62 := Bool.eq_false_iff.mpr c62
                                subst c62
                                have H1 : (if a0.toList = ([79, 82, 68] : List UInt8) then ((spinetref12_Char.f ((rd_T23 l1 0).f0) ((rd_T23 l1 0).f1) ((rd_T23 l1 0).f2)).bind fun bt247 => (if bt247.1 = 3 then (spinetref12_Call.j5 kj57 true bt247.1 bt247.2.1 bt247.2.2) else (spinetref12_Call.j5 kj57 (bt247.1 == 2) bt247.1 bt247.2.1 bt247.2.2))) else (if a0.toList = ([67, 72, 82] : List UInt8) then (spinetref12_Call.j6 kj57 (((rd_T23 l1 0).f0) == 1) ((rd_T23 l1 0).f0) ((rd_T23 l1 0).f1) ((rd_T23 l1 0).f2)) else (spinetref12_Call.j6 kj57 false ((rd_T23 l1 0).f0) ((rd_T23 l1 0).f1) ((rd_T23 l1 0).f2)))) = some (r1, r2, r3, r4) := by rw [if_neg (show ¬ (false = true) by decide)] at H; exact H
                                clear H
                                have H := H1
                                clear H1
                                by_cases c68 : a0.toList = ([79, 82, 68] : List UInt8)
                                · rw [if_pos c68] at H
                                  have c68b0 : (a0.toList == ([79, 82, 68] : List UInt8)) = true := beq_iff_eq.mpr c68
                                  have c68b1 : (a0.toList != ([79, 82, 68] : List UInt8)) = false := bne_eq_false_iff_eq.mpr c68
                                  clear c68
                                  replace H := Option.bind_eq_some_iff.mp H
                                  obtain ⟨⟨t247, t248, t249⟩, A690, H⟩ := H
                                  replace H : (if t247 = 3 then (spinetref12_Call.j5 kj57 true t247 t248 t249) else (spinetref12_Call.j5 kj57 (t247 == 2) t247 t248 t249)) = some (r1, r2, r3, r4) := H
                                  have A69 := Aside0.mk A690
                                  clear A690
                                  have HC70 := Aside0.mk H
                                  clear H
                                  have hnb71 := NB238_202.out
                                  have hnc71 := NB202_238.out
                                  have hcz72_0 : wc.cell? ⟨gb238, 0, none⟩ = some (.int .i64 ((rd_T23 l1 0).f0)) := (blk_cell BK238.out 0).trans rfl
                                  have hcz72_1 : wc.cell? ⟨gb238, 1, none⟩ = some (.int .i64 ((rd_T23 l1 0).f1)) := (blk_cell BK238.out 1).trans rfl
                                  have hcz72_2 : wc.cell? ⟨gb238, 2, none⟩ = some (.string ((rd_T23 l1 0).f2)) := (blk_cell BK238.out 2).trans rfl
                                  have hfz72_0 := blk_frozen BK238.out 0
                                  have hfz72_1 := blk_frozen BK238.out 1
                                  have hfz72_2 := blk_frozen BK238.out 2
                                  go_upto_region 24 with (first | (go_at_call 34; (with_reducible refine (spinetref12_Char.calls ((rd_T23 l1 0).f0) ((rd_T23 l1 0).f1) ((rd_T23 l1 0).f2) t247 t248 t249 _ A69.out).mono ?_); rintro e w73 ⟨rfl, hb⟩; have n0_ := Aside0.mk (blk_below (g := gb202) (o := .cells #[.int .i64 x203000_17, .int .i64 x203001_17, .string x203002_17] 23 (0, 0)) (by (with_reducible repeat (first | refine blk_drewN ?_ _ | refine blk_drew ?_ | refine blk_alloc ?_ _)); exact BK202.out) hb); have n1_ := Aside0.mk (blk_below (g := gb238) (o := .cells #[.int .i64 ((rd_T23 l1 0).f0), .int .i64 ((rd_T23 l1 0).f1), .string ((rd_T23 l1 0).f2)] 23 (0, 0)) (by (with_reducible repeat (first | refine blk_drewN ?_ _ | refine blk_drew ?_ | refine blk_alloc ?_ _)); exact BK238.out) hb); have n2_ := Aside0.mk (below_step (by repeat (first | (with_reducible first | exact HB.out | apply below_alloc | apply pw_below_drewN | apply below_drew1 | refine below_set ?_ GE202.out | refine below_set ?_ GE238.out) | exact HB.out)) hb); clear BK202; clear BK238; clear HB; have BK202 := n0_; have BK238 := n1_; have HB := n2_; clear n0_ n1_ n2_; (try clear hb); (try clear hb2); (try clear hk); (try clear hi); have hcz74_0 : w73.cell? ⟨gb238, 0, none⟩ = some (.int .i64 ((rd_T23 l1 0).f0)) := (blk_cell BK238.out 0).trans rfl; have hcz74_1 : w73.cell? ⟨gb238, 1, none⟩ = some (.int .i64 ((rd_T23 l1 0).f1)) := (blk_cell BK238.out 1).trans rfl; have hcz74_2 : w73.cell? ⟨gb238, 2, none⟩ = some (.string ((rd_T23 l1 0).f2)) := (blk_cell BK238.out 2).trans rfl; have hfz74_0 := blk_frozen BK238.out 0; have hfz74_1 := blk_frozen BK238.out 1; have hfz74_2 := blk_frozen BK238.out 2))
                                  repeat (go_quiet (first | (go_at_call 34; (with_reducible refine (spinetref12_Char.calls ((rd_T23 l1 0).f0) ((rd_T23 l1 0).f1) ((rd_T23 l1 0).f2) t247 t248 t249 _ A69.out).mono ?_); rintro e w73 ⟨rfl, hb⟩; have n0_ := Aside0.mk (blk_below (g := gb202) (o := .cells #[.int .i64 x203000_17, .int .i64 x203001_17, .string x203002_17] 23 (0, 0)) (by (with_reducible repeat (first | refine blk_drewN ?_ _ | refine blk_drew ?_ | refine blk_alloc ?_ _)); exact BK202.out) hb); have n1_ := Aside0.mk (blk_below (g := gb238) (o := .cells #[.int .i64 ((rd_T23 l1 0).f0), .int .i64 ((rd_T23 l1 0).f1), .string ((rd_T23 l1 0).f2)] 23 (0, 0)) (by (with_reducible repeat (first | refine blk_drewN ?_ _ | refine blk_drew ?_ | refine blk_alloc ?_ _)); exact BK238.out) hb); have n2_ := Aside0.mk (below_step (by repeat (first | (with_reducible first | exact HB.out | apply below_alloc | apply pw_below_drewN | apply below_drew1 | refine below_set ?_ GE202.out | refine below_set ?_ GE238.out) | exact HB.out)) hb); clear BK202; clear BK238; clear HB; have BK202 := n0_; have BK238 := n1_; have HB := n2_; clear n0_ n1_ n2_; (try clear hb); (try clear hb2); (try clear hk); (try clear hi); have hcz74_0 : w73.cell? ⟨gb238, 0, none⟩ = some (.int .i64 ((rd_T23 l1 0).f0)) := (blk_cell BK238.out 0).trans rfl; have hcz74_1 : w73.cell? ⟨gb238, 1, none⟩ = some (.int .i64 ((rd_T23 l1 0).f1)) := (blk_cell BK238.out 1).trans rfl; have hcz74_2 : w73.cell? ⟨gb238, 2, none⟩ = some (.string ((rd_T23 l1 0).f2)) := (blk_cell BK238.out 2).trans rfl; have hfz74_0 := blk_frozen BK238.out 0; have hfz74_1 := blk_frozen BK238.out 1; have hfz74_2 := blk_frozen BK238.out 2)); go_upto_region 24 with (first | (go_at_call 34; (with_reducible refine (spinetref12_Char.calls ((rd_T23 l1 0).f0) ((rd_T23 l1 0).f1) ((rd_T23 l1 0).f2) t247 t248 t249 _ A69.out).mono ?_); rintro e w73 ⟨rfl, hb⟩; have n0_ := Aside0.mk (blk_below (g := gb202) (o := .cells #[.int .i64 x203000_17, .int .i64 x203001_17, .string x203002_17] 23 (0, 0)) (by (with_reducible repeat (first | refine blk_drewN ?_ _ | refine blk_drew ?_ | refine blk_alloc ?_ _)); exact BK202.out) hb); have n1_ := Aside0.mk (blk_below (g := gb238) (o := .cells #[.int .i64 ((rd_T23 l1 0).f0), .int .i64 ((rd_T23 l1 0).f1), .string ((rd_T23 l1 0).f2)] 23 (0, 0)) (by (with_reducible repeat (first | refine blk_drewN ?_ _ | refine blk_drew ?_ | refine blk_alloc ?_ _)); exact BK238.out) hb); have n2_ := Aside0.mk (below_step (by repeat (first | (with_reducible first | exact HB.out | apply below_alloc | apply pw_below_drewN | apply below_drew1 | refine below_set ?_ GE202.out | refine below_set ?_ GE238.out) | exact HB.out)) hb); clear BK202; clear BK238; clear HB; have BK202 := n0_; have BK238 := n1_; have HB := n2_; clear n0_ n1_ n2_; (try clear hb); (try clear hb2); (try clear hk); (try clear hi); have hcz74_0 : w73.cell? ⟨gb238, 0, none⟩ = some (.int .i64 ((rd_T23 l1 0).f0)) := (blk_cell BK238.out 0).trans rfl; have hcz74_1 : w73.cell? ⟨gb238, 1, none⟩ = some (.int .i64 ((rd_T23 l1 0).f1)) := (blk_cell BK238.out 1).trans rfl; have hcz74_2 : w73.cell? ⟨gb238, 2, none⟩ = some (.string ((rd_T23 l1 0).f2)) := (blk_cell BK238.out 2).trans rfl; have hfz74_0 := blk_frozen BK238.out 0; have hfz74_1 := blk_frozen BK238.out 1; have hfz74_2 := blk_frozen BK238.out 2)))
                                  (try simp only [Act.put, List.setIfInBounds_toArray, List.set_cons_zero, List.set_cons_succ])
                                  go_cut [133] (fun v133 wc => ∃ (kq : Nat) (x133_69 : Bool), v133 = .bool x133_69 ∧ Aside0 (spinetref12_Call.j5 kq x133_69 t247 t248 t249 = some (r1, r2, r3, r4)) ∧ Aside0 (kq ≤ kj57) ∧ Aside0 (wc.heap[gb202]? = some (.cells #[.int .i64 x203000_17, .int .i64 x203001_17, .string x203002_17] 23 (0, 0))) ∧ Aside0 (wc.heap[gb238]? = some (.cells #[.int .i64 t247, .int .i64 t248, .string t249] 23 (0, 0))) ∧ Aside0 (Below w.heap.size w wc))
                                  case first =>
                                    have H := HC70.out
                                    clear HC70
                                    by_cases c75 : t247 = 3
                                    · rw [if_pos c75] at H
                                      have c75b0 : (t247 == 3) = true := beq_iff_eq.mpr c75
                                      have c75b1 : (t247 != 3) = false := bne_eq_false_iff_eq.mpr c75
                                      clear c75
                                      (first | rw [c75b0] | (simp only [i64_w, i32_w]; rw [c75b0]) | skip)
                                      have H' := Aside0.mk H
                                      clear H
                                      have hnb76 := NB238_202.out
                                      have hnc76 := NB202_238.out
                                      have hcz77_0 : w73.cell? ⟨gb238, 0, none⟩ = some (.int .i64 ((rd_T23 l1 0).f0)) := (blk_cell BK238.out 0).trans rfl
                                      have hcz77_1 : w73.cell? ⟨gb238, 1, none⟩ = some (.int .i64 ((rd_T23 l1 0).f1)) := (blk_cell BK238.out 1).trans rfl
                                      have hcz77_2 : w73.cell? ⟨gb238, 2, none⟩ = some (.string ((rd_T23 l1 0).f2)) := (blk_cell BK238.out 2).trans rfl
                                      have hfz77_0 := blk_frozen BK238.out 0
                                      have hfz77_1 := blk_frozen BK238.out 1
                                      have hfz77_2 := blk_frozen BK238.out 2
                                      go_wp2
                                      repeat (go_quiet (fail); try go_wp2)
                                      go_meet
                                      case rel => exact ⟨_, (true), (by first | rfl | (simp; done) | (simp [*]; done)), H', ⟨by have := HK1.out; have := HJ12.out; have := HJ17.out; have := HJ43.out; have := HJ57.out; first | omega | exact Nat.le_refl _⟩, ⟨by (with_reducible repeat (first | refine blk_drewN ?_ _ | refine blk_drew ?_ | refine blk_alloc ?_ _)); refine blk_far ?_ NB202_238.out _; (with_reducible repeat (first | refine blk_drewN ?_ _ | refine blk_drew ?_ | refine blk_alloc ?_ _)); refine blk_far ?_ NB202_238.out _; (with_reducible repeat (first | refine blk_drewN ?_ _ | refine blk_drew ?_ | refine blk_alloc ?_ _)); refine blk_far ?_ NB202_238.out _; (with_reducible repeat (first | refine blk_drewN ?_ _ | refine blk_drew ?_ | refine blk_alloc ?_ _)); exact BK202.out⟩, ⟨by (with_reducible repeat (first | refine blk_drewN ?_ _ | refine blk_drew ?_ | refine blk_alloc ?_ _)); refine blk_put (cs := #[.int .i64 t247, .int .i64 t248, .string ((rd_T23 l1 0).f2)]) ?_ 2 _ rfl; (with_reducible repeat (first | refine blk_drewN ?_ _ | refine blk_drew ?_ | refine blk_alloc ?_ _)); refine blk_put (cs := #[.int .i64 t247, .int .i64 ((rd_T23 l1 0).f1), .string ((rd_T23 l1 0).f2)]) ?_ 1 _ rfl; (with_reducible repeat (first | refine blk_drewN ?_ _ | refine blk_drew ?_ | refine blk_alloc ?_ _)); refine blk_put (cs := #[.int .i64 ((rd_T23 l1 0).f0), .int .i64 ((rd_T23 l1 0).f1), .string ((rd_T23 l1 0).f2)]) ?_ 0 _ rfl; (with_reducible repeat (first | refine blk_drewN ?_ _ | refine blk_drew ?_ | refine blk_alloc ?_ _)); exact BK238.out⟩, ⟨by repeat (first | (with_reducible first | exact HB.out | apply below_alloc | apply pw_below_drewN | apply below_drew1 | refine below_set ?_ GE202.out | refine below_set ?_ GE238.out) | exact HB.out)⟩⟩
                                    · rw [if_neg c75] at H
                                      have c75b0 : (t247 == 3) = false := beq_eq_false_iff_ne.mpr c75
                                      have c75b1 : (t247 != 3) = true := bne_iff_ne.mpr c75
                                      (first | rw [c75b0] | (simp only [i64_w, i32_w]; rw [c75b0]) | skip)
                                      have H' := Aside0.mk H
                                      clear H
                                      have hnb78 := NB238_202.out
                                      have hnc78 := NB202_238.out
                                      have hcz79_0 : w73.cell? ⟨gb238, 0, none⟩ = some (.int .i64 ((rd_T23 l1 0).f0)) := (blk_cell BK238.out 0).trans rfl
                                      have hcz79_1 : w73.cell? ⟨gb238, 1, none⟩ = some (.int .i64 ((rd_T23 l1 0).f1)) := (blk_cell BK238.out 1).trans rfl
                                      have hcz79_2 : w73.cell? ⟨gb238, 2, none⟩ = some (.string ((rd_T23 l1 0).f2)) := (blk_cell BK238.out 2).trans rfl
                                      have hfz79_0 := blk_frozen BK238.out 0
                                      have hfz79_1 := blk_frozen BK238.out 1
                                      have hfz79_2 := blk_frozen BK238.out 2
                                      go_wp2
                                      repeat (go_quiet (fail); try go_wp2)
                                      go_meet
                                      case rel => exact ⟨_, ((t247 == 2)), (by first | rfl | (simp; done) | (simp [*]; done)), H', ⟨by have := HK1.out; have := HJ12.out; have := HJ17.out; have := HJ43.out; have := HJ57.out; first | omega | exact Nat.le_refl _⟩, ⟨by (with_reducible repeat (first | refine blk_drewN ?_ _ | refine blk_drew ?_ | refine blk_alloc ?_ _)); refine blk_far ?_ NB202_238.out _; (with_reducible repeat (first | refine blk_drewN ?_ _ | refine blk_drew ?_ | refine blk_alloc ?_ _)); refine blk_far ?_ NB202_238.out _; (with_reducible repeat (first | refine blk_drewN ?_ _ | refine blk_drew ?_ | refine blk_alloc ?_ _)); refine blk_far ?_ NB202_238.out _; (with_reducible repeat (first | refine blk_drewN ?_ _ | refine blk_drew ?_ | refine blk_alloc ?_ _)); exact BK202.out⟩, ⟨by (with_reducible repeat (first | refine blk_drewN ?_ _ | refine blk_drew ?_ | refine blk_alloc ?_ _)); refine blk_put (cs := #[.int .i64 t247, .int .i64 t248, .string ((rd_T23 l1 0).f2)]) ?_ 2 _ rfl; (with_reducible repeat (first | refine blk_drewN ?_ _ | refine blk_drew ?_ | refine blk_alloc ?_ _)); refine blk_put (cs := #[.int .i64 t247, .int .i64 ((rd_T23 l1 0).f1), .string ((rd_T23 l1 0).f2)]) ?_ 1 _ rfl; (with_reducible repeat (first | refine blk_drewN ?_ _ | refine blk_drew ?_ | refine blk_alloc ?_ _)); refine blk_put (cs := #[.int .i64 ((rd_T23 l1 0).f0), .int .i64 ((rd_T23 l1 0).f1), .string ((rd_T23 l1 0).f2)]) ?_ 0 _ rfl; (with_reducible repeat (first | refine blk_drewN ?_ _ | refine blk_drew ?_ | refine blk_alloc ?_ _)); exact BK238.out⟩, ⟨by repeat (first | (with_reducible first | exact HB.out | apply below_alloc | apply pw_below_drewN | apply below_drew1 | refine below_set ?_ GE202.out | refine below_set ?_ GE238.out) | exact HB.out)⟩⟩
                                  case rest =>
                                    clear HC70
                                    try clear c1
                                    try clear c2
                                    try clear p2
                                    try clear q2
                                    try clear hx2
                                    try clear qi2
                                    try clear c3
                                    try clear c4
                                    try clear c4b0
                                    try clear c5
                                    try clear c5b0
                                    try clear c6
                                    try clear p6
                                    try clear c7
                                    try clear c14
                                    try clear c14b0
                                    try clear c14b1
                                    try clear c15
                                    try clear c15b0
                                    try clear c15b1
                                    try clear c16
                                    try clear c16b0
                                    try clear c16b1
                                    try clear c17
                                    try clear c17b0
                                    try clear c17b1
                                    try clear c19
                                    try clear c20
                                    try clear c20b0
                                    try clear c20b1
                                    try clear p20
                                    try clear q20
                                    try clear hx20
                                    try clear qi20
                                    try clear p21
                                    try clear q21
                                    try clear hx21
                                    try clear qi21
                                    try clear c22
                                    try clear c22b0
                                    try clear c22b1
                                    try clear p23
                                    try clear q23
                                    try clear hx23
                                    try clear qi23
                                    try clear c24
                                    try clear c24b0
                                    try clear c24b1
                                    try clear c30
                                    try clear c30b0
                                    try clear c30b1
                                    try clear c36
                                    try clear c36b0
                                    try clear c36b1
                                    try clear c42
                                    try clear c42b0
                                    try clear c42b1
                                    try clear c43
                                    try clear c43b0
                                    try clear c43b1
                                    try clear c46
                                    try clear c48
                                    try clear c48b0
                                    try clear c48b1
                                    try clear c49
                                    try clear c51
                                    try clear c54
                                    try clear c59
                                    try clear c59b0
                                    try clear c59b1
                                    try clear c60
                                    try clear c62
                                    try clear c64
                                    try clear p64
                                    try clear c68
                                    try clear c68b0
                                    try clear c68b1
                                    try clear c71
                                    try clear c75
                                    try clear c75b0
                                    try clear c75b1
                                    try clear c76
                                    try clear c78
                                    try clear hcz12_0
                                    try clear hcz12_1
                                    try clear hcz12_2
                                    try clear hcz29_0
                                    try clear hcz29_1
                                    try clear hcz29_2
                                    try clear hcz35_0
                                    try clear hcz35_1
                                    try clear hcz35_2
                                    try clear hcz41_0
                                    try clear hcz41_1
                                    try clear hcz41_2
                                    try clear hcz47_0
                                    try clear hcz47_1
                                    try clear hcz47_2
                                    try clear hcz50_0
                                    try clear hcz50_1
                                    try clear hcz50_2
                                    try clear hcz55_0
                                    try clear hcz55_1
                                    try clear hcz55_2
                                    try clear hcz57_0
                                    try clear hcz57_1
                                    try clear hcz57_2
                                    try clear hcz61_0
                                    try clear hcz61_1
                                    try clear hcz61_2
                                    try clear hcz65_0
                                    try clear hcz65_1
                                    try clear hcz65_2
                                    try clear hcz67_0
                                    try clear hcz67_1
                                    try clear hcz67_2
                                    try clear hcz72_0
                                    try clear hcz72_1
                                    try clear hcz72_2
                                    try clear hcz74_0
                                    try clear hcz74_1
                                    try clear hcz74_2
                                    try clear hcz77_0
                                    try clear hcz77_1
                                    try clear hcz77_2
                                    try clear hcz79_0
                                    try clear hcz79_1
                                    try clear hcz79_2
                                    try clear hfz12_0
                                    try clear hfz12_1
                                    try clear hfz12_2
                                    try clear hfz29_0
                                    try clear hfz29_1
                                    try clear hfz29_2
                                    try clear hfz35_0
                                    try clear hfz35_1
                                    try clear hfz35_2
                                    try clear hfz41_0
                                    try clear hfz41_1
                                    try clear hfz41_2
                                    try clear hfz47_0
                                    try clear hfz47_1
                                    try clear hfz47_2
                                    try clear hfz50_0
                                    try clear hfz50_1
                                    try clear hfz50_2
                                    try clear hfz55_0
                                    try clear hfz55_1
                                    try clear hfz55_2
                                    try clear hfz57_0
                                    try clear hfz57_1
                                    try clear hfz57_2
                                    try clear hfz61_0
                                    try clear hfz61_1
                                    try clear hfz61_2
                                    try clear hfz65_0
                                    try clear hfz65_1
                                    try clear hfz65_2
                                    try clear hfz67_0
                                    try clear hfz67_1
                                    try clear hfz67_2
                                    try clear hfz72_0
                                    try clear hfz72_1
                                    try clear hfz72_2
                                    try clear hfz74_0
                                    try clear hfz74_1
                                    try clear hfz74_2
                                    try clear hfz77_0
                                    try clear hfz77_1
                                    try clear hfz77_2
                                    try clear hfz79_0
                                    try clear hfz79_1
                                    try clear hfz79_2
                                    try clear hx203_0
                                    try clear hx203_1
                                    try clear hx203_2
                                    try clear hx209_0
                                    try clear hx209_1
                                    try clear hx209_2
                                    try clear hx210_0
                                    try clear hx210_1
                                    try clear hx210_2
                                    try clear hx211_0
                                    try clear hx211_1
                                    try clear hx211_2
                                    try clear hx213_0
                                    try clear hx213_1
                                    try clear hx213_2
                                    try clear hx237_0
                                    try clear hx237_1
                                    try clear hx237_2
                                    try clear p2
                                    try clear p20
                                    try clear p203
                                    try clear p209
                                    try clear p21
                                    try clear p210
                                    try clear p211
                                    try clear p213
                                    try clear p23
                                    try clear p237
                                    try clear p6
                                    try clear q2
                                    try clear q20
                                    try clear q203
                                    try clear q209
                                    try clear q21
                                    try clear q210
                                    try clear q211
                                    try clear q213
                                    try clear q23
                                    try clear q237
                                    obtain ⟨kq, x133_69, rfl, HA, HJ69, BK202, BK238, HB⟩ := hcut
                                    cases kq with
                                    | zero => exact absurd HA.out (by simp [spinetref12_Call.j5])
                                    | succ kj69 =>
                                      have H := HA.out
                                      clear HA
                                      simp only [spinetref12_Call.j5] at H
                                      by_cases c80 : x133_69 = true
                                      · subst c80
                                        have H1 : ((spinetref12_integer.f kj69 t248).bind fun bt250 => (some (bt250.1, bt250.2.1, bt250.2.2.1, bt250.2.2.2))) = some (r1, r2, r3, r4) := by rw [if_pos rfl] at H; exact H
                                        clear H
                                        have H := H1
                                        clear H1
                                        replace H := Option.bind_eq_some_iff.mp H
                                        obtain ⟨⟨t250, t251, t252, t253⟩, A810, H⟩ := H
                                        replace H : (some (t250, t251, t252, t253)) = some (r1, r2, r3, r4) := H
                                        have A81 := Aside0.mk A810
                                        clear A810
                                        simp only [Option.some.injEq, Prod.mk.injEq] at H
                                        obtain ⟨rfl, rfl, rfl, rfl⟩ := H
                                        have hnb82 := NB238_202.out
                                        have hnc82 := NB202_238.out
                                        have hcz83_0 : wc.cell? ⟨gb238, 0, none⟩ = some (.int .i64 t247) := (blk_cell BK238.out 0).trans rfl
                                        have hcz83_1 : wc.cell? ⟨gb238, 1, none⟩ = some (.int .i64 t248) := (blk_cell BK238.out 1).trans rfl
                                        have hcz83_2 : wc.cell? ⟨gb238, 2, none⟩ = some (.string t249) := (blk_cell BK238.out 2).trans rfl
                                        have hfz83_0 := blk_frozen BK238.out 0
                                        have hfz83_1 := blk_frozen BK238.out 1
                                        have hfz83_2 := blk_frozen BK238.out 2
                                        go_wp2_with (first | (go_at_call 45; (with_reducible refine (spinetref12_integer.calls kj69 t248 t250 t251 t252 t253 _ A81.out).mono ?_); rintro e w84 ⟨rfl, hb⟩; have n0_ := Aside0.mk (blk_below (g := gb202) (o := .cells #[.int .i64 x203000_17, .int .i64 x203001_17, .string x203002_17] 23 (0, 0)) (by (with_reducible repeat (first | refine blk_drewN ?_ _ | refine blk_drew ?_ | refine blk_alloc ?_ _)); exact BK202.out) hb); have n1_ := Aside0.mk (blk_below (g := gb238) (o := .cells #[.int .i64 t247, .int .i64 t248, .string t249] 23 (0, 0)) (by (with_reducible repeat (first | refine blk_drewN ?_ _ | refine blk_drew ?_ | refine blk_alloc ?_ _)); exact BK238.out) hb); have n2_ := Aside0.mk (below_step (by repeat (first | (with_reducible first | exact HB.out | apply below_alloc | apply pw_below_drewN | apply below_drew1 | refine below_set ?_ GE202.out | refine below_set ?_ GE238.out) | exact HB.out)) hb); clear BK202; clear BK238; clear HB; have BK202 := n0_; have BK238 := n1_; have HB := n2_; clear n0_ n1_ n2_; (try clear hb); (try clear hb2); (try clear hk); (try clear hi); have hcz85_0 : w84.cell? ⟨gb202, 0, none⟩ = some (.int .i64 x203000_17) := (blk_cell BK202.out 0).trans rfl; have hcz85_1 : w84.cell? ⟨gb202, 1, none⟩ = some (.int .i64 x203001_17) := (blk_cell BK202.out 1).trans rfl; have hcz85_2 : w84.cell? ⟨gb202, 2, none⟩ = some (.string x203002_17) := (blk_cell BK202.out 2).trans rfl; have hfz85_0 := blk_frozen BK202.out 0; have hfz85_1 := blk_frozen BK202.out 1; have hfz85_2 := blk_frozen BK202.out 2))
                                        repeat (go_quiet (first | (go_at_call 45; (with_reducible refine (spinetref12_integer.calls kj69 t248 t250 t251 t252 t253 _ A81.out).mono ?_); rintro e w84 ⟨rfl, hb⟩; have n0_ := Aside0.mk (blk_below (g := gb202) (o := .cells #[.int .i64 x203000_17, .int .i64 x203001_17, .string x203002_17] 23 (0, 0)) (by (with_reducible repeat (first | refine blk_drewN ?_ _ | refine blk_drew ?_ | refine blk_alloc ?_ _)); exact BK202.out) hb); have n1_ := Aside0.mk (blk_below (g := gb238) (o := .cells #[.int .i64 t247, .int .i64 t248, .string t249] 23 (0, 0)) (by (with_reducible repeat (first | refine blk_drewN ?_ _ | refine blk_drew ?_ | refine blk_alloc ?_ _)); exact BK238.out) hb); have n2_ := Aside0.mk (below_step (by repeat (first | (with_reducible first | exact HB.out | apply below_alloc | apply pw_below_drewN | apply below_drew1 | refine below_set ?_ GE202.out | refine below_set ?_ GE238.out) | exact HB.out)) hb); clear BK202; clear BK238; clear HB; have BK202 := n0_; have BK238 := n1_; have HB := n2_; clear n0_ n1_ n2_; (try clear hb); (try clear hb2); (try clear hk); (try clear hi); have hcz85_0 : w84.cell? ⟨gb202, 0, none⟩ = some (.int .i64 x203000_17) := (blk_cell BK202.out 0).trans rfl; have hcz85_1 : w84.cell? ⟨gb202, 1, none⟩ = some (.int .i64 x203001_17) := (blk_cell BK202.out 1).trans rfl; have hcz85_2 : w84.cell? ⟨gb202, 2, none⟩ = some (.string x203002_17) := (blk_cell BK202.out 2).trans rfl; have hfz85_0 := blk_frozen BK202.out 0; have hfz85_1 := blk_frozen BK202.out 1; have hfz85_2 := blk_frozen BK202.out 2)); try go_wp2_with (first | (go_at_call 45; (with_reducible refine (spinetref12_integer.calls kj69 t248 t250 t251 t252 t253 _ A81.out).mono ?_); rintro e w84 ⟨rfl, hb⟩; have n0_ := Aside0.mk (blk_below (g := gb202) (o := .cells #[.int .i64 x203000_17, .int .i64 x203001_17, .string x203002_17] 23 (0, 0)) (by (with_reducible repeat (first | refine blk_drewN ?_ _ | refine blk_drew ?_ | refine blk_alloc ?_ _)); exact BK202.out) hb); have n1_ := Aside0.mk (blk_below (g := gb238) (o := .cells #[.int .i64 t247, .int .i64 t248, .string t249] 23 (0, 0)) (by (with_reducible repeat (first | refine blk_drewN ?_ _ | refine blk_drew ?_ | refine blk_alloc ?_ _)); exact BK238.out) hb); have n2_ := Aside0.mk (below_step (by repeat (first | (with_reducible first | exact HB.out | apply below_alloc | apply pw_below_drewN | apply below_drew1 | refine below_set ?_ GE202.out | refine below_set ?_ GE238.out) | exact HB.out)) hb); clear BK202; clear BK238; clear HB; have BK202 := n0_; have BK238 := n1_; have HB := n2_; clear n0_ n1_ n2_; (try clear hb); (try clear hb2); (try clear hk); (try clear hi); have hcz85_0 : w84.cell? ⟨gb202, 0, none⟩ = some (.int .i64 x203000_17) := (blk_cell BK202.out 0).trans rfl; have hcz85_1 : w84.cell? ⟨gb202, 1, none⟩ = some (.int .i64 x203001_17) := (blk_cell BK202.out 1).trans rfl; have hcz85_2 : w84.cell? ⟨gb202, 2, none⟩ = some (.string x203002_17) := (blk_cell BK202.out 2).trans rfl; have hfz85_0 := blk_frozen BK202.out 0; have hfz85_1 := blk_frozen BK202.out 1; have hfz85_2 := blk_frozen BK202.out 2)))
                                        refine bodyPost_ret (results_ct rfl _ _ gb202 23 #[.int .i64 t250, .int .i64 t251, .string t252] (0, 0) _ rfl (by (with_reducible repeat (first | refine blk_drewN ?_ _ | refine blk_drew ?_ | refine blk_alloc ?_ _)); refine blk_put (cs := #[.int .i64 t250, .int .i64 t251, .string x203002_17]) ?_ 2 _ rfl; (with_reducible repeat (first | refine blk_drewN ?_ _ | refine blk_drew ?_ | refine blk_alloc ?_ _)); refine blk_put (cs := #[.int .i64 t250, .int .i64 x203001_17, .string x203002_17]) ?_ 1 _ rfl; (with_reducible repeat (first | refine blk_drewN ?_ _ | refine blk_drew ?_ | refine blk_alloc ?_ _)); refine blk_put (cs := #[.int .i64 x203000_17, .int .i64 x203001_17, .string x203002_17]) ?_ 0 _ rfl; (with_reducible repeat (first | refine blk_drewN ?_ _ | refine blk_drew ?_ | refine blk_alloc ?_ _)); exact BK202.out) Try.underlying23 rfl (by kernel_rfl)) rfl ?_
                                        exact ⟨by first | rfl | (simp [errW_none, errW_some] <;> rfl) | (simp [*, errW_none, errW_some] <;> rfl), by repeat (first | (with_reducible first | exact HB.out | apply below_alloc | apply pw_below_drewN | apply below_drew1 | refine below_set ?_ GE202.out | refine below_set ?_ GE238.out) | exact HB.out)⟩
                                      · replace c80 := Bool.eq_false_iff.mpr c80
                                        subst c80
                                        have H1 : (if t247 = 4 then ((spinetref01_Signed.f ((t248) % 4294967296)).bind fun t254 => ((spinetref12_integer.f kj69 t254).bind fun bt255 => (some (bt255.1, bt255.2.1, bt255.2.2.1, bt255.2.2.2)))) else ((spinetref12_none.f).bind fun bt259 => (some (bt259.1, bt259.2.1, bt259.2.2.1, bt259.2.2.2)))) = some (r1, r2, r3, r4) := by rw [if_neg (show ¬ (false = true) by decide)] at H; exact H
                                        clear H
                                        have H := H1
                                        clear H1
                                        by_cases c86 : t247 = 4
                                        · rw [if_pos c86] at H
                                          have c86b0 : (t247 == 4) = true := beq_iff_eq.mpr c86
                                          have c86b1 : (t247 != 4) = false := bne_eq_false_iff_eq.mpr c86
                                          clear c86
                                          replace H := Option.bind_eq_some_iff.mp H
                                          obtain ⟨t254, A870, H⟩ := H
                                          replace H : ((spinetref12_integer.f kj69 t254).bind fun bt255 => (some (bt255.1, bt255.2.1, bt255.2.2.1, bt255.2.2.2))) = some (r1, r2, r3, r4) := H
                                          have A87 := Aside0.mk A870
                                          clear A870
                                          replace H := Option.bind_eq_some_iff.mp H
                                          obtain ⟨⟨t255, t256, t257, t258⟩, A880, H⟩ := H
                                          replace H : (some (t255, t256, t257, t258)) = some (r1, r2, r3, r4) := H
                                          have A88 := Aside0.mk A880
                                          clear A880
                                          simp only [Option.some.injEq, Prod.mk.injEq] at H
                                          obtain ⟨rfl, rfl, rfl, rfl⟩ := H
                                          have hnb89 := NB238_202.out
                                          have hnc89 := NB202_238.out
                                          have hcz90_0 : wc.cell? ⟨gb238, 0, none⟩ = some (.int .i64 t247) := (blk_cell BK238.out 0).trans rfl
                                          have hcz90_1 : wc.cell? ⟨gb238, 1, none⟩ = some (.int .i64 t248) := (blk_cell BK238.out 1).trans rfl
                                          have hcz90_2 : wc.cell? ⟨gb238, 2, none⟩ = some (.string t249) := (blk_cell BK238.out 2).trans rfl
                                          have hfz90_0 := blk_frozen BK238.out 0
                                          have hfz90_1 := blk_frozen BK238.out 1
                                          have hfz90_2 := blk_frozen BK238.out 2
                                          go_wp2_with (first | (go_at_call 53; (with_reducible refine (spinetref01_Signed.calls ((t248) % 4294967296) t254 _ A87.out).mono ?_); rintro e w' ⟨rfl, ⟨nd, rfl⟩⟩; (try first | exact ⟨rfl, _, World.drewN_drewN _ _ _⟩ | exact ⟨rfl, _, Eq.trans (World.drewN_drewN _ _ _) (congrArg (World.drewN _) (Nat.add_assoc _ _ _))⟩)) | (go_at_call 45; (with_reducible refine (spinetref12_integer.calls kj69 t254 t255 t256 t257 t258 _ A88.out).mono ?_); rintro e w91 ⟨rfl, hb⟩; have n0_ := Aside0.mk (blk_below (g := gb202) (o := .cells #[.int .i64 x203000_17, .int .i64 x203001_17, .string x203002_17] 23 (0, 0)) (by (with_reducible repeat (first | refine blk_drewN ?_ _ | refine blk_drew ?_ | refine blk_alloc ?_ _)); exact BK202.out) hb); have n1_ := Aside0.mk (blk_below (g := gb238) (o := .cells #[.int .i64 t247, .int .i64 t248, .string t249] 23 (0, 0)) (by (with_reducible repeat (first | refine blk_drewN ?_ _ | refine blk_drew ?_ | refine blk_alloc ?_ _)); exact BK238.out) hb); have n2_ := Aside0.mk (below_step (by repeat (first | (with_reducible first | exact HB.out | apply below_alloc | apply pw_below_drewN | apply below_drew1 | refine below_set ?_ GE202.out | refine below_set ?_ GE238.out) | exact HB.out)) hb); clear BK202; clear BK238; clear HB; have BK202 := n0_; have BK238 := n1_; have HB := n2_; clear n0_ n1_ n2_; (try clear hb); (try clear hb2); (try clear hk); (try clear hi); have hcz92_0 : w91.cell? ⟨gb202, 0, none⟩ = some (.int .i64 x203000_17) := (blk_cell BK202.out 0).trans rfl; have hcz92_1 : w91.cell? ⟨gb202, 1, none⟩ = some (.int .i64 x203001_17) := (blk_cell BK202.out 1).trans rfl; have hcz92_2 : w91.cell? ⟨gb202, 2, none⟩ = some (.string x203002_17) := (blk_cell BK202.out 2).trans rfl; have hfz92_0 := blk_frozen BK202.out 0; have hfz92_1 := blk_frozen BK202.out 1; have hfz92_2 := blk_frozen BK202.out 2))
                                          repeat (go_quiet (first | (go_at_call 53; (with_reducible refine (spinetref01_Signed.calls ((t248) % 4294967296) t254 _ A87.out).mono ?_); rintro e w' ⟨rfl, ⟨nd, rfl⟩⟩; (try first | exact ⟨rfl, _, World.drewN_drewN _ _ _⟩ | exact ⟨rfl, _, Eq.trans (World.drewN_drewN _ _ _) (congrArg (World.drewN _) (Nat.add_assoc _ _ _))⟩)) | (go_at_call 45; (with_reducible refine (spinetref12_integer.calls kj69 t254 t255 t256 t257 t258 _ A88.out).mono ?_); rintro e w91 ⟨rfl, hb⟩; have n0_ := Aside0.mk (blk_below (g := gb202) (o := .cells #[.int .i64 x203000_17, .int .i64 x203001_17, .string x203002_17] 23 (0, 0)) (by (with_reducible repeat (first | refine blk_drewN ?_ _ | refine blk_drew ?_ | refine blk_alloc ?_ _)); exact BK202.out) hb); have n1_ := Aside0.mk (blk_below (g := gb238) (o := .cells #[.int .i64 t247, .int .i64 t248, .string t249] 23 (0, 0)) (by (with_reducible repeat (first | refine blk_drewN ?_ _ | refine blk_drew ?_ | refine blk_alloc ?_ _)); exact BK238.out) hb); have n2_ := Aside0.mk (below_step (by repeat (first | (with_reducible first | exact HB.out | apply below_alloc | apply pw_below_drewN | apply below_drew1 | refine below_set ?_ GE202.out | refine below_set ?_ GE238.out) | exact HB.out)) hb); clear BK202; clear BK238; clear HB; have BK202 := n0_; have BK238 := n1_; have HB := n2_; clear n0_ n1_ n2_; (try clear hb); (try clear hb2); (try clear hk); (try clear hi); have hcz92_0 : w91.cell? ⟨gb202, 0, none⟩ = some (.int .i64 x203000_17) := (blk_cell BK202.out 0).trans rfl; have hcz92_1 : w91.cell? ⟨gb202, 1, none⟩ = some (.int .i64 x203001_17) := (blk_cell BK202.out 1).trans rfl; have hcz92_2 : w91.cell? ⟨gb202, 2, none⟩ = some (.string x203002_17) := (blk_cell BK202.out 2).trans rfl; have hfz92_0 := blk_frozen BK202.out 0; have hfz92_1 := blk_frozen BK202.out 1; have hfz92_2 := blk_frozen BK202.out 2)); try go_wp2_with (first | (go_at_call 53; (with_reducible refine (spinetref01_Signed.calls ((t248) % 4294967296) t254 _ A87.out).mono ?_); rintro e w' ⟨rfl, ⟨nd, rfl⟩⟩; (try first | exact ⟨rfl, _, World.drewN_drewN _ _ _⟩ | exact ⟨rfl, _, Eq.trans (World.drewN_drewN _ _ _) (congrArg (World.drewN _) (Nat.add_assoc _ _ _))⟩)) | (go_at_call 45; (with_reducible refine (spinetref12_integer.calls kj69 t254 t255 t256 t257 t258 _ A88.out).mono ?_); rintro e w91 ⟨rfl, hb⟩; have n0_ := Aside0.mk (blk_below (g := gb202) (o := .cells #[.int .i64 x203000_17, .int .i64 x203001_17, .string x203002_17] 23 (0, 0)) (by (with_reducible repeat (first | refine blk_drewN ?_ _ | refine blk_drew ?_ | refine blk_alloc ?_ _)); exact BK202.out) hb); have n1_ := Aside0.mk (blk_below (g := gb238) (o := .cells #[.int .i64 t247, .int .i64 t248, .string t249] 23 (0, 0)) (by (with_reducible repeat (first | refine blk_drewN ?_ _ | refine blk_drew ?_ | refine blk_alloc ?_ _)); exact BK238.out) hb); have n2_ := Aside0.mk (below_step (by repeat (first | (with_reducible first | exact HB.out | apply below_alloc | apply pw_below_drewN | apply below_drew1 | refine below_set ?_ GE202.out | refine below_set ?_ GE238.out) | exact HB.out)) hb); clear BK202; clear BK238; clear HB; have BK202 := n0_; have BK238 := n1_; have HB := n2_; clear n0_ n1_ n2_; (try clear hb); (try clear hb2); (try clear hk); (try clear hi); have hcz92_0 : w91.cell? ⟨gb202, 0, none⟩ = some (.int .i64 x203000_17) := (blk_cell BK202.out 0).trans rfl; have hcz92_1 : w91.cell? ⟨gb202, 1, none⟩ = some (.int .i64 x203001_17) := (blk_cell BK202.out 1).trans rfl; have hcz92_2 : w91.cell? ⟨gb202, 2, none⟩ = some (.string x203002_17) := (blk_cell BK202.out 2).trans rfl; have hfz92_0 := blk_frozen BK202.out 0; have hfz92_1 := blk_frozen BK202.out 1; have hfz92_2 := blk_frozen BK202.out 2)))
                                          refine bodyPost_ret (results_ct rfl _ _ gb202 23 #[.int .i64 t255, .int .i64 t256, .string t257] (0, 0) _ rfl (by (with_reducible repeat (first | refine blk_drewN ?_ _ | refine blk_drew ?_ | refine blk_alloc ?_ _)); refine blk_put (cs := #[.int .i64 t255, .int .i64 t256, .string x203002_17]) ?_ 2 _ rfl; (with_reducible repeat (first | refine blk_drewN ?_ _ | refine blk_drew ?_ | refine blk_alloc ?_ _)); refine blk_put (cs := #[.int .i64 t255, .int .i64 x203001_17, .string x203002_17]) ?_ 1 _ rfl; (with_reducible repeat (first | refine blk_drewN ?_ _ | refine blk_drew ?_ | refine blk_alloc ?_ _)); refine blk_put (cs := #[.int .i64 x203000_17, .int .i64 x203001_17, .string x203002_17]) ?_ 0 _ rfl; (with_reducible repeat (first | refine blk_drewN ?_ _ | refine blk_drew ?_ | refine blk_alloc ?_ _)); exact BK202.out) Try.underlying23 rfl (by kernel_rfl)) rfl ?_
                                          exact ⟨by first | rfl | (simp [errW_none, errW_some] <;> rfl) | (simp [*, errW_none, errW_some] <;> rfl), by repeat (first | (with_reducible first | exact HB.out | apply below_alloc | apply pw_below_drewN | apply below_drew1 | refine below_set ?_ GE202.out | refine below_set ?_ GE238.out) | exact HB.out)⟩
                                        · rw [if_neg c86] at H
                                          have c86b0 : (t247 == 4) = false := beq_eq_false_iff_ne.mpr c86
                                          have c86b1 : (t247 != 4) = true := bne_iff_ne.mpr c86
                                          replace H := Option.bind_eq_some_iff.mp H
                                          obtain ⟨⟨t259, t260, t261, t262⟩, A930, H⟩ := H
                                          replace H : (some (t259, t260, t261, t262)) = some (r1, r2, r3, r4) := H
                                          have A93 := Aside0.mk A930
                                          clear A930
                                          simp only [Option.some.injEq, Prod.mk.injEq] at H
                                          obtain ⟨rfl, rfl, rfl, rfl⟩ := H
                                          have hnb94 := NB238_202.out
                                          have hnc94 := NB202_238.out
                                          have hcz95_0 : wc.cell? ⟨gb238, 0, none⟩ = some (.int .i64 t247) := (blk_cell BK238.out 0).trans rfl
                                          have hcz95_1 : wc.cell? ⟨gb238, 1, none⟩ = some (.int .i64 t248) := (blk_cell BK238.out 1).trans rfl
                                          have hcz95_2 : wc.cell? ⟨gb238, 2, none⟩ = some (.string t249) := (blk_cell BK238.out 2).trans rfl
                                          have hfz95_0 := blk_frozen BK238.out 0
                                          have hfz95_1 := blk_frozen BK238.out 1
                                          have hfz95_2 := blk_frozen BK238.out 2
                                          go_wp2_with (first | (go_at_call 33; (with_reducible refine (spinetref12_none.calls  t259 t260 t261 t262 _ A93.out).mono ?_); rintro e w96 ⟨rfl, hb⟩; have n0_ := Aside0.mk (blk_below (g := gb202) (o := .cells #[.int .i64 x203000_17, .int .i64 x203001_17, .string x203002_17] 23 (0, 0)) (by (with_reducible repeat (first | refine blk_drewN ?_ _ | refine blk_drew ?_ | refine blk_alloc ?_ _)); exact BK202.out) hb); have n1_ := Aside0.mk (blk_below (g := gb238) (o := .cells #[.int .i64 t247, .int .i64 t248, .string t249] 23 (0, 0)) (by (with_reducible repeat (first | refine blk_drewN ?_ _ | refine blk_drew ?_ | refine blk_alloc ?_ _)); exact BK238.out) hb); have n2_ := Aside0.mk (below_step (by repeat (first | (with_reducible first | exact HB.out | apply below_alloc | apply pw_below_drewN | apply below_drew1 | refine below_set ?_ GE202.out | refine below_set ?_ GE238.out) | exact HB.out)) hb); clear BK202; clear BK238; clear HB; have BK202 := n0_; have BK238 := n1_; have HB := n2_; clear n0_ n1_ n2_; (try clear hb); (try clear hb2); (try clear hk); (try clear hi); have hcz97_0 : w96.cell? ⟨gb202, 0, none⟩ = some (.int .i64 x203000_17) := (blk_cell BK202.out 0).trans rfl; have hcz97_1 : w96.cell? ⟨gb202, 1, none⟩ = some (.int .i64 x203001_17) := (blk_cell BK202.out 1).trans rfl; have hcz97_2 : w96.cell? ⟨gb202, 2, none⟩ = some (.string x203002_17) := (blk_cell BK202.out 2).trans rfl; have hfz97_0 := blk_frozen BK202.out 0; have hfz97_1 := blk_frozen BK202.out 1; have hfz97_2 := blk_frozen BK202.out 2))
                                          repeat (go_quiet (first | (go_at_call 33; (with_reducible refine (spinetref12_none.calls  t259 t260 t261 t262 _ A93.out).mono ?_); rintro e w96 ⟨rfl, hb⟩; have n0_ := Aside0.mk (blk_below (g := gb202) (o := .cells #[.int .i64 x203000_17, .int .i64 x203001_17, .string x203002_17] 23 (0, 0)) (by (with_reducible repeat (first | refine blk_drewN ?_ _ | refine blk_drew ?_ | refine blk_alloc ?_ _)); exact BK202.out) hb); have n1_ := Aside0.mk (blk_below (g := gb238) (o := .cells #[.int .i64 t247, .int .i64 t248, .string t249] 23 (0, 0)) (by (with_reducible repeat (first | refine blk_drewN ?_ _ | refine blk_drew ?_ | refine blk_alloc ?_ _)); exact BK238.out) hb); have n2_ := Aside0.mk (below_step (by repeat (first | (with_reducible first | exact HB.out | apply below_alloc | apply pw_below_drewN | apply below_drew1 | refine below_set ?_ GE202.out | refine below_set ?_ GE238.out) | exact HB.out)) hb); clear BK202; clear BK238; clear HB; have BK202 := n0_; have BK238 := n1_; have HB := n2_; clear n0_ n1_ n2_; (try clear hb); (try clear hb2); (try clear hk); (try clear hi); have hcz97_0 : w96.cell? ⟨gb202, 0, none⟩ = some (.int .i64 x203000_17) := (blk_cell BK202.out 0).trans rfl; have hcz97_1 : w96.cell? ⟨gb202, 1, none⟩ = some (.int .i64 x203001_17) := (blk_cell BK202.out 1).trans rfl; have hcz97_2 : w96.cell? ⟨gb202, 2, none⟩ = some (.string x203002_17) := (blk_cell BK202.out 2).trans rfl; have hfz97_0 := blk_frozen BK202.out 0; have hfz97_1 := blk_frozen BK202.out 1; have hfz97_2 := blk_frozen BK202.out 2)); try go_wp2_with (first | (go_at_call 33; (with_reducible refine (spinetref12_none.calls  t259 t260 t261 t262 _ A93.out).mono ?_); rintro e w96 ⟨rfl, hb⟩; have n0_ := Aside0.mk (blk_below (g := gb202) (o := .cells #[.int .i64 x203000_17, .int .i64 x203001_17, .string x203002_17] 23 (0, 0)) (by (with_reducible repeat (first | refine blk_drewN ?_ _ | refine blk_drew ?_ | refine blk_alloc ?_ _)); exact BK202.out) hb); have n1_ := Aside0.mk (blk_below (g := gb238) (o := .cells #[.int .i64 t247, .int .i64 t248, .string t249] 23 (0, 0)) (by (with_reducible repeat (first | refine blk_drewN ?_ _ | refine blk_drew ?_ | refine blk_alloc ?_ _)); exact BK238.out) hb); have n2_ := Aside0.mk (below_step (by repeat (first | (with_reducible first | exact HB.out | apply below_alloc | apply pw_below_drewN | apply below_drew1 | refine below_set ?_ GE202.out | refine below_set ?_ GE238.out) | exact HB.out)) hb); clear BK202; clear BK238; clear HB; have BK202 := n0_; have BK238 := n1_; have HB := n2_; clear n0_ n1_ n2_; (try clear hb); (try clear hb2); (try clear hk); (try clear hi); have hcz97_0 : w96.cell? ⟨gb202, 0, none⟩ = some (.int .i64 x203000_17) := (blk_cell BK202.out 0).trans rfl; have hcz97_1 : w96.cell? ⟨gb202, 1, none⟩ = some (.int .i64 x203001_17) := (blk_cell BK202.out 1).trans rfl; have hcz97_2 : w96.cell? ⟨gb202, 2, none⟩ = some (.string x203002_17) := (blk_cell BK202.out 2).trans rfl; have hfz97_0 := blk_frozen BK202.out 0; have hfz97_1 := blk_frozen BK202.out 1; have hfz97_2 := blk_frozen BK202.out 2)))
                                          refine bodyPost_ret (results_ct rfl _ _ gb202 23 #[.int .i64 t259, .int .i64 t260, .string t261] (0, 0) _ rfl (by (with_reducible repeat (first | refine blk_drewN ?_ _ | refine blk_drew ?_ | refine blk_alloc ?_ _)); refine blk_put (cs := #[.int .i64 t259, .int .i64 t260, .string x203002_17]) ?_ 2 _ rfl; (with_reducible repeat (first | refine blk_drewN ?_ _ | refine blk_drew ?_ | refine blk_alloc ?_ _)); refine blk_put (cs := #[.int .i64 t259, .int .i64 x203001_17, .string x203002_17]) ?_ 1 _ rfl; (with_reducible repeat (first | refine blk_drewN ?_ _ | refine blk_drew ?_ | refine blk_alloc ?_ _)); refine blk_put (cs := #[.int .i64 x203000_17, .int .i64 x203001_17, .string x203002_17]) ?_ 0 _ rfl; (with_reducible repeat (first | refine blk_drewN ?_ _ | refine blk_drew ?_ | refine blk_alloc ?_ _)); exact BK202.out) Try.underlying23 rfl (by kernel_rfl)) rfl ?_
                                          exact ⟨by first | rfl | (simp [errW_none, errW_some] <;> rfl) | (simp [*, errW_none, errW_some] <;> rfl), by repeat (first | (with_reducible first | exact HB.out | apply below_alloc | apply pw_below_drewN | apply below_drew1 | refine below_set ?_ GE202.out | refine below_set ?_ GE238.out) | exact HB.out)⟩
                                · rw [if_neg c68] at H
                                  have c68b0 : (a0.toList == ([79, 82, 68] : List UInt8)) = false := beq_eq_false_iff_ne.mpr c68
                                  have c68b1 : (a0.toList != ([79, 82, 68] : List UInt8)) = true := bne_iff_ne.mpr c68
                                  have HC98 := Aside0.mk H
                                  clear H
                                  go_upto_region 28 with (fail)
                                  repeat (go_quiet (fail); go_upto_region 28 with (fail))
                                  go_cut [149] (fun v149 wc => ∃ (kq : Nat) (x149_97 : Bool), v149 = .bool x149_97 ∧ Aside0 (spinetref12_Call.j6 kq x149_97 ((rd_T23 l1 0).f0) ((rd_T23 l1 0).f1) ((rd_T23 l1 0).f2) = some (r1, r2, r3, r4)) ∧ Aside0 (kq ≤ kj57) ∧ Aside0 (wc.heap[gb202]? = some (.cells #[.int .i64 x203000_17, .int .i64 x203001_17, .string x203002_17] 23 (0, 0))) ∧ Aside0 (wc.heap[gb238]? = some (.cells #[.int .i64 ((rd_T23 l1 0).f0), .int .i64 ((rd_T23 l1 0).f1), .string ((rd_T23 l1 0).f2)] 23 (0, 0))) ∧ Aside0 (Below w.heap.size w wc))
                                  case first =>
                                    have H := HC98.out
                                    clear HC98
                                    by_cases c99 : a0.toList = ([67, 72, 82] : List UInt8)
                                    · rw [if_pos c99] at H
                                      have c99b0 : (a0.toList == ([67, 72, 82] : List UInt8)) = true := beq_iff_eq.mpr c99
                                      have c99b1 : (a0.toList != ([67, 72, 82] : List UInt8)) = false := bne_eq_false_iff_eq.mpr c99
                                      clear c99
                                      (first | rw [c99b0] | (simp only [i64_w, i32_w]; rw [c99b0]) | skip)
                                      have H' := Aside0.mk H
                                      clear H
                                      have hnb100 := NB238_202.out
                                      have hnc100 := NB202_238.out
                                      have hcz101_0 : wc.cell? ⟨gb238, 0, none⟩ = some (.int .i64 ((rd_T23 l1 0).f0)) := (blk_cell BK238.out 0).trans rfl
                                      have hcz101_1 : wc.cell? ⟨gb238, 1, none⟩ = some (.int .i64 ((rd_T23 l1 0).f1)) := (blk_cell BK238.out 1).trans rfl
                                      have hcz101_2 : wc.cell? ⟨gb238, 2, none⟩ = some (.string ((rd_T23 l1 0).f2)) := (blk_cell BK238.out 2).trans rfl
                                      have hfz101_0 := blk_frozen BK238.out 0
                                      have hfz101_1 := blk_frozen BK238.out 1
                                      have hfz101_2 := blk_frozen BK238.out 2
                                      go_wp2
                                      repeat (go_quiet (fail); try go_wp2)
                                      go_meet
                                      case rel => exact ⟨_, ((((rd_T23 l1 0).f0) == 1)), (by first | rfl | (simp; done) | (simp [*]; done)), H', ⟨by have := HK1.out; have := HJ12.out; have := HJ17.out; have := HJ43.out; have := HJ57.out; first | omega | exact Nat.le_refl _⟩, ⟨by (with_reducible repeat (first | refine blk_drewN ?_ _ | refine blk_drew ?_ | refine blk_alloc ?_ _)); exact BK202.out⟩, ⟨by (with_reducible repeat (first | refine blk_drewN ?_ _ | refine blk_drew ?_ | refine blk_alloc ?_ _)); exact BK238.out⟩, ⟨by repeat (first | (with_reducible first | exact HB.out | apply below_alloc | apply pw_below_drewN | apply below_drew1 | refine below_set ?_ GE202.out | refine below_set ?_ GE238.out) | exact HB.out)⟩⟩
                                    · rw [if_neg c99] at H
                                      have c99b0 : (a0.toList == ([67, 72, 82] : List UInt8)) = false := beq_eq_false_iff_ne.mpr c99
                                      have c99b1 : (a0.toList != ([67, 72, 82] : List UInt8)) = true := bne_iff_ne.mpr c99
                                      (first | rw [c99b0] | (simp only [i64_w, i32_w]; rw [c99b0]) | skip)
                                      have H' := Aside0.mk H
                                      clear H
                                      go_wp2
                                      repeat (go_quiet (fail); try go_wp2)
                                      go_meet
                                      case rel => exact ⟨_, (false), (by first | rfl | (simp; done) | (simp [*]; done)), H', ⟨by have := HK1.out; have := HJ12.out; have := HJ17.out; have := HJ43.out; have := HJ57.out; first | omega | exact Nat.le_refl _⟩, ⟨by (with_reducible repeat (first | refine blk_drewN ?_ _ | refine blk_drew ?_ | refine blk_alloc ?_ _)); exact BK202.out⟩, ⟨by (with_reducible repeat (first | refine blk_drewN ?_ _ | refine blk_drew ?_ | refine blk_alloc ?_ _)); exact BK238.out⟩, ⟨by repeat (first | (with_reducible first | exact HB.out | apply below_alloc | apply pw_below_drewN | apply below_drew1 | refine below_set ?_ GE202.out | refine below_set ?_ GE238.out) | exact HB.out)⟩⟩
                                  case rest =>
                                    clear HC98
                                    try clear c1
                                    try clear c2
                                    try clear p2
                                    try clear q2
                                    try clear hx2
                                    try clear qi2
                                    try clear c3
                                    try clear c4
                                    try clear c4b0
                                    try clear c5
                                    try clear c5b0
                                    try clear c6
                                    try clear p6
                                    try clear c7
                                    try clear c8
                                    try clear c9
                                    try clear c10
                                    try clear c14
                                    try clear c14b0
                                    try clear c14b1
                                    try clear c15
                                    try clear c15b0
                                    try clear c15b1
                                    try clear c16
                                    try clear c16b0
                                    try clear c16b1
                                    try clear c17
                                    try clear c17b0
                                    try clear c17b1
                                    try clear c19
                                    try clear c20
                                    try clear c20b0
                                    try clear c20b1
                                    try clear p20
                                    try clear q20
                                    try clear hx20
                                    try clear qi20
                                    try clear p21
                                    try clear q21
                                    try clear hx21
                                    try clear qi21
                                    try clear c22
                                    try clear c22b0
                                    try clear c22b1
                                    try clear p23
                                    try clear q23
                                    try clear hx23
                                    try clear qi23
                                    try clear c24
                                    try clear c24b0
                                    try clear c24b1
                                    try clear c30
                                    try clear c30b0
                                    try clear c30b1
                                    try clear c36
                                    try clear c36b0
                                    try clear c36b1
                                    try clear c42
                                    try clear c42b0
                                    try clear c42b1
                                    try clear c43
                                    try clear c43b0
                                    try clear c43b1
                                    try clear c46
                                    try clear c48
                                    try clear c48b0
                                    try clear c48b1
                                    try clear c49
                                    try clear c51
                                    try clear c54
                                    try clear c59
                                    try clear c59b0
                                    try clear c59b1
                                    try clear c60
                                    try clear c62
                                    try clear c64
                                    try clear p64
                                    try clear c68
                                    try clear c68b0
                                    try clear c68b1
                                    try clear c71
                                    try clear c75
                                    try clear c75b0
                                    try clear c75b1
                                    try clear c76
                                    try clear c78
                                    try clear c80
                                    try clear c82
                                    try clear c86
                                    try clear c86b0
                                    try clear c86b1
                                    try clear c89
                                    try clear c94
                                    try clear c99
                                    try clear c99b0
                                    try clear c99b1
                                    try clear c100
                                    try clear hcz101_0
                                    try clear hcz101_1
                                    try clear hcz101_2
                                    try clear hcz12_0
                                    try clear hcz12_1
                                    try clear hcz12_2
                                    try clear hcz29_0
                                    try clear hcz29_1
                                    try clear hcz29_2
                                    try clear hcz35_0
                                    try clear hcz35_1
                                    try clear hcz35_2
                                    try clear hcz41_0
                                    try clear hcz41_1
                                    try clear hcz41_2
                                    try clear hcz47_0
                                    try clear hcz47_1
                                    try clear hcz47_2
                                    try clear hcz50_0
                                    try clear hcz50_1
                                    try clear hcz50_2
                                    try clear hcz55_0
                                    try clear hcz55_1
                                    try clear hcz55_2
                                    try clear hcz57_0
                                    try clear hcz57_1
                                    try clear hcz57_2
                                    try clear hcz61_0
                                    try clear hcz61_1
                                    try clear hcz61_2
                                    try clear hcz65_0
                                    try clear hcz65_1
                                    try clear hcz65_2
                                    try clear hcz67_0
                                    try clear hcz67_1
                                    try clear hcz67_2
                                    try clear hcz72_0
                                    try clear hcz72_1
                                    try clear hcz72_2
                                    try clear hcz74_0
                                    try clear hcz74_1
                                    try clear hcz74_2
                                    try clear hcz77_0
                                    try clear hcz77_1
                                    try clear hcz77_2
                                    try clear hcz79_0
                                    try clear hcz79_1
                                    try clear hcz79_2
                                    try clear hcz83_0
                                    try clear hcz83_1
                                    try clear hcz83_2
                                    try clear hcz85_0
                                    try clear hcz85_1
                                    try clear hcz85_2
                                    try clear hcz90_0
                                    try clear hcz90_1
                                    try clear hcz90_2
                                    try clear hcz92_0
                                    try clear hcz92_1
                                    try clear hcz92_2
                                    try clear hcz95_0
                                    try clear hcz95_1
                                    try clear hcz95_2
                                    try clear hcz97_0
                                    try clear hcz97_1
                                    try clear hcz97_2
                                    try clear hfz101_0
                                    try clear hfz101_1
                                    try clear hfz101_2
                                    try clear hfz12_0
                                    try clear hfz12_1
                                    try clear hfz12_2
                                    try clear hfz29_0
                                    try clear hfz29_1
                                    try clear hfz29_2
                                    try clear hfz35_0
                                    try clear hfz35_1
                                    try clear hfz35_2
                                    try clear hfz41_0
                                    try clear hfz41_1
                                    try clear hfz41_2
                                    try clear hfz47_0
                                    try clear hfz47_1
                                    try clear hfz47_2
                                    try clear hfz50_0
                                    try clear hfz50_1
                                    try clear hfz50_2
                                    try clear hfz55_0
                                    try clear hfz55_1
                                    try clear hfz55_2
                                    try clear hfz57_0
                                    try clear hfz57_1
                                    try clear hfz57_2
                                    try clear hfz61_0
                                    try clear hfz61_1
                                    try clear hfz61_2
                                    try clear hfz65_0
                                    try clear hfz65_1
                                    try clear hfz65_2
                                    try clear hfz67_0
                                    try clear hfz67_1
                                    try clear hfz67_2
                                    try clear hfz72_0
                                    try clear hfz72_1
                                    try clear hfz72_2
                                    try clear hfz74_0
                                    try clear hfz74_1
                                    try clear hfz74_2
                                    try clear hfz77_0
                                    try clear hfz77_1
                                    try clear hfz77_2
                                    try clear hfz79_0
                                    try clear hfz79_1
                                    try clear hfz79_2
                                    try clear hfz83_0
                                    try clear hfz83_1
                                    try clear hfz83_2
                                    try clear hfz85_0
                                    try clear hfz85_1
                                    try clear hfz85_2
                                    try clear hfz90_0
                                    try clear hfz90_1
                                    try clear hfz90_2
                                    try clear hfz92_0
                                    try clear hfz92_1
                                    try clear hfz92_2
                                    try clear hfz95_0
                                    try clear hfz95_1
                                    try clear hfz95_2
                                    try clear hfz97_0
                                    try clear hfz97_1
                                    try clear hfz97_2
                                    try clear hx203_0
                                    try clear hx203_1
                                    try clear hx203_2
                                    try clear hx209_0
                                    try clear hx209_1
                                    try clear hx209_2
                                    try clear hx210_0
                                    try clear hx210_1
                                    try clear hx210_2
                                    try clear hx211_0
                                    try clear hx211_1
                                    try clear hx211_2
                                    try clear hx213_0
                                    try clear hx213_1
                                    try clear hx213_2
                                    try clear hx237_0
                                    try clear hx237_1
                                    try clear hx237_2
                                    try clear p2
                                    try clear p20
                                    try clear p203
                                    try clear p209
                                    try clear p21
                                    try clear p210
                                    try clear p211
                                    try clear p213
                                    try clear p23
                                    try clear p237
                                    try clear p6
                                    try clear p64
                                    try clear q2
                                    try clear q20
                                    try clear q203
                                    try clear q209
                                    try clear q21
                                    try clear q210
                                    try clear q211
                                    try clear q213
                                    try clear q23
                                    try clear q237
                                    obtain ⟨kq, x149_97, rfl, HA, HJ97, BK202, BK238, HB⟩ := hcut
                                    cases kq with
                                    | zero => exact absurd HA.out (by simp [spinetref12_Call.j6])
                                    | succ kj97 =>
                                      have H := HA.out
                                      clear HA
                                      simp only [spinetref12_Call.j6] at H
                                      by_cases c102 : x149_97 = true
                                      · subst c102
                                        have H1 : (if ((rd_T23 l1 0).f1) < 0 then (some (0, 0, (⟨#[]⟩ : ByteArray), 91)) else (if ((rd_T23 l1 0).f1) > 255 then (some (0, 0, (⟨#[]⟩ : ByteArray), 91)) else (some (3, ((rd_T23 l1 0).f1), (⟨#[]⟩ : ByteArray), 0)))) = some (r1, r2, r3, r4) := by rw [if_pos rfl] at H; exact H
                                        clear H
                                        have H := H1
                                        clear H1
                                        by_cases c103 : ((rd_T23 l1 0).f1) < 0
                                        · rw [if_pos c103] at H
                                          have c103b0 : decide (((rd_T23 l1 0).f1) < 0) = true := decide_eq_true c103
                                          clear c103
                                          simp only [Option.some.injEq, Prod.mk.injEq] at H
                                          obtain ⟨rfl, rfl, rfl, rfl⟩ := H
                                          have hnb104 := NB238_202.out
                                          have hnc104 := NB202_238.out
                                          have hcz105_0 : wc.cell? ⟨gb238, 0, none⟩ = some (.int .i64 ((rd_T23 l1 0).f0)) := (blk_cell BK238.out 0).trans rfl
                                          have hcz105_1 : wc.cell? ⟨gb238, 1, none⟩ = some (.int .i64 ((rd_T23 l1 0).f1)) := (blk_cell BK238.out 1).trans rfl
                                          have hcz105_2 : wc.cell? ⟨gb238, 2, none⟩ = some (.string ((rd_T23 l1 0).f2)) := (blk_cell BK238.out 2).trans rfl
                                          have hfz105_0 := blk_frozen BK238.out 0
                                          have hfz105_1 := blk_frozen BK238.out 1
                                          have hfz105_2 := blk_frozen BK238.out 2
                                          have hcz106_0 : wc.cell? ⟨gb202, 0, none⟩ = some (.int .i64 x203000_17) := (blk_cell BK202.out 0).trans rfl
                                          have hcz106_1 : wc.cell? ⟨gb202, 1, none⟩ = some (.int .i64 x203001_17) := (blk_cell BK202.out 1).trans rfl
                                          have hcz106_2 : wc.cell? ⟨gb202, 2, none⟩ = some (.string x203002_17) := (blk_cell BK202.out 2).trans rfl
                                          have hfz106_0 := blk_frozen BK202.out 0
                                          have hfz106_1 := blk_frozen BK202.out 1
                                          have hfz106_2 := blk_frozen BK202.out 2
                                          go_wp2
                                          repeat (go_quiet (fail); try go_wp2)
                                          refine bodyPost_ret (results_ct rfl _ _ gb202 23 #[.int .i64 0, .int .i64 0, .string (⟨#[]⟩ : ByteArray)] (0, 0) _ rfl (by (with_reducible repeat (first | refine blk_drewN ?_ _ | refine blk_drew ?_ | refine blk_alloc ?_ _)); refine blk_put (cs := #[.int .i64 0, .int .i64 0, .string x203002_17]) ?_ 2 _ rfl; (with_reducible repeat (first | refine blk_drewN ?_ _ | refine blk_drew ?_ | refine blk_alloc ?_ _)); refine blk_put (cs := #[.int .i64 0, .int .i64 x203001_17, .string x203002_17]) ?_ 1 _ rfl; (with_reducible repeat (first | refine blk_drewN ?_ _ | refine blk_drew ?_ | refine blk_alloc ?_ _)); refine blk_put (cs := #[.int .i64 x203000_17, .int .i64 x203001_17, .string x203002_17]) ?_ 0 _ rfl; (with_reducible repeat (first | refine blk_drewN ?_ _ | refine blk_drew ?_ | refine blk_alloc ?_ _)); exact BK202.out) Try.underlying23 rfl (by kernel_rfl)) rfl ?_
                                          exact ⟨by first | rfl | (simp [errW_none, errW_some] <;> rfl) | (simp [*, errW_none, errW_some] <;> rfl), by repeat (first | (with_reducible first | exact HB.out | apply below_alloc | apply pw_below_drewN | apply below_drew1 | refine below_set ?_ GE202.out | refine below_set ?_ GE238.out) | exact HB.out)⟩
                                        · rw [if_neg c103] at H
                                          have c103b0 : decide (((rd_T23 l1 0).f1) < 0) = false := decide_eq_false c103
                                          clear c103
                                          by_cases c107 : ((rd_T23 l1 0).f1) > 255
                                          · rw [if_pos c107] at H
                                            have c107b0 : decide (255 < ((rd_T23 l1 0).f1)) = true := decide_eq_true c107
                                            clear c107
                                            simp only [Option.some.injEq, Prod.mk.injEq] at H
                                            obtain ⟨rfl, rfl, rfl, rfl⟩ := H
                                            have hnb108 := NB238_202.out
                                            have hnc108 := NB202_238.out
                                            have hcz109_0 : wc.cell? ⟨gb238, 0, none⟩ = some (.int .i64 ((rd_T23 l1 0).f0)) := (blk_cell BK238.out 0).trans rfl
                                            have hcz109_1 : wc.cell? ⟨gb238, 1, none⟩ = some (.int .i64 ((rd_T23 l1 0).f1)) := (blk_cell BK238.out 1).trans rfl
                                            have hcz109_2 : wc.cell? ⟨gb238, 2, none⟩ = some (.string ((rd_T23 l1 0).f2)) := (blk_cell BK238.out 2).trans rfl
                                            have hfz109_0 := blk_frozen BK238.out 0
                                            have hfz109_1 := blk_frozen BK238.out 1
                                            have hfz109_2 := blk_frozen BK238.out 2
                                            have hcz110_0 : wc.cell? ⟨gb202, 0, none⟩ = some (.int .i64 x203000_17) := (blk_cell BK202.out 0).trans rfl
                                            have hcz110_1 : wc.cell? ⟨gb202, 1, none⟩ = some (.int .i64 x203001_17) := (blk_cell BK202.out 1).trans rfl
                                            have hcz110_2 : wc.cell? ⟨gb202, 2, none⟩ = some (.string x203002_17) := (blk_cell BK202.out 2).trans rfl
                                            have hfz110_0 := blk_frozen BK202.out 0
                                            have hfz110_1 := blk_frozen BK202.out 1
                                            have hfz110_2 := blk_frozen BK202.out 2
                                            go_wp2
                                            repeat (go_quiet (fail); try go_wp2)
                                            refine bodyPost_ret (results_ct rfl _ _ gb202 23 #[.int .i64 0, .int .i64 0, .string (⟨#[]⟩ : ByteArray)] (0, 0) _ rfl (by (with_reducible repeat (first | refine blk_drewN ?_ _ | refine blk_drew ?_ | refine blk_alloc ?_ _)); refine blk_put (cs := #[.int .i64 0, .int .i64 0, .string x203002_17]) ?_ 2 _ rfl; (with_reducible repeat (first | refine blk_drewN ?_ _ | refine blk_drew ?_ | refine blk_alloc ?_ _)); refine blk_put (cs := #[.int .i64 0, .int .i64 x203001_17, .string x203002_17]) ?_ 1 _ rfl; (with_reducible repeat (first | refine blk_drewN ?_ _ | refine blk_drew ?_ | refine blk_alloc ?_ _)); refine blk_put (cs := #[.int .i64 x203000_17, .int .i64 x203001_17, .string x203002_17]) ?_ 0 _ rfl; (with_reducible repeat (first | refine blk_drewN ?_ _ | refine blk_drew ?_ | refine blk_alloc ?_ _)); exact BK202.out) Try.underlying23 rfl (by kernel_rfl)) rfl ?_
                                            exact ⟨by first | rfl | (simp [errW_none, errW_some] <;> rfl) | (simp [*, errW_none, errW_some] <;> rfl), by repeat (first | (with_reducible first | exact HB.out | apply below_alloc | apply pw_below_drewN | apply below_drew1 | refine below_set ?_ GE202.out | refine below_set ?_ GE238.out) | exact HB.out)⟩
                                          · rw [if_neg c107] at H
                                            have c107b0 : decide (255 < ((rd_T23 l1 0).f1)) = false := decide_eq_false c107
                                            clear c107
                                            simp only [Option.some.injEq, Prod.mk.injEq] at H
                                            obtain ⟨rfl, rfl, rfl, rfl⟩ := H
                                            have hnb111 := NB238_202.out
                                            have hnc111 := NB202_238.out
                                            have hcz112_0 : wc.cell? ⟨gb238, 0, none⟩ = some (.int .i64 ((rd_T23 l1 0).f0)) := (blk_cell BK238.out 0).trans rfl
                                            have hcz112_1 : wc.cell? ⟨gb238, 1, none⟩ = some (.int .i64 ((rd_T23 l1 0).f1)) := (blk_cell BK238.out 1).trans rfl
                                            have hcz112_2 : wc.cell? ⟨gb238, 2, none⟩ = some (.string ((rd_T23 l1 0).f2)) := (blk_cell BK238.out 2).trans rfl
                                            have hfz112_0 := blk_frozen BK238.out 0
                                            have hfz112_1 := blk_frozen BK238.out 1
                                            have hfz112_2 := blk_frozen BK238.out 2
                                            have hcz113_0 : wc.cell? ⟨gb202, 0, none⟩ = some (.int .i64 x203000_17) := (blk_cell BK202.out 0).trans rfl
                                            have hcz113_1 : wc.cell? ⟨gb202, 1, none⟩ = some (.int .i64 x203001_17) := (blk_cell BK202.out 1).trans rfl
                                            have hcz113_2 : wc.cell? ⟨gb202, 2, none⟩ = some (.string x203002_17) := (blk_cell BK202.out 2).trans rfl
                                            have hfz113_0 := blk_frozen BK202.out 0
                                            have hfz113_1 := blk_frozen BK202.out 1
                                            have hfz113_2 := blk_frozen BK202.out 2
                                            go_wp2
                                            repeat (go_quiet (fail); try go_wp2)
                                            refine bodyPost_ret (results_ct rfl _ _ gb202 23 #[.int .i64 3, .int .i64 ((rd_T23 l1 0).f1), .string (⟨#[]⟩ : ByteArray)] (0, 0) _ rfl (by (with_reducible repeat (first | refine blk_drewN ?_ _ | refine blk_drew ?_ | refine blk_alloc ?_ _)); refine blk_put (cs := #[.int .i64 3, .int .i64 ((rd_T23 l1 0).f1), .string x203002_17]) ?_ 2 _ rfl; (with_reducible repeat (first | refine blk_drewN ?_ _ | refine blk_drew ?_ | refine blk_alloc ?_ _)); refine blk_put (cs := #[.int .i64 3, .int .i64 x203001_17, .string x203002_17]) ?_ 1 _ rfl; (with_reducible repeat (first | refine blk_drewN ?_ _ | refine blk_drew ?_ | refine blk_alloc ?_ _)); refine blk_put (cs := #[.int .i64 x203000_17, .int .i64 x203001_17, .string x203002_17]) ?_ 0 _ rfl; (with_reducible repeat (first | refine blk_drewN ?_ _ | refine blk_drew ?_ | refine blk_alloc ?_ _)); exact BK202.out) Try.underlying23 rfl (by kernel_rfl)) rfl ?_
                                            exact ⟨by first | rfl | (simp [errW_none, errW_some] <;> rfl) | (simp [*, errW_none, errW_some] <;> rfl), by repeat (first | (with_reducible first | exact HB.out | apply below_alloc | apply pw_below_drewN | apply below_drew1 | refine below_set ?_ GE202.out | refine below_set ?_ GE238.out) | exact HB.out)⟩
                                      · replace c102 := Bool.eq_false_iff.mpr c102
                                        subst c102
                                        have H1 : ((spinetref12_none.f).bind fun bt263 => (some (bt263.1, bt263.2.1, bt263.2.2.1, bt263.2.2.2))) = some (r1, r2, r3, r4) := by rw [if_neg (show ¬ (false = true) by decide)] at H; exact H
                                        clear H
                                        have H := H1
                                        clear H1
                                        replace H := Option.bind_eq_some_iff.mp H
                                        obtain ⟨⟨t263, t264, t265, t266⟩, A1140, H⟩ := H
                                        replace H : (some (t263, t264, t265, t266)) = some (r1, r2, r3, r4) := H
                                        have A114 := Aside0.mk A1140
                                        clear A1140
                                        simp only [Option.some.injEq, Prod.mk.injEq] at H
                                        obtain ⟨rfl, rfl, rfl, rfl⟩ := H
                                        go_wp2_with (first | (go_at_call 33; (with_reducible refine (spinetref12_none.calls  t263 t264 t265 t266 _ A114.out).mono ?_); rintro e w115 ⟨rfl, hb⟩; have n0_ := Aside0.mk (blk_below (g := gb202) (o := .cells #[.int .i64 x203000_17, .int .i64 x203001_17, .string x203002_17] 23 (0, 0)) (by (with_reducible repeat (first | refine blk_drewN ?_ _ | refine blk_drew ?_ | refine blk_alloc ?_ _)); exact BK202.out) hb); have n1_ := Aside0.mk (blk_below (g := gb238) (o := .cells #[.int .i64 ((rd_T23 l1 0).f0), .int .i64 ((rd_T23 l1 0).f1), .string ((rd_T23 l1 0).f2)] 23 (0, 0)) (by (with_reducible repeat (first | refine blk_drewN ?_ _ | refine blk_drew ?_ | refine blk_alloc ?_ _)); exact BK238.out) hb); have n2_ := Aside0.mk (below_step (by repeat (first | (with_reducible first | exact HB.out | apply below_alloc | apply pw_below_drewN | apply below_drew1 | refine below_set ?_ GE202.out | refine below_set ?_ GE238.out) | exact HB.out)) hb); clear BK202; clear BK238; clear HB; have BK202 := n0_; have BK238 := n1_; have HB := n2_; clear n0_ n1_ n2_; (try clear hb); (try clear hb2); (try clear hk); (try clear hi); have hnb116 := NB202_238.out; have hnc116 := NB238_202.out; have hcz117_0 : w115.cell? ⟨gb202, 0, none⟩ = some (.int .i64 x203000_17) := (blk_cell BK202.out 0).trans rfl; have hcz117_1 : w115.cell? ⟨gb202, 1, none⟩ = some (.int .i64 x203001_17) := (blk_cell BK202.out 1).trans rfl; have hcz117_2 : w115.cell? ⟨gb202, 2, none⟩ = some (.string x203002_17) := (blk_cell BK202.out 2).trans rfl; have hfz117_0 := blk_frozen BK202.out 0; have hfz117_1 := blk_frozen BK202.out 1; have hfz117_2 := blk_frozen BK202.out 2))
                                        repeat (go_quiet (first | (go_at_call 33; (with_reducible refine (spinetref12_none.calls  t263 t264 t265 t266 _ A114.out).mono ?_); rintro e w115 ⟨rfl, hb⟩; have n0_ := Aside0.mk (blk_below (g := gb202) (o := .cells #[.int .i64 x203000_17, .int .i64 x203001_17, .string x203002_17] 23 (0, 0)) (by (with_reducible repeat (first | refine blk_drewN ?_ _ | refine blk_drew ?_ | refine blk_alloc ?_ _)); exact BK202.out) hb); have n1_ := Aside0.mk (blk_below (g := gb238) (o := .cells #[.int .i64 ((rd_T23 l1 0).f0), .int .i64 ((rd_T23 l1 0).f1), .string ((rd_T23 l1 0).f2)] 23 (0, 0)) (by (with_reducible repeat (first | refine blk_drewN ?_ _ | refine blk_drew ?_ | refine blk_alloc ?_ _)); exact BK238.out) hb); have n2_ := Aside0.mk (below_step (by repeat (first | (with_reducible first | exact HB.out | apply below_alloc | apply pw_below_drewN | apply below_drew1 | refine below_set ?_ GE202.out | refine below_set ?_ GE238.out) | exact HB.out)) hb); clear BK202; clear BK238; clear HB; have BK202 := n0_; have BK238 := n1_; have HB := n2_; clear n0_ n1_ n2_; (try clear hb); (try clear hb2); (try clear hk); (try clear hi); have hnb116 := NB202_238.out; have hnc116 := NB238_202.out; have hcz117_0 : w115.cell? ⟨gb202, 0, none⟩ = some (.int .i64 x203000_17) := (blk_cell BK202.out 0).trans rfl; have hcz117_1 : w115.cell? ⟨gb202, 1, none⟩ = some (.int .i64 x203001_17) := (blk_cell BK202.out 1).trans rfl; have hcz117_2 : w115.cell? ⟨gb202, 2, none⟩ = some (.string x203002_17) := (blk_cell BK202.out 2).trans rfl; have hfz117_0 := blk_frozen BK202.out 0; have hfz117_1 := blk_frozen BK202.out 1; have hfz117_2 := blk_frozen BK202.out 2)); try go_wp2_with (first | (go_at_call 33; (with_reducible refine (spinetref12_none.calls  t263 t264 t265 t266 _ A114.out).mono ?_); rintro e w115 ⟨rfl, hb⟩; have n0_ := Aside0.mk (blk_below (g := gb202) (o := .cells #[.int .i64 x203000_17, .int .i64 x203001_17, .string x203002_17] 23 (0, 0)) (by (with_reducible repeat (first | refine blk_drewN ?_ _ | refine blk_drew ?_ | refine blk_alloc ?_ _)); exact BK202.out) hb); have n1_ := Aside0.mk (blk_below (g := gb238) (o := .cells #[.int .i64 ((rd_T23 l1 0).f0), .int .i64 ((rd_T23 l1 0).f1), .string ((rd_T23 l1 0).f2)] 23 (0, 0)) (by (with_reducible repeat (first | refine blk_drewN ?_ _ | refine blk_drew ?_ | refine blk_alloc ?_ _)); exact BK238.out) hb); have n2_ := Aside0.mk (below_step (by repeat (first | (with_reducible first | exact HB.out | apply below_alloc | apply pw_below_drewN | apply below_drew1 | refine below_set ?_ GE202.out | refine below_set ?_ GE238.out) | exact HB.out)) hb); clear BK202; clear BK238; clear HB; have BK202 := n0_; have BK238 := n1_; have HB := n2_; clear n0_ n1_ n2_; (try clear hb); (try clear hb2); (try clear hk); (try clear hi); have hnb116 := NB202_238.out; have hnc116 := NB238_202.out; have hcz117_0 : w115.cell? ⟨gb202, 0, none⟩ = some (.int .i64 x203000_17) := (blk_cell BK202.out 0).trans rfl; have hcz117_1 : w115.cell? ⟨gb202, 1, none⟩ = some (.int .i64 x203001_17) := (blk_cell BK202.out 1).trans rfl; have hcz117_2 : w115.cell? ⟨gb202, 2, none⟩ = some (.string x203002_17) := (blk_cell BK202.out 2).trans rfl; have hfz117_0 := blk_frozen BK202.out 0; have hfz117_1 := blk_frozen BK202.out 1; have hfz117_2 := blk_frozen BK202.out 2)))
                                        refine bodyPost_ret (results_ct rfl _ _ gb202 23 #[.int .i64 t263, .int .i64 t264, .string t265] (0, 0) _ rfl (by (with_reducible repeat (first | refine blk_drewN ?_ _ | refine blk_drew ?_ | refine blk_alloc ?_ _)); refine blk_put (cs := #[.int .i64 t263, .int .i64 t264, .string x203002_17]) ?_ 2 _ rfl; (with_reducible repeat (first | refine blk_drewN ?_ _ | refine blk_drew ?_ | refine blk_alloc ?_ _)); refine blk_put (cs := #[.int .i64 t263, .int .i64 x203001_17, .string x203002_17]) ?_ 1 _ rfl; (with_reducible repeat (first | refine blk_drewN ?_ _ | refine blk_drew ?_ | refine blk_alloc ?_ _)); refine blk_put (cs := #[.int .i64 x203000_17, .int .i64 x203001_17, .string x203002_17]) ?_ 0 _ rfl; (with_reducible repeat (first | refine blk_drewN ?_ _ | refine blk_drew ?_ | refine blk_alloc ?_ _)); exact BK202.out) Try.underlying23 rfl (by kernel_rfl)) rfl ?_
                                        exact ⟨by first | rfl | (simp [errW_none, errW_some] <;> rfl) | (simp [*, errW_none, errW_some] <;> rfl), by repeat (first | (with_reducible first | exact HB.out | apply below_alloc | apply pw_below_drewN | apply below_drew1 | refine below_set ?_ GE202.out | refine below_set ?_ GE238.out) | exact HB.out)⟩
                  · rw [if_neg c43] at H
                    exact absurd H (by simp)
                · rw [if_neg c42] at H
                  have c42b0 : ((l1.length : Int) == 1) = false := beq_eq_false_iff_ne.mpr c42
                  have c42b1 : ((l1.length : Int) != 1) = true := bne_iff_ne.mpr c42
                  replace H := Option.bind_eq_some_iff.mp H
                  obtain ⟨⟨t233, t234, t235, t236⟩, A1180, H⟩ := H
                  replace H : (some (t233, t234, t235, t236)) = some (r1, r2, r3, r4) := H
                  have A118 := Aside0.mk A1180
                  clear A1180
                  simp only [Option.some.injEq, Prod.mk.injEq] at H
                  obtain ⟨rfl, rfl, rfl, rfl⟩ := H
                  go_wp2_with (first | (go_at_call 33; (with_reducible refine (spinetref12_none.calls  t233 t234 t235 t236 _ A118.out).mono ?_); rintro e w119 ⟨rfl, hb⟩; have n0_ := Aside0.mk (blk_below (g := gb202) (o := .cells #[.int .i64 x203000_17, .int .i64 x203001_17, .string x203002_17] 23 (0, 0)) (by (with_reducible repeat (first | refine blk_drewN ?_ _ | refine blk_drew ?_ | refine blk_alloc ?_ _)); exact BK202.out) hb); have n1_ := Aside0.mk (below_step (by repeat (first | (with_reducible first | exact HB.out | apply below_alloc | apply pw_below_drewN | apply below_drew1 | refine below_set ?_ GE202.out) | exact HB.out)) hb); clear BK202; clear HB; have BK202 := n0_; have HB := n1_; clear n0_ n1_; (try clear hb); (try clear hb2); (try clear hk); (try clear hi); have hcz120_0 : w119.cell? ⟨gb202, 0, none⟩ = some (.int .i64 x203000_17) := (blk_cell BK202.out 0).trans rfl; have hcz120_1 : w119.cell? ⟨gb202, 1, none⟩ = some (.int .i64 x203001_17) := (blk_cell BK202.out 1).trans rfl; have hcz120_2 : w119.cell? ⟨gb202, 2, none⟩ = some (.string x203002_17) := (blk_cell BK202.out 2).trans rfl; have hfz120_0 := blk_frozen BK202.out 0; have hfz120_1 := blk_frozen BK202.out 1; have hfz120_2 := blk_frozen BK202.out 2))
                  repeat (go_quiet (first | (go_at_call 33; (with_reducible refine (spinetref12_none.calls  t233 t234 t235 t236 _ A118.out).mono ?_); rintro e w119 ⟨rfl, hb⟩; have n0_ := Aside0.mk (blk_below (g := gb202) (o := .cells #[.int .i64 x203000_17, .int .i64 x203001_17, .string x203002_17] 23 (0, 0)) (by (with_reducible repeat (first | refine blk_drewN ?_ _ | refine blk_drew ?_ | refine blk_alloc ?_ _)); exact BK202.out) hb); have n1_ := Aside0.mk (below_step (by repeat (first | (with_reducible first | exact HB.out | apply below_alloc | apply pw_below_drewN | apply below_drew1 | refine below_set ?_ GE202.out) | exact HB.out)) hb); clear BK202; clear HB; have BK202 := n0_; have HB := n1_; clear n0_ n1_; (try clear hb); (try clear hb2); (try clear hk); (try clear hi); have hcz120_0 : w119.cell? ⟨gb202, 0, none⟩ = some (.int .i64 x203000_17) := (blk_cell BK202.out 0).trans rfl; have hcz120_1 : w119.cell? ⟨gb202, 1, none⟩ = some (.int .i64 x203001_17) := (blk_cell BK202.out 1).trans rfl; have hcz120_2 : w119.cell? ⟨gb202, 2, none⟩ = some (.string x203002_17) := (blk_cell BK202.out 2).trans rfl; have hfz120_0 := blk_frozen BK202.out 0; have hfz120_1 := blk_frozen BK202.out 1; have hfz120_2 := blk_frozen BK202.out 2)); try go_wp2_with (first | (go_at_call 33; (with_reducible refine (spinetref12_none.calls  t233 t234 t235 t236 _ A118.out).mono ?_); rintro e w119 ⟨rfl, hb⟩; have n0_ := Aside0.mk (blk_below (g := gb202) (o := .cells #[.int .i64 x203000_17, .int .i64 x203001_17, .string x203002_17] 23 (0, 0)) (by (with_reducible repeat (first | refine blk_drewN ?_ _ | refine blk_drew ?_ | refine blk_alloc ?_ _)); exact BK202.out) hb); have n1_ := Aside0.mk (below_step (by repeat (first | (with_reducible first | exact HB.out | apply below_alloc | apply pw_below_drewN | apply below_drew1 | refine below_set ?_ GE202.out) | exact HB.out)) hb); clear BK202; clear HB; have BK202 := n0_; have HB := n1_; clear n0_ n1_; (try clear hb); (try clear hb2); (try clear hk); (try clear hi); have hcz120_0 : w119.cell? ⟨gb202, 0, none⟩ = some (.int .i64 x203000_17) := (blk_cell BK202.out 0).trans rfl; have hcz120_1 : w119.cell? ⟨gb202, 1, none⟩ = some (.int .i64 x203001_17) := (blk_cell BK202.out 1).trans rfl; have hcz120_2 : w119.cell? ⟨gb202, 2, none⟩ = some (.string x203002_17) := (blk_cell BK202.out 2).trans rfl; have hfz120_0 := blk_frozen BK202.out 0; have hfz120_1 := blk_frozen BK202.out 1; have hfz120_2 := blk_frozen BK202.out 2)))
                  refine bodyPost_ret (results_ct rfl _ _ gb202 23 #[.int .i64 t233, .int .i64 t234, .string t235] (0, 0) _ rfl (by (with_reducible repeat (first | refine blk_drewN ?_ _ | refine blk_drew ?_ | refine blk_alloc ?_ _)); refine blk_put (cs := #[.int .i64 t233, .int .i64 t234, .string x203002_17]) ?_ 2 _ rfl; (with_reducible repeat (first | refine blk_drewN ?_ _ | refine blk_drew ?_ | refine blk_alloc ?_ _)); refine blk_put (cs := #[.int .i64 t233, .int .i64 x203001_17, .string x203002_17]) ?_ 1 _ rfl; (with_reducible repeat (first | refine blk_drewN ?_ _ | refine blk_drew ?_ | refine blk_alloc ?_ _)); refine blk_put (cs := #[.int .i64 x203000_17, .int .i64 x203001_17, .string x203002_17]) ?_ 0 _ rfl; (with_reducible repeat (first | refine blk_drewN ?_ _ | refine blk_drew ?_ | refine blk_alloc ?_ _)); exact BK202.out) Try.underlying23 rfl (by kernel_rfl)) rfl ?_
                  exact ⟨by first | rfl | (simp [errW_none, errW_some] <;> rfl) | (simp [*, errW_none, errW_some] <;> rfl), by repeat (first | (with_reducible first | exact HB.out | apply below_alloc | apply pw_below_drewN | apply below_drew1 | refine below_set ?_ GE202.out) | exact HB.out)⟩


end Go.Proofs.Ytjimcgmefpienaa.PConstsCalls
