/- The law ArithTexts: both tell the same; walked. -/
import Derived.Test.YtkkgocbecnefnaaRef01Pure
import Derived.Test.YtkkgocbecnefnaaEnd20
import Derived.Test.YtkkgocbecnefnaaWakes
import Derived.WalkLawsBesides
namespace Go.Proofs.Ytkkgocbecnefnaa.LawArithTexts
open Go.RowKit Go.Proofs.Ytkkgocbecnefnaa Go.Proofs.Ytkkgocbecnefnaa.Plain Go.Proofs.Ytkkgocbecnefnaa.PArithConsts Go.Proofs.Ytkkgocbecnefnaa.Ref01Pure Go.Proofs.Ytkkgocbecnefnaa.Wakes Go.Proofs.YtkkgocbecnefnaaW.PrintWords Go.Proofs.YtkkgocbecnefnaaW.PrintLast Go.Proofs.YtkkgocbecnefnaaW.PrintMore
set_option linter.unusedVariables false
set_option linter.unusedSimpArgs false

/-- The order of two texts, by 'below' and 'alike'. -/
theorem cmp_of : ∀ x y : List UInt8, Lib.compareBytes x y = if Op.bytesLess x y = true then -1 else if (x == y) = true then 0 else 1
  | [], [] => by simp [Lib.compareBytes, Op.bytesLess]
  | [], b :: y => by simp [Lib.compareBytes, Op.bytesLess]
  | a :: x, [] => by simp [Lib.compareBytes, Op.bytesLess]
  | a :: x, b :: y => by
    have ih := cmp_of x y
    unfold Lib.compareBytes Op.bytesLess
    by_cases h1 : a < b
    · simp [h1]
    · by_cases h2 : b < a
      · have hne : a ≠ b := fun e => by subst e; exact absurd h2 (UInt8.lt_irrefl _)
        simp [h1, h2, hne]
      · have he : a = b := UInt8.le_antisymm (UInt8.not_lt.1 h2) (UInt8.not_lt.1 h1)
        subst he
        simp only [h1, if_false, ih]
        simp

theorem end_l0 (s : ByteArray) (hs : s.size ≤ 140737488351232) : ∀ (d k i : Nat), i + d = s.size → d < k →
    spinetref20_End.l0 k s i = some (if Lib.indexByte (s.data.toList.drop i) 0 = -1 then s else s.extract 0 (i + Lib.indexByte (s.data.toList.drop i) 0).toNat) := by
  have hlen : s.data.toList.length = s.size := by simp
  intro d
  induction d with
  | zero =>
    intro k i hi hk
    obtain ⟨k, rfl⟩ : ∃ j, k = j + 1 := ⟨k - 1, by omega⟩
    have hd : s.data.toList.drop i = [] := List.drop_eq_nil_of_le (by omega)
    simp only [spinetref20_End.l0]
    rw [if_neg (by omega), hd]
    simp [Lib.indexByte]
  | succ d ih =>
    intro k i hi hk
    obtain ⟨k, rfl⟩ : ∃ j, k = j + 1 := ⟨k - 1, by omega⟩
    have hlt : i < s.size := by omega
    have hd : s.data.toList.drop i = s[i] :: s.data.toList.drop (i + 1) := by
      rw [List.drop_eq_getElem_cons (by omega)]; rfl
    have hb : bt s (i : Int) = (s[i].toNat : Int) := by simp [bt, hlt]
    have ih' := ih k (i + 1) (by omega) (by omega)
    simp only [spinetref20_End.l0]
    rw [if_pos (by omega), if_pos (by omega), hb, hd]
    unfold Lib.indexByte
    by_cases hz : s[i] = 0
    · rw [if_pos (by rw [hz]; rfl), if_pos (by omega), hz]
      simp
    · have hz' : ¬ ((s[i].toNat : Int) = 0) := by
        intro h
        exact hz (UInt8.toNat_inj.1 (by have : s[i].toNat = 0 := by omega
                                        rw [this]; rfl))
      have hzb : (s[i] == (0 : UInt8)) = false := by simpa using hz
      rw [if_neg hz', show wrap64 ((i : Int) + 1) = ((i + 1 : Nat) : Int) by rw [w64 (by omega) (by omega)]; omega, ih']
      simp only [hzb, Bool.false_eq_true, if_false]
      have hge := Lib.indexByte_ge (s.data.toList.drop (i + 1)) 0
      by_cases hm : Lib.indexByte (s.data.toList.drop (i + 1)) 0 = -1
      · simp [hm]
      · have : (Lib.indexByte (s.data.toList.drop (i + 1)) 0 == -1) = false := by simpa using hm
        simp only [this, hm, Bool.false_eq_true, if_false]
        rw [if_neg (by omega)]
        congr 3
        omega
theorem end_of (s : ByteArray) (hs : s.size ≤ 140737488351232) : spinetref20_End.f (s.size + 1) s = some (Text.endOf s) := by
  have h := end_l0 s hs s.size (s.size + 1) 0 (by omega) (by omega)
  simp only [List.drop_zero, Int.natCast_zero, Int.zero_add] at h
  exact h

set_option maxRecDepth 100000 in
set_option maxHeartbeats 2000000 in
theorem reftexts_any (op a b : ByteArray) (r1 r2 : Bool) (w : World) (ha : a.size ≤ 140737488351232) (hb : b.size ≤ 140737488351232)
    (h : arith_holds.f op (Lib.compareBytes (Text.endOf a).data.toList (Text.endOf b).data.toList) = some (r1, r2)) :
    Calls Try.prog 11 #[.string op, .string a, .string b] w fun e w' => e = .returned (.tuple #[.bool r1, .bool r2]) ∧ Below w.heap.size w w' := by
  have EA := Aside0.mk (end_of a ha)
  have EB := Aside0.mk (end_of b hb)
  rw [holds_sign, cmp_of, ← Lib.toList_data, ← Lib.toList_data] at h
  clear ha hb
  generalize Text.endOf a = X at *
  generalize Text.endOf b = Y at *
  by_cases c1 : Op.bytesLess X.toList Y.toList = true
  · rw [if_pos c1, if_pos (by decide)] at h
    have R := Aside0.mk h
    clear h
    go_enter Try.func11, Try.ntmps11
    go_wp2_with (first | (go_at_call 29; (with_reducible refine (spinetref20_End.calls _ a X _ EA.out).mono ?_); rintro e w' ⟨rfl, n1, rfl⟩) | (go_at_call 29; (with_reducible refine (spinetref20_End.calls _ b Y _ EB.out).mono ?_); rintro e w' ⟨rfl, n2, rfl⟩) | (go_at_call 30; (with_reducible refine (spinetref12_Relate.calls op _ r1 r2 _ R.out).mono ?_); rintro e w' ⟨rfl, n3, rfl⟩))
    go_ret2
    exact ⟨rfl, by repeat (first | (with_reducible exact Below.refl _ _) | (with_reducible apply pw_below_drewN))⟩
  · have c1' : Op.bytesLess X.toList Y.toList = false := by simpa using c1
    rw [if_neg c1] at h
    by_cases c2 : (X.toList == Y.toList) = true
    · rw [if_pos c2, if_neg (by decide), if_neg (by decide)] at h
      have R := Aside0.mk h
      clear h c1
      go_enter Try.func11, Try.ntmps11
      go_wp2_with (first | (go_at_call 29; (with_reducible refine (spinetref20_End.calls _ a X _ EA.out).mono ?_); rintro e w' ⟨rfl, n1, rfl⟩) | (go_at_call 29; (with_reducible refine (spinetref20_End.calls _ b Y _ EB.out).mono ?_); rintro e w' ⟨rfl, n2, rfl⟩) | (go_at_call 30; (with_reducible refine (spinetref12_Relate.calls op _ r1 r2 _ R.out).mono ?_); rintro e w' ⟨rfl, n3, rfl⟩))
      go_ret2
      exact ⟨rfl, by repeat (first | (with_reducible exact Below.refl _ _) | (with_reducible apply pw_below_drewN))⟩
    · have c2' : (X.toList == Y.toList) = false := by simpa using c2
      rw [if_neg c2, if_neg (by decide), if_pos (by decide)] at h
      have R := Aside0.mk h
      clear h c1 c2
      go_enter Try.func11, Try.ntmps11
      go_wp2_with (first | (go_at_call 29; (with_reducible refine (spinetref20_End.calls _ a X _ EA.out).mono ?_); rintro e w' ⟨rfl, n1, rfl⟩) | (go_at_call 29; (with_reducible refine (spinetref20_End.calls _ b Y _ EB.out).mono ?_); rintro e w' ⟨rfl, n2, rfl⟩) | (go_at_call 30; (with_reducible refine (spinetref12_Relate.calls op _ r1 r2 _ R.out).mono ?_); rintro e w' ⟨rfl, n3, rfl⟩))
      go_ret2
      exact ⟨rfl, by repeat (first | (with_reducible exact Below.refl _ _) | (with_reducible apply pw_below_drewN))⟩

set_option maxRecDepth 100000 in
set_option maxHeartbeats 2000000 in
theorem walk (op a b : ByteArray) (w : World) (ha : a.size ≤ 140737488351232) (hb : b.size ≤ 140737488351232) :
    Calls Try.prog 3 #[.string op, .string a, .string b] w fun e w' => e = .returned (.bool true) ∧ Below w.heap.size w w' := by
  by_cases c1 : (a.size : Int) > 5000
  · go_enter Try.func3, Try.ntmps3
    go_wp2_with (go_at_call 9; refine (wakes_any _).mono ?_; rintro e w1 ⟨rfl, hb1⟩)
    go_ret
    exact ⟨rfl, by assumption⟩
  · by_cases c2 : (b.size : Int) > 5000
    · go_enter Try.func3, Try.ntmps3
      go_wp2_with (go_at_call 9; refine (wakes_any _).mono ?_; rintro e w1 ⟨rfl, hb1⟩)
      go_ret
      exact ⟨rfl, by assumption⟩
    · obtain ⟨r1, r2, h⟩ : ∃ r1 r2, arith_holds.f op (Lib.compareBytes (Text.endOf a).data.toList (Text.endOf b).data.toList) = some (r1, r2) := by
        rw [holds_sign]; exact relate_some _ _
      have T1 := Aside0.mk (fun W => Text.texts_any op a b r1 r2 W ha hb h)
      have T2 := Aside0.mk (fun W => reftexts_any op a b r1 r2 W ha hb h)
      clear h ha hb
      go_enter Try.func3, Try.ntmps3
      go_wp2_with fail
      refine (T1.out _).mono ?_
      rintro e w1 ⟨rfl, n1, rfl⟩
      go_wp2_with fail
      refine (T2.out _).mono ?_
      rintro e w2 ⟨rfl, hb2⟩
      have G2 : Aside0 (Below w.heap.size w w2) := ⟨below_step (pw_below_drewN (Below.refl _ _) n1) hb2⟩
      clear hb2
      go_wp2_with fail
      refine (wakes_any _).mono ?_
      rintro e w3 ⟨rfl, hb3⟩
      have G3 : Aside0 (Below w.heap.size w w3) := ⟨below_step G2.out hb3⟩
      clear hb3
      go_wp2_with fail
      go_ret
      exact ⟨rfl, G3.out⟩
end Go.Proofs.Ytkkgocbecnefnaa.LawArithTexts
