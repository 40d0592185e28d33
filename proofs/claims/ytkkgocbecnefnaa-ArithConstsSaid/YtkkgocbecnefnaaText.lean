/- A text in an array of characters: up to its first nought; relations of two such. -/
import Derived.Test.YtkkgocbecnefnaaShelf
import Derived.Test.YtkkgocbecnefnaaBase20
import Derived.WalkKit
import Derived.WalkSpells
import Derived.Deep.QuietTactic
import Derived.BigQuiet
import Derived.Lib.IndexBytes
namespace Go.Proofs.Ytkkgocbecnefnaa.Text
open Go.RowKit Go.Proofs.Ytkkgocbecnefnaa
set_option linter.unusedVariables false
set_option linter.unusedSimpArgs false

theorem cut_yes (s : ByteArray) (i : Nat) (w : World) (hi : Lib.indexByte s.data.toList 0 = i) (hlt : i < s.size) (hs : s.size ≤ 140737488351232) :
    Calls Try.prog 99 #[.string s, .string ⟨#[0]⟩] w fun e w' => e = .returned (.tuple #[.string (s.extract 0 i), .string (s.extract (i + 1) s.size), .bool true]) ∧ ∃ n, w' = w.drewN n := by
  go_enter Try.func99, Try.ntmps99
  go_wp2_with (go_at_call 100; refine (Try.stringslite_Index_one s 0 _).mono ?_; rintro e w' ⟨rfl, rfl⟩; rw [hi])
  go_quiet (fail)
  go_wp2
  go_ret3
  exact ⟨rfl, _, rfl⟩
theorem cut_no (s : ByteArray) (w : World) (hi : Lib.indexByte s.data.toList 0 = -1) :
    Calls Try.prog 99 #[.string s, .string ⟨#[0]⟩] w fun e w' => e = .returned (.tuple #[.string s, .string ⟨#[]⟩, .bool false]) ∧ w' = w := by
  go_enter Try.func99, Try.ntmps99
  go_wp2_with (go_at_call 100; refine (Try.stringslite_Index_one s 0 _).mono ?_; rintro e w' ⟨rfl, rfl⟩; rw [hi])
  go_ret3
  exact ⟨rfl, rfl⟩

/-- The text in an array of characters: up to its first nought. -/
def endOf (s : ByteArray) : ByteArray := if Lib.indexByte s.data.toList 0 = -1 then s else s.extract 0 (Lib.indexByte s.data.toList 0).toNat

theorem index_lt (l : List UInt8) (c : UInt8) : Lib.indexByte l c < l.length ∨ Lib.indexByte l c = -1 := by
  induction l with
  | nil => right; rfl
  | cons b l ih =>
    unfold Lib.indexByte
    split
    · left; simp
    · split
      · right; rfl
      · rename_i h
        left
        rcases ih with ih | ih
        · simp; omega
        · simp [ih] at h

theorem cut65 (s : ByteArray) (v : Value) (w : World) (hv : ∃ x y z, v = .tuple #[.string x, .string y, .bool z]) (h : Calls Try.prog 99 #[.string s, .string ⟨#[0]⟩] w fun e w' => e = .returned v ∧ ∃ n, w' = w.drewN n) :
    Calls Try.prog 65 #[.string s, .string ⟨#[0]⟩] w fun e w' => e = .returned v ∧ ∃ n, w' = w.drewN n := by
  obtain ⟨x, y, z, rfl⟩ := hv
  go_enter Try.func65, Try.ntmps65
  go_wp2_with fail
  refine h.mono ?_
  rintro e w' ⟨rfl, n, rfl⟩
  go_wp2_with fail
  go_ret3
  exact ⟨rfl, _, rfl⟩
theorem text_any (s : ByteArray) (w : World) (hs : s.size ≤ 140737488351232) :
    Calls Try.prog 28 #[.string s] w fun e w' => e = .returned (.string (endOf s)) ∧ ∃ n, w' = w.drewN n := by
  unfold endOf
  have hge := Lib.indexByte_ge s.data.toList 0
  rcases index_lt s.data.toList 0 with h | h
  · obtain ⟨i, hi⟩ : ∃ i : Nat, Lib.indexByte s.data.toList 0 = i ∨ Lib.indexByte s.data.toList 0 = -1 := ⟨(Lib.indexByte s.data.toList 0).toNat, by omega⟩
    rcases hi with hi | hi
    · have hlt : i < s.size := by
        have : s.data.toList.length = s.size := by simp
        omega
      rw [if_neg (by omega), hi, Int.toNat_natCast]
      clear h hge
      have C := fun W => cut65 s _ W ⟨_, _, _, rfl⟩ (cut_yes s i W hi hlt hs)
      clear hi
      go_enter Try.func28, Try.ntmps28
      go_wp2_with (go_at_call 65; refine (C _).mono ?_; rintro e w' ⟨rfl, nd, rfl⟩)
      go_ret
      exact ⟨rfl, _, rfl⟩
    · rw [if_pos hi]
      have C := fun W => cut65 s _ W ⟨_, _, _, rfl⟩ ((cut_no s W hi).mono fun e w' h => ⟨h.1, 0, h.2⟩)
      clear hi h hge
      go_enter Try.func28, Try.ntmps28
      go_wp2_with (go_at_call 65; refine (C _).mono ?_; rintro e w' ⟨rfl, nd, rfl⟩)
      go_ret
      exact ⟨rfl, _, rfl⟩
  · rw [if_pos h]
    have C := fun W => cut65 s _ W ⟨_, _, _, rfl⟩ ((cut_no s W h).mono fun e w' h => ⟨h.1, 0, h.2⟩)
    clear h hge
    go_enter Try.func28, Try.ntmps28
    go_wp2_with (go_at_call 65; refine (C _).mono ?_; rintro e w' ⟨rfl, nd, rfl⟩)
    go_ret
    exact ⟨rfl, _, rfl⟩

open Go.Proofs.Ytkkgocbecnefnaa.PArithConsts Go.Proofs.YtkkgocbecnefnaaW.PrintWords in
theorem texts_any (op a b : ByteArray) (r1 r2 : Bool) (w : World) (ha : a.size ≤ 140737488351232) (hb : b.size ≤ 140737488351232)
    (h : arith_holds.f op (Lib.compareBytes (endOf a).data.toList (endOf b).data.toList) = some (r1, r2)) :
    Calls Try.prog 10 #[.string op, .string a, .string b] w fun e w' => e = .returned (.tuple #[.bool r1, .bool r2]) ∧ ∃ n, w' = w.drewN n := by
  go_enter Try.func10, Try.ntmps10
  go_wp2_with fail
  refine (text_any a _ ha).mono ?_
  rintro e w' ⟨rfl, n1, rfl⟩
  go_wp2_with fail
  refine (text_any b _ hb).mono ?_
  rintro e w' ⟨rfl, n2, rfl⟩
  go_wp2_with fail
  refine (Try.strings_Compare _ _ _).mono ?_
  rintro e w' ⟨rfl, rfl⟩
  go_wp2_with fail
  refine (arith_holds.calls _ _ _ _ _ h).mono ?_
  rintro e w' ⟨rfl, n3, rfl⟩
  go_wp2_with fail
  go_ret2
  exact ⟨rfl, by first | exact ⟨_, rfl⟩ | (simp only [World.drewN_drewN]; exact ⟨_, rfl⟩)⟩
end Go.Proofs.Ytkkgocbecnefnaa.Text
