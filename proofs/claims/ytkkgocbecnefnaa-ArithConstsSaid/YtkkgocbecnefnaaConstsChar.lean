/- A text of one byte as a character, walked; the truths' operations fill the table. -/
import Derived.Test.YtkkgocbecnefnaaConstsRels
import Derived.Test.YtkkgocbecnefnaaConstsRel
import Derived.Test.YtkkgocbecnefnaaConstsClo
namespace Go.Proofs.Ytkkgocbecnefnaa.Rels
open Go.RowKit Go.Maps Go.Proofs.Ytkkgocbecnefnaa.Tab Go.Proofs.Ytkkgocbecnefnaa.Plain Go.Proofs.Ytkkgocbecnefnaa.Small Go.Proofs.Ytkkgocbecnefnaa.Fill Go.Proofs.YtkkgocbecnefnaaW.PrintWords Go.Proofs.YtkkgocbecnefnaaW.PrintLast Go.Proofs.YtkkgocbecnefnaaW.PrintMore
set_option linter.unusedVariables false
set_option linter.unusedSimpArgs false

/-- The byte of a text of one. -/
def byte0 (t : ByteArray) : Int := (t.data.toList.headD 0).toNat
def charR (f n : Int) (t : ByteArray) : Int × Int × ByteArray := if f = 6 ∧ t.size = 1 then (3, byte0 t, E0) else (f, n, t)
abbrev VC (r : Int × Int × ByteArray) : Value := V r.1 r.2.1 r.2.2
set_option maxRecDepth 100000 in
set_option maxHeartbeats 4000000 in
theorem char_any (f n : Int) (t : ByteArray) (w : World) : Calls Try.prog 54 #[V f n t] w fun e w' => e = .returned (VC (charR f n t)) ∧ Below w.heap.size w w' := by
  unfold charR
  by_cases h6 : f = 6
  · subst h6
    by_cases h1 : t.size = 1
    · rw [if_pos ⟨rfl, h1⟩]
      obtain ⟨⟨l⟩⟩ := t
      have hl : l.length = 1 := h1
      obtain ⟨b, rfl⟩ := List.length_eq_one_iff.1 hl
      have hb : (ByteArray.mk ⟨[b]⟩).toList = [b] := by rw [Lib.toList_data]
      have hs : (ByteArray.mk ⟨[b]⟩).size = 1 := rfl
      clear h1 hl
      go_enter Try.func54, Try.ntmps54
      go_wp2_with fail
      refine bodyPost_ret (v := _) (by first | (simp [results, Try.results54, go_sem, *]; done) | (simp [results, Try.results54, go_sem, *]; rfl)) rfl ⟨?_, ?_⟩
      · have hq := b.toNat_lt
        show Ending.returned (V 3 (wrap64 (b.toNat : Int)) E0) = _
        rw [w64 (by omega) (by omega)]; rfl
      · (repeat (first | (with_reducible exact Below.refl _ _) | (with_reducible exact Aside0.out (by assumption)) | (with_reducible apply below_alloc) | (with_reducible apply pw_below_drewN) | (with_reducible apply Below.drew) | ((with_reducible refine Below.setCell ?_ ?_ _); rotate_left; (first | (simp; done) | (simp; omega) | exact Nat.le_refl _))))
    · rw [if_neg (fun h => h1 h.2)]
      have d1 : ((t.size : Int) == 1) = false := by simp; omega
      clear h1
      go_enter Try.func54, Try.ntmps54
      go_wp2_with fail
      refine bodyPost_ret (v := _) (by first | (simp [results, Try.results54, go_sem, *]; done) | (simp [results, Try.results54, go_sem, *]; rfl)) rfl ⟨rfl, ?_⟩
      (repeat (first | (with_reducible exact Below.refl _ _) | (with_reducible exact Aside0.out (by assumption)) | (with_reducible apply below_alloc) | (with_reducible apply pw_below_drewN) | (with_reducible apply Below.drew) | ((with_reducible refine Below.setCell ?_ ?_ _); rotate_left; (first | (simp; done) | (simp; omega) | exact Nat.le_refl _))))
  · rw [if_neg (fun h => h6 h.1)]
    have d1 : (f == 6) = false := beq_eq_false_iff_ne.2 h6
    clear h6
    go_enter Try.func54, Try.ntmps54
    go_wp2_with fail
    refine bodyPost_ret (v := _) (by first | (simp [results, Try.results54, go_sem, *]; done) | (simp [results, Try.results54, go_sem, *]; rfl)) rfl ⟨rfl, ?_⟩
    (repeat (first | (with_reducible exact Below.refl _ _) | (with_reducible exact Aside0.out (by assumption)) | (with_reducible apply below_alloc) | (with_reducible apply pw_below_drewN) | (with_reducible apply Below.drew) | ((with_reducible refine Below.setCell ?_ ?_ _); rotate_left; (first | (simp; done) | (simp; omega) | exact Nat.le_refl _))))

/-- The truths' functions, by their signs. -/
def booF (l : List UInt8) : Option Nat := if l = (ByteArray.mk #[79, 82]).data.toList then some 59 else if l = (ByteArray.mk #[38]).data.toList then some 58 else none
def D2 : DataW Value := ((DataW.map (H := Value) []).put (.string (ByteArray.mk #[38]).data.toList) (.held (fn 58))).put (.string (ByteArray.mk #[79, 82]).data.toList) (.held (fn 59))
theorem d2 (l : List UInt8) : Maps.has D2 (.string l) = (booF l).isSome ∧ ∀ f, booF l = some f → ∀ z, D2.atKey (.string l) z = .held (fn f) :=
  (put_step (put_step (q := none) ⟨isMap_empty, rfl, fun f hf => by cases hf⟩ _ _) _ _).2
def booSt (left : Lit → Bool) (st : St) : St := fun a b l => if a = 2 ∧ b = 2 ∧ left (.string l) = false ∧ (booF l).isSome = true then some (60, booF l) else st a b l
theorem booSt_start (st : St) : ∀ a b l, st a b l = booSt (Maps.has D2) st a b l := by
  intro a b l
  unfold booSt
  rw [if_neg]
  rintro ⟨_, _, h3, h4⟩
  rw [(d2 l).1, h4] at h3
  cases h3
theorem booSt_put (X : List UInt8) (f : Nat) (left : Lit → Bool) (st : St) (hf : booF X = some f) : ∀ a b l, upd (booSt left st) 2 2 X (60, some f) a b l = booSt (fun z => left z && !z.sameKey (.string X)) st a b l := by
  intro a b l
  unfold upd booSt
  by_cases hX : l = X
  · subst hX
    have hs : (left (Lit.string l) && !(Lit.string l).sameKey (Lit.string l)) = false := by simp [Lit.sameKey]
    by_cases hab : a = 2 ∧ b = 2
    · rw [if_pos ⟨hab.1, hab.2, rfl⟩, if_pos ⟨hab.1, hab.2, hs, by rw [hf]; rfl⟩, hf]
    · rw [if_neg (fun h => hab ⟨h.1, h.2.1⟩), if_neg (fun h => hab ⟨h.1, h.2.1⟩), if_neg (fun h => hab ⟨h.1, h.2.1⟩)]
  · rw [if_neg (fun h => hX h.2.2)]
    have hs : (left (Lit.string l) && !(Lit.string l).sameKey (Lit.string X)) = left (Lit.string l) := by simp [Lit.sameKey, hX]
    show _ = if a = 2 ∧ b = 2 ∧ (left (Lit.string l) && !(Lit.string l).sameKey (Lit.string X)) = false ∧ (booF l).isSome = true then some (60, booF l) else st a b l
    rw [hs]
/-- The whole table. -/
def total : St := booSt (fun _ => false) (relSt (fun _ => false) (st2 (st1 (fun _ _ _ => none))))
end Go.Proofs.Ytkkgocbecnefnaa.Rels
