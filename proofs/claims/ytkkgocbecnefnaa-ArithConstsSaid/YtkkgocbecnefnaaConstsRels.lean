/- The table of consts.Two is filled: the relations, over a map in no order. -/
import Derived.Test.YtkkgocbecnefnaaConstsFill
namespace Go.Proofs.Ytkkgocbecnefnaa.Rels
open Go.RowKit Go.Maps Go.Proofs.Ytkkgocbecnefnaa.Tab Go.Proofs.Ytkkgocbecnefnaa.Plain Go.Proofs.Ytkkgocbecnefnaa.Small Go.Proofs.Ytkkgocbecnefnaa.Fill Go.Proofs.YtkkgocbecnefnaaW.PrintWords Go.Proofs.YtkkgocbecnefnaaW.PrintLast Go.Proofs.YtkkgocbecnefnaaW.PrintMore
set_option linter.unusedVariables false
set_option linter.unusedSimpArgs false

abbrev fn (h : Nat) : Value := .func (.func h) #[] #[]
/-- The relations' functions, by their signs. -/
def relF (l : List UInt8) : Option Nat :=
  if l = (ByteArray.mk #[62, 61]).data.toList then some 95 else if l = (ByteArray.mk #[62]).data.toList then some 94 else if l = (ByteArray.mk #[60, 61]).data.toList then some 93 else if l = (ByteArray.mk #[60]).data.toList then some 92 else if l = (ByteArray.mk #[35]).data.toList then some 91 else if l = (ByteArray.mk #[61]).data.toList then some 90 else none
def D6 : DataW Value :=
  ((((((DataW.map (H := Value) []).put (.string (ByteArray.mk #[61]).data.toList) (.held (fn 90))).put (.string (ByteArray.mk #[35]).data.toList) (.held (fn 91))).put (.string (ByteArray.mk #[60]).data.toList) (.held (fn 92))).put (.string (ByteArray.mk #[60, 61]).data.toList) (.held (fn 93))).put (.string (ByteArray.mk #[62]).data.toList) (.held (fn 94))).put (.string (ByteArray.mk #[62, 61]).data.toList) (.held (fn 95))
theorem put_step {l : List UInt8} {D : DataW Value} {q : Option Nat} (h : IsMap D ∧ Maps.has D (.string l) = q.isSome ∧ ∀ f, q = some f → ∀ z, D.atKey (.string l) z = .held (fn f)) (x : List UInt8) (f : Nat) :
    IsMap (D.put (.string x) (.held (fn f))) ∧ Maps.has (D.put (.string x) (.held (fn f))) (.string l) = (if l = x then some f else q).isSome ∧ ∀ f', (if l = x then some f else q) = some f' → ∀ z, (D.put (.string x) (.held (fn f))).atKey (.string l) z = .held (fn f') := by
  refine ⟨h.1.put _ _, ?_⟩
  by_cases hl : l = x
  · subst hl
    have := fun z => MapFn.at_same h.1 (k := Lit.string l) trivial (.held (fn f)) z
    simp only [if_true]
    exact ⟨(this .nil).2, fun f' hf z => by cases hf; exact (this z).1⟩
  · have ne : (Lit.string l) ≠ Lit.string x := fun e => hl (by injection e)
    have := fun z => MapFn.at_other (D := D) ne (.held (fn f)) z
    simp only [if_neg hl]
    exact ⟨(this .nil).2.trans h.2.1, fun f' hf z => (this z).1.trans (h.2.2 f' hf z)⟩
theorem d6 (l : List UInt8) : Maps.has D6 (.string l) = (relF l).isSome ∧ ∀ f, relF l = some f → ∀ z, D6.atKey (.string l) z = .held (fn f) :=
  (put_step (put_step (put_step (put_step (put_step (put_step (q := none) ⟨isMap_empty, rfl, fun f hf => by cases hf⟩ _ _) _ _) _ _) _ _) _ _) _ _).2

@[local go_sem] theorem run_store_func {P : Program} {w : World} {a : Addr} {m : Mode} (q : Fn) (x y : Array Value) : (store a (.func q x y) m).run P w = stored P w a (.func q x y) m := run_store P w a _ m rfl

/-- Which forms a relation has. -/
def relOk (l : List UInt8) (a : Int) : Bool := decide (1 ≤ a) && decide (a ≤ 6) && (l == [61] || l == [35] || a == 1 || a == 3 || a == 6)
/-- The table, where the relations that are no more to come are in it. -/
def relSt (left : Lit → Bool) (st : St) : St := fun a b l => if a = b ∧ relOk l a = true ∧ left (.string l) = false ∧ (relF l).isSome = true then some (96, relF l) else st a b l

theorem grow_all {w w1 w2 : World} {g : Nat} {r : Option Nat} (h : w.grownBy w1 (some g)) (k : w1.grownBy w2 r) (hr : ∀ j, r = some j → w.heap.size ≤ j ∨ j = g) : w.grownBy w2 (some g) :=
  h.andThen k (fun j hj => (hr j hj).imp_right (fun e => by rw [e]))

theorem wf64 {n : Int} (h0 : -9223372036854775808 ≤ n) (h1 : n ≤ 9223372036854775807) : (Lit.int .i64 n).wf = true := by
  have := wrap64_wf n
  rwa [w64 h0 h1] at this
theorem relSt_start (st : St) : ∀ a b l, st a b l = relSt (Maps.has D6) st a b l := by
  intro a b l
  unfold relSt
  rw [if_neg]
  rintro ⟨_, _, h3, h4⟩
  rw [(d6 l).1, h4] at h3
  cases h3
theorem inv9 (key : Value) (kl : Lit) (h : keyOf Try.prog 9 key = some kl) : ∃ x : {s : ByteArray // s.size ≤ maxLen}, key = .string x.1 := by
  cases key <;> simp [keyOf, Try.underlying9, mapKey] at h
  rename_i s
  exact ⟨⟨s, h.1⟩, rfl⟩
theorem lit9 (x : {s : ByteArray // s.size ≤ maxLen}) (kl : Lit) (h : keyOf Try.prog 9 (.string x.1) = some kl) : kl = .string x.1.data.toList := by
  have := key9 x.1 x.2
  exact (Option.some.inj (this.symm.trans h)).symm

theorem iter_no {w : World} {b r n cnt : Nat} {D : DataW Value} {left : Lit → Bool} (h : w.ranges Try.prog 9 MapFn.RV b r n D left cnt) : ∀ a : Addr, a.block = r → w.cell? a = none := by
  obtain ⟨es, clock, since, seen, c0, _, _, _, _, hr, _⟩ := h
  intro a ha
  rw [← ha] at hr
  simp [World.cell?, hr]
theorem iter_ne {w : World} {b r n cnt g m : Nat} {D : DataW Value} {left : Lit → Bool} {st : St} (h : w.ranges Try.prog 9 MapFn.RV b r n D left cnt) (T : Tab w g m st) : g ≠ r := by
  obtain ⟨es, clock, since, seen, c0, _, _, _, _, hr, _⟩ := h
  obtain ⟨D', ⟨es', clock', hb, _⟩, _⟩ := T
  intro e
  rw [e, hr] at hb
  cases hb
/-- The table in the midst of one relation's forms. -/
def relIn (x4 : Int) (X : List UInt8) (f : Nat) (st : St) : St := fun a b l => if a = b ∧ a < x4 ∧ relOk l a = true ∧ l = X then some (96, some f) else st a b l
theorem relIn_start (X : List UInt8) (f : Nat) (st : St) : ∀ a b l, st a b l = relIn 1 X f st a b l := by
  intro a b l
  unfold relIn
  rw [if_neg]
  rintro ⟨_, h2, h3, _⟩
  simp only [relOk, Bool.and_eq_true, decide_eq_true_eq] at h3
  omega
theorem relIn_put (x4 : Int) (X : List UInt8) (f : Nat) (st : St) (h : relOk X x4 = true) : ∀ a b l, upd (relIn x4 X f st) x4 x4 X (96, some f) a b l = relIn (x4 + 1) X f st a b l := by
  intro a b l
  unfold upd relIn
  by_cases hx : a = x4 ∧ b = x4 ∧ l = X
  · obtain ⟨rfl, rfl, rfl⟩ := hx
    rw [if_pos ⟨rfl, rfl, rfl⟩, if_pos ⟨rfl, by omega, h, rfl⟩]
  · rw [if_neg hx]
    by_cases hy : a = b ∧ a < x4 ∧ relOk l a = true ∧ l = X
    · rw [if_pos hy, if_pos ⟨hy.1, by omega, hy.2.2⟩]
    · rw [if_neg hy, if_neg]
      rintro ⟨h1, h2, h3, h4⟩
      by_cases hq : a = x4
      · exact hx ⟨hq, by omega, h4⟩
      · exact hy ⟨h1, by omega, h3, h4⟩
theorem relIn_skip (x4 : Int) (X : List UInt8) (f : Nat) (st : St) (h : relOk X x4 = false) : ∀ a b l, relIn x4 X f st a b l = relIn (x4 + 1) X f st a b l := by
  intro a b l
  unfold relIn
  by_cases hy : a = b ∧ a < x4 ∧ relOk l a = true ∧ l = X
  · rw [if_pos hy, if_pos ⟨hy.1, by omega, hy.2.2⟩]
  · rw [if_neg hy, if_neg]
    rintro ⟨h1, h2, h3, h4⟩
    by_cases hq : a = x4
    · subst hq; subst h4; rw [h] at h3; cases h3
    · exact hy ⟨h1, by omega, h3, h4⟩
theorem relIn_end (X : List UInt8) (f : Nat) (left : Lit → Bool) (st : St) (hf : relF X = some f) (hl : left (.string X) = true) :
    ∀ a b l, relIn 7 X f (relSt left st) a b l = relSt (fun z => left z && !z.sameKey (.string X)) st a b l := by
  intro a b l
  unfold relIn relSt
  by_cases hX : l = X
  · subst hX
    rw [if_neg (c := a = b ∧ relOk l a = true ∧ left (Lit.string l) = false ∧ (relF l).isSome = true) (by rintro ⟨_, _, h, _⟩; rw [hl] at h; cases h)]
    have hs : (left (Lit.string l) && !(Lit.string l).sameKey (Lit.string l)) = false := by simp [Lit.sameKey]
    by_cases hab : a = b ∧ relOk l a = true
    · have h7 : a < 7 := by
        have := hab.2
        simp only [relOk, Bool.and_eq_true, decide_eq_true_eq] at this
        omega
      rw [if_pos ⟨hab.1, h7, hab.2, rfl⟩, if_pos ⟨hab.1, hab.2, hs, by rw [hf]; rfl⟩, hf]
    · rw [if_neg (fun h => hab ⟨h.1, h.2.2.1⟩), if_neg (fun h => hab ⟨h.1, h.2.1⟩)]
  · rw [if_neg (c := a = b ∧ a < 7 ∧ relOk l a = true ∧ l = X) (fun h => hX h.2.2.2)]
    have hs : (left (Lit.string l) && !(Lit.string l).sameKey (Lit.string X)) = left (Lit.string l) := by simp [Lit.sameKey, hX]
    show _ = if a = b ∧ relOk l a = true ∧ (left (Lit.string l) && !(Lit.string l).sameKey (Lit.string X)) = false ∧ (relF l).isSome = true then some (96, relF l) else st a b l
    rw [hs]

set_option maxRecDepth 100000 in
set_option maxHeartbeats 8000000 in
theorem relations_any (g n : Nat) (st : St) (w : World) (T : Tab w g n st) (hn : n < 50) :
    Calls Try.prog 57 #[.map (some g)] w fun e w' => e = .returned (.tuple #[]) ∧ (∃ m, m ≤ n + 36 ∧ Tab w' g m (relSt (fun _ => false) st)) ∧ w.grownBy w' (some g) := by
  have hmm := @run_makeMap Try.prog
  have hlt := T.lt
  have hne : w.heap.size ≠ g := by omega
  have h0 : (w.alloc (.map #[] 0)).ownsMap Try.prog 9 MapFn.RV w.heap.size 0 (.map []) := World.ownsMap_made w Try.prog 9 MapFn.RV
  have hg0 : Aside0 (w.grownBy (w.alloc (.map #[] 0)) none) := ⟨World.grownBy_alloc w _ none⟩
  go_enter Try.func57, Try.ntmps57
  go_wp2_with (first
    | (refine MapFn.insert_held _ rfl _ _ _ 95 rfl 9 94 K9 Try.underlying95 _ _ _ rfl (by assumption) (by unfold maxLen; omega) _ _ _ rfl rfl (key9 _ (by unfold maxLen; decide)) ?_; intro w1 hown1 hgrow1;
       have hg0 : Aside0 (w.grownBy w1 none) := ⟨World.grownBy.andThen (Aside0.out (by assumption)) hgrow1 (fun j hj => by cases hj; exact Or.inl (Nat.le_refl _))⟩)
    | (at_range; refine wpList_range_own _ rfl _ 95 rfl 9 94 K9 Try.underlying95 _ _ _ _ rfl (by assumption) ?_; intro w7 hrg0 hg7 hs7))
  have hr1 : w.heap.size < w1.heap.size := hown1.lt
  have G7 : w.grownBy w7 none := World.grownBy.andThen hg0.out hg7 (by simp)
  have T7 : Tab w7 g n (relSt (Maps.has D6) st) := (T.kept G7 (by simp) (by simp)).alike (relSt_start st)
  have hrg : w7.ranges Try.prog 9 MapFn.RV w.heap.size w1.heap.size 6 D6 (Maps.has D6) (Maps.size D6) := hrg0
  have hsz : Maps.size D6 ≤ 6 := hown1.size_le
  clear hrg0 hg7 hs7 hown1 hgrow1 hg0 hmm h0
  generalize w1.heap.size = R at *
  try go_frame
  go_loopw [2] (fun _ wr => ∃ left cnt m, wr.ranges Try.prog 9 MapFn.RV w.heap.size R 6 D6 left cnt ∧ Tab wr g m (relSt left st) ∧ m + 6 * cnt ≤ n + 36 ∧ w.grownBy wr (some g) ∧ (∀ kl, left kl = true → Maps.has D6 kl = true))
    (fun _ wr => wr.rangeLeft w.heap.size R)
  case atStart => exact ⟨_, _, n, hrg, T7, by omega, G7.but _, fun _ h => h⟩
  case round =>
    obtain ⟨left, cnt, m, hrg1, T1, hm, G1, hin⟩ := hrel
    go_wp2_with (at_next; refine wpList_next_ranges _ rfl _ rfl 9 K9 MapFn.RV (fun x : {s : ByteArray // s.size ≤ maxLen} => Value.string x.1) (fun v => v) inv9 (fun v y _ => ⟨v, rfl⟩) w.heap.size R 6 D6 _ _ rfl hrg1 ?_ ?_)
    · intro hc0 hl0
      go_wp2_with fail
      go_end0
      have : left = fun _ => false := funext hl0
      rw [← this]
      exact ⟨rfl, ⟨m, by omega, T1⟩, G1⟩
    · intro x hx c kl y ps w2 cnt2 hkl hlk hy hat hrg2 hlt2 hg2 hs2 hen
      obtain rfl := lit9 ⟨x, hx⟩ kl hkl
      obtain ⟨f, hf⟩ : ∃ f, relF x.data.toList = some f := Option.isSome_iff_exists.1 (by rw [← (d6 _).1]; exact hin _ hlk)
      have hc : c = fn f := by
        have h1 := hat .nil
        rw [(d6 _).2 f hf] at h1
        simp only [MapFn.RV, Option.some.injEq, Prod.mk.injEq] at hy
        rw [← hy.1] at h1
        injection h1 with h1
        exact h1.symm
      subst hc
      clear hat hkl hy
      have hs2' := Aside0.mk hs2
      clear hs2
      go_wp2_with fail
      have gg : w2.grownBy (w2.alloc (.cells #[fn f] 94)) none := World.grownBy_alloc w2 _ none
      have T2 := (T1.kept hg2 (by intro e; exact iter_ne hrg1 T1 (Option.some.inj e)) (by intro r hr; cases hr; exact iter_no hrg1)).kept gg (by simp) (by simp)
      have G2 := (grow_all G1 hg2 (by intro j hj; cases hj; left; omega)).trans (gg.but (some g))
      have hrg3 := hrg2.kept gg (by simp) (by simp)
      have hcb : (w2.alloc (.cells #[fn f] 94)).cell? ⟨w2.heap.size, 0, none⟩ = some (fn f) := cell_new _ _ _
      have hgb : w2.heap.size ≠ g := by
        have := T1.lt
        have := hg2.size
        omega
      clear gg hen hg2
      go_loopg [4] 7 (fun kq v4 w' => ∃ x4 m', v4 = .int .i64 x4 ∧ 1 ≤ x4 ∧ x4 + kq = 8 ∧ 0 < kq ∧ Tab w' g m' (relIn x4 x.data.toList f (relSt left st)) ∧ m' + 1 ≤ m + x4 ∧ w'.ranges Try.prog 9 MapFn.RV w.heap.size R 6 D6 (fun z => left z && !z.sameKey (.string x.data.toList)) cnt2 ∧ w.grownBy w' (some g) ∧ w'.cell? ⟨w2.heap.size, 0, none⟩ = some (fn f))
      case atStart => exact ⟨1, m, rfl, by decide, by decide, by decide, T2.alike (relIn_start _ _ _), by omega, hrg3, G2, hcb⟩
      case round =>
        obtain ⟨x4, m4, rfl, x1, xk, k0, T4, hm4, hrg4, G4, hcb4⟩ := hrel
        have hL := hrg1.left_eq
        have hRg : g ≠ R := iter_ne hrg1 T1
        clear T1 T2 G1 G2 hrg1 hrg2 hrg3 hcb T7 G7 hrg
        have hew : wrap64 (x4 + 1) = x4 + 1 := w64 (by omega) (by omega)
        by_cases hx6 : x4 ≤ 6
        · have d6' : decide (x4 ≤ 6) = true := decide_eq_true hx6
          have eX : (x.toList == [61]) = (x.data.toList == [61]) := by rw [Lib.toList_data]
          have eY : (x.toList == [35]) = (x.data.toList == [35]) := by rw [Lib.toList_data]
          have hRO : relOk x.data.toList x4 = ((x.data.toList == [61]) || (x.data.toList == [35]) || (x4 == 1) || (x4 == 3) || (x4 == 6)) := by
            unfold relOk
            rw [decide_eq_true x1, decide_eq_true hx6]; simp
          have hwf : (Lit.int .i64 x4).wf = true := wf64 (by omega) (by omega)
          by_cases e0 : (x.toList == ([61] : List UInt8)) = true
          · have e1 : (x.toList == ([61] : List UInt8)) = true := e0
            have e2 : (x.toList != ([61] : List UInt8)) = false := by simp [bne, e1]
            have hP : Aside0 (relOk x.data.toList x4 = true) := ⟨by rw [hRO, ← eX, ← eY, e1]; simp⟩
            clear hRO eX eY
            go_wp2_with (refine put_tab _ rfl _ _ _ rfl g m4 _ T4 (by unfold maxLen; omega) rfl _ _ x (96, some f) _ rfl rfl hwf hwf hx ⟨rfl, _, hgb, rfl, hcb4⟩ ?_; intro w6 T6 hg6)
            go_roundg (gk - 1)
            case measure => omega
            case rel => exact ⟨_, m4 + 1, by first | rfl | (simp [hew]; done), by omega, by omega, by omega, T6.alike (relIn_put _ _ f _ hP.out), by omega, hrg4.kept hg6 (by intro e; exact hne (Option.some.inj e)) (by intro e; exact hRg (Option.some.inj e).symm), G4.trans hg6, cell_grown hg6 hcb4 hgb⟩
          · have e1 : (x.toList == ([61] : List UInt8)) = false := Bool.eq_false_iff.2 e0
            clear e0
            by_cases h0 : (x.toList == ([35] : List UInt8)) = true
            · have h1 : (x.toList == ([35] : List UInt8)) = true := h0
              have e2 : (x.toList != ([61] : List UInt8)) = true := by simp [bne, e1]
              have h2 : (x.toList != ([35] : List UInt8)) = false := by simp [bne, h1]
              have hP : Aside0 (relOk x.data.toList x4 = true) := ⟨by rw [hRO, ← eX, ← eY, e1, h1]; simp⟩
              clear hRO eX eY
              go_wp2_with (refine put_tab _ rfl _ _ _ rfl g m4 _ T4 (by unfold maxLen; omega) rfl _ _ x (96, some f) _ rfl rfl hwf hwf hx ⟨rfl, _, hgb, rfl, hcb4⟩ ?_; intro w6 T6 hg6)
              go_roundg (gk - 1)
              case measure => omega
              case rel => exact ⟨_, m4 + 1, by first | rfl | (simp [hew]; done), by omega, by omega, by omega, T6.alike (relIn_put _ _ f _ hP.out), by omega, hrg4.kept hg6 (by intro e; exact hne (Option.some.inj e)) (by intro e; exact hRg (Option.some.inj e).symm), G4.trans hg6, cell_grown hg6 hcb4 hgb⟩
            · have h1 : (x.toList == ([35] : List UInt8)) = false := Bool.eq_false_iff.2 h0
              clear h0
              by_cases o10 : (x4 == 1) = true
              · have o11 : (x4 == 1) = true := o10
                have e2 : (x.toList != ([61] : List UInt8)) = true := by simp [bne, e1]
                have h2 : (x.toList != ([35] : List UInt8)) = true := by simp [bne, h1]
                have hq : x4 = 1 := by simpa using o11
                have hP : Aside0 (relOk x.data.toList x4 = true) := ⟨by rw [hRO, ← eX, ← eY, e1, h1, o11]; simp⟩
                clear hRO eX eY
                subst hq
                go_wp2_with (refine put_tab _ rfl _ _ _ rfl g m4 _ T4 (by unfold maxLen; omega) rfl _ _ x (96, some f) _ rfl rfl hwf hwf hx ⟨rfl, _, hgb, rfl, hcb4⟩ ?_; intro w6 T6 hg6)
                go_roundg (gk - 1)
                case measure => omega
                case rel => exact ⟨_, m4 + 1, by first | rfl | (simp [hew]; done), by omega, by omega, by omega, T6.alike (relIn_put _ _ f _ hP.out), by omega, hrg4.kept hg6 (by intro e; exact hne (Option.some.inj e)) (by intro e; exact hRg (Option.some.inj e).symm), G4.trans hg6, cell_grown hg6 hcb4 hgb⟩
              · have o11 : (x4 == 1) = false := Bool.eq_false_iff.2 o10
                clear o10
                by_cases o30 : (x4 == 3) = true
                · have o31 : (x4 == 3) = true := o30
                  have e2 : (x.toList != ([61] : List UInt8)) = true := by simp [bne, e1]
                  have h2 : (x.toList != ([35] : List UInt8)) = true := by simp [bne, h1]
                  have o12 : (x4 != 1) = true := by simp [bne, o11]
                  have hq : x4 = 3 := by simpa using o31
                  have hP : Aside0 (relOk x.data.toList x4 = true) := ⟨by rw [hRO, ← eX, ← eY, e1, h1, o11, o31]; simp⟩
                  clear hRO eX eY
                  subst hq
                  go_wp2_with (refine put_tab _ rfl _ _ _ rfl g m4 _ T4 (by unfold maxLen; omega) rfl _ _ x (96, some f) _ rfl rfl hwf hwf hx ⟨rfl, _, hgb, rfl, hcb4⟩ ?_; intro w6 T6 hg6)
                  go_roundg (gk - 1)
                  case measure => omega
                  case rel => exact ⟨_, m4 + 1, by first | rfl | (simp [hew]; done), by omega, by omega, by omega, T6.alike (relIn_put _ _ f _ hP.out), by omega, hrg4.kept hg6 (by intro e; exact hne (Option.some.inj e)) (by intro e; exact hRg (Option.some.inj e).symm), G4.trans hg6, cell_grown hg6 hcb4 hgb⟩
                · have o31 : (x4 == 3) = false := Bool.eq_false_iff.2 o30
                  clear o30
                  by_cases o60 : (x4 == 6) = true
                  · have o61 : (x4 == 6) = true := o60
                    have e2 : (x.toList != ([61] : List UInt8)) = true := by simp [bne, e1]
                    have h2 : (x.toList != ([35] : List UInt8)) = true := by simp [bne, h1]
                    have o12 : (x4 != 1) = true := by simp [bne, o11]
                    have o32 : (x4 != 3) = true := by simp [bne, o31]
                    have hq : x4 = 6 := by simpa using o61
                    have hP : Aside0 (relOk x.data.toList x4 = true) := ⟨by rw [hRO, ← eX, ← eY, e1, h1, o11, o31, o61]; simp⟩
                    clear hRO eX eY
                    subst hq
                    go_wp2_with (refine put_tab _ rfl _ _ _ rfl g m4 _ T4 (by unfold maxLen; omega) rfl _ _ x (96, some f) _ rfl rfl hwf hwf hx ⟨rfl, _, hgb, rfl, hcb4⟩ ?_; intro w6 T6 hg6)
                    go_roundg (gk - 1)
                    case measure => omega
                    case rel => exact ⟨_, m4 + 1, by first | rfl | (simp [hew]; done), by omega, by omega, by omega, T6.alike (relIn_put _ _ f _ hP.out), by omega, hrg4.kept hg6 (by intro e; exact hne (Option.some.inj e)) (by intro e; exact hRg (Option.some.inj e).symm), G4.trans hg6, cell_grown hg6 hcb4 hgb⟩
                  · have o61 : (x4 == 6) = false := Bool.eq_false_iff.2 o60
                    clear o60
                    have e2 : (x.toList != ([61] : List UInt8)) = true := by simp [bne, e1]
                    have h2 : (x.toList != ([35] : List UInt8)) = true := by simp [bne, h1]
                    have o12 : (x4 != 1) = true := by simp [bne, o11]
                    have o32 : (x4 != 3) = true := by simp [bne, o31]
                    have o62 : (x4 != 6) = true := by simp [bne, o61]
                    have hP : Aside0 (relOk x.data.toList x4 = false) := ⟨by rw [hRO, ← eX, ← eY, e1, h1, o11, o31, o61]; rfl⟩
                    clear hRO eX eY
                    go_wp2_with fail
                    go_roundg (gk - 1)
                    case measure => omega
                    case rel => exact ⟨_, m4, by first | rfl | (simp [hew]; done), by omega, by omega, by omega, T4.alike (relIn_skip _ _ f _ hP.out), by omega, hrg4, G4, hcb4⟩
        · have d6' : decide (x4 ≤ 6) = false := decide_eq_false hx6
          obtain rfl : x4 = 7 := by omega
          have T5 := T4.alike (relIn_end _ f left st hf hlk)
          go_wp2_with fail
          go_roundw
          case rel => exact ⟨_, cnt2, m4, hrg4, T5, by omega, G4, fun kl hk => hin kl (by simp only [Bool.and_eq_true] at hk; exact hk.1)⟩
          case measure =>
            rw [hrg4.left_eq, hL]; exact hlt2
end Go.Proofs.Ytkkgocbecnefnaa.Rels
