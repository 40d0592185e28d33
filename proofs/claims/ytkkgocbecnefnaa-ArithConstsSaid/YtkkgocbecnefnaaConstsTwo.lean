/- consts.Two, walked. -/
import Derived.Test.YtkkgocbecnefnaaConstsChar
namespace Go.Proofs.Ytkkgocbecnefnaa.Two
open Go.RowKit Go.Maps Go.Proofs.Ytkkgocbecnefnaa.Tab Go.Proofs.Ytkkgocbecnefnaa.Plain Go.Proofs.Ytkkgocbecnefnaa.Small Go.Proofs.Ytkkgocbecnefnaa.Fill Go.Proofs.Ytkkgocbecnefnaa.Rels Go.Proofs.Ytkkgocbecnefnaa.Clo Go.Proofs.YtkkgocbecnefnaaW.PrintWords Go.Proofs.YtkkgocbecnefnaaW.PrintLast Go.Proofs.YtkkgocbecnefnaaW.PrintMore
set_option linter.unusedVariables false
set_option linter.unusedSimpArgs false

attribute [local go_sem] run_store_func
theorem wp_of_world {p : Program} {c : Code} {Q : Exit → Act → World → Prop} {a : Act} {w0 : World} (S : World → Prop) (h : S w0) (hw : ∀ w, S w → Code.wp p c Q a w) : Code.wp p c Q a w0 := hw w0 h
abbrev blk (w : World) (g : Nat) (f n : Int) (t : ByteArray) : Prop := w.heap[g]? = some (.cells #[.int .i64 f, .int .i64 n, .string t] 42 (0, 0))
/-- The three boxes of Two: its values and its result. -/
structure Sta (w W : World) (fa na fb nb fr nr : Int) (ta tb tr : ByteArray) : Prop where
  a : blk W w.heap.size fa na ta
  b : blk W (w.heap.size + 1) fb nb tb
  r : blk W (w.heap.size + 1 + 1) fr nr tr
  below : Below w.heap.size w W
theorem Sta.step {w W W2 : World} {fa na fb nb fr nr : Int} {ta tb tr : ByteArray} (h : Sta w W fa na fb nb fr nr ta tb tr) (k : Below W.heap.size W W2) : Sta w W2 fa na fb nb fr nr ta tb tr :=
  ⟨blk_below h.a k, blk_below h.b k, blk_below h.r k, below_step h.below k⟩
theorem Sta.start (w : World) (fa na fb nb : Int) (ta tb : ByteArray) :
    Sta w (((w.alloc (.cells #[.int .i64 fa, .int .i64 na, .string ta] 42)).alloc (.cells #[.int .i64 fb, .int .i64 nb, .string tb] 42)).alloc (.cells #[.int .i64 0, .int .i64 0, .string E0] 42)) fa na fb nb 0 0 ta tb E0 := by
  have e1 : (w.alloc (.cells #[.int .i64 fa, .int .i64 na, .string ta] 42)).heap.size = w.heap.size + 1 := by simp
  have e2 : ((w.alloc (.cells #[.int .i64 fa, .int .i64 na, .string ta] 42)).alloc (.cells #[.int .i64 fb, .int .i64 nb, .string tb] 42)).heap.size = w.heap.size + 1 + 1 := by simp
  refine ⟨blk_alloc (blk_alloc (MapKept.heap_alloc w _).1 _) _, ?_, ?_, by (repeat (first | (with_reducible exact Below.refl _ _) | (with_reducible exact Aside0.out (by assumption)) | (with_reducible apply below_alloc) | (with_reducible apply pw_below_drewN) | (with_reducible apply Below.drew) | ((with_reducible refine Below.setCell ?_ ?_ _); rotate_left; (first | (simp; done) | (simp; omega) | exact Nat.le_refl _))))⟩
  · have := blk_alloc (MapKept.heap_alloc (w.alloc (.cells #[.int .i64 fa, .int .i64 na, .string ta] 42)) (.cells #[.int .i64 fb, .int .i64 nb, .string tb] 42)).1 (.cells #[.int .i64 0, .int .i64 0, .string E0] 42)
    rwa [e1] at this
  · have := (MapKept.heap_alloc ((w.alloc (.cells #[.int .i64 fa, .int .i64 na, .string ta] 42)).alloc (.cells #[.int .i64 fb, .int .i64 nb, .string tb] 42)) (.cells #[.int .i64 0, .int .i64 0, .string E0] 42)).1
    rwa [e2] at this
theorem put3 {W : World} {g : Nat} {f n f' n' : Int} {t t' : ByteArray} (h : blk W g f n t) : blk (((W.setCell ⟨g, 0, none⟩ (.int .i64 f')).setCell ⟨g, 1, none⟩ (.int .i64 n')).setCell ⟨g, 2, none⟩ (.string t')) g f' n' t' :=
  blk_set (blk_set (blk_set h 0 (.int .i64 f')) 1 (.int .i64 n')) 2 (.string t')
theorem far3 {W : World} {g q : Nat} {f n f' n' : Int} {t t' : ByteArray} (h : blk W g f n t) (hq : g ≠ q) : blk (((W.setCell ⟨q, 0, none⟩ (.int .i64 f')).setCell ⟨q, 1, none⟩ (.int .i64 n')).setCell ⟨q, 2, none⟩ (.string t')) g f n t :=
  blk_far (blk_far (blk_far h hq _) hq _) hq _
theorem Sta.putA {w W : World} {fa na fb nb fr nr : Int} {ta tb tr : ByteArray} (h : Sta w W fa na fb nb fr nr ta tb tr) (f n : Int) (t : ByteArray) :
    Sta w (((W.setCell ⟨w.heap.size, 0, none⟩ (.int .i64 f)).setCell ⟨w.heap.size, 1, none⟩ (.int .i64 n)).setCell ⟨w.heap.size, 2, none⟩ (.string t)) f n fb nb fr nr t tb tr :=
  ⟨put3 h.a, far3 h.b (by omega), far3 h.r (by omega), ((h.below.setCell (Nat.le_refl _) _).setCell (Nat.le_refl _) _).setCell (Nat.le_refl _) _⟩
theorem Sta.putB {w W : World} {fa na fb nb fr nr : Int} {ta tb tr : ByteArray} (h : Sta w W fa na fb nb fr nr ta tb tr) (f n : Int) (t : ByteArray) :
    Sta w (((W.setCell ⟨w.heap.size + 1, 0, none⟩ (.int .i64 f)).setCell ⟨w.heap.size + 1, 1, none⟩ (.int .i64 n)).setCell ⟨w.heap.size + 1, 2, none⟩ (.string t)) fa na f n fr nr ta t tr :=
  ⟨far3 h.a (by omega), put3 h.b, far3 h.r (by omega), ((h.below.setCell (Nat.le_succ _) _).setCell (Nat.le_succ _) _).setCell (Nat.le_succ _) _⟩

set_option maxRecDepth 100000 in
set_option maxHeartbeats 8000000 in
theorem two_none (op : ByteArray) (fa na fb nb : Int) (ta tb : ByteArray) (ga gb : Bool) (w : World) (hg : (ga && gb) = false)
    (A : ∀ W, Calls Try.prog 53 #[V fa na ta] W fun e w' => e = .returned (.bool ga) ∧ Below W.heap.size W w')
    (B : ∀ W, Calls Try.prog 53 #[V fb nb tb] W fun e w' => e = .returned (.bool gb) ∧ Below W.heap.size W w') :
    Calls Try.prog 24 #[.string op, V fa na ta, V fb nb tb] w fun e w' => e = .returned (VE 0 0 E0 120) ∧ Below w.heap.size w w' := by
  have A := Aside0.mk A
  have B := Aside0.mk B
  go_enter Try.func24, Try.ntmps24
  go_upto_region 1 with (fail)
  refine wp_of_world (fun w' => Sta w w' fa na fb nb 0 0 ta tb E0) (Sta.start w fa na fb nb ta tb) ?_
  intro w1 S1
  obtain ⟨a0, a1, a2, af0, af1, af2⟩ := cells3 S1.a
  go_wp2_with fail
  refine (A.out _).mono ?_
  rintro e w2 ⟨rfl, hb2⟩
  have S2 := S1.step hb2
  clear a0 a1 a2 af0 af1 af2 S1 hb2
  obtain ⟨b0, b1, b2, bf0, bf1, bf2⟩ := cells3 S2.b
  obtain ⟨r0, r1, r2, rf0, rf1, rf2⟩ := cells3 S2.r
  have G2 := Aside0.mk S2.below
  cases ga
  · clear b0 b1 b2 bf0 bf1 bf2
    go_wp2_with fail
    refine bodyPost_ret (v := _) (by first | (simp [results, Try.results24, go_sem, *]; done) | (simp [results, Try.results24, go_sem, *]; rfl)) rfl ⟨rfl, ?_⟩
    (repeat (first | (with_reducible exact Below.refl _ _) | (with_reducible exact Aside0.out (by assumption)) | (with_reducible apply below_alloc) | (with_reducible apply pw_below_drewN) | (with_reducible apply Below.drew) | ((with_reducible refine Below.setCell ?_ ?_ _); rotate_left; (first | (simp; done) | (simp; omega) | exact Nat.le_refl _))))
  · clear r0 r1 r2 rf0 rf1 rf2
    go_wp2_with fail
    refine (B.out _).mono ?_
    rintro e w3 ⟨rfl, hb3⟩
    have S3 := S2.step hb3
    clear b0 b1 b2 bf0 bf1 bf2 S2 hb3 G2
    obtain ⟨r0, r1, r2, rf0, rf1, rf2⟩ := cells3 S3.r
    have G3 := Aside0.mk S3.below
    cases gb
    · go_wp2_with fail
      refine bodyPost_ret (v := _) (by first | (simp [results, Try.results24, go_sem, *]; done) | (simp [results, Try.results24, go_sem, *]; rfl)) rfl ⟨rfl, ?_⟩
      (repeat (first | (with_reducible exact Below.refl _ _) | (with_reducible exact Aside0.out (by assumption)) | (with_reducible apply below_alloc) | (with_reducible apply pw_below_drewN) | (with_reducible apply Below.drew) | ((with_reducible refine Below.setCell ?_ ?_ _); rotate_left; (first | (simp; done) | (simp; omega) | exact Nat.le_refl _))))
    · cases hg
theorem Sta.grown {w W W2 : World} {g : Nat} {fa na fb nb fr nr : Int} {ta tb tr : ByteArray} (h : Sta w W fa na fb nb fr nr ta tb tr) (k : W.grownBy W2 (some g)) (hg : w.heap.size + 1 + 1 < g) : Sta w W2 fa na fb nb fr nr ta tb tr :=
  ⟨(k.block _ (blk_lt h.a) (fun e => by have := Option.some.inj e; omega)).trans h.a, (k.block _ (blk_lt h.b) (fun e => by have := Option.some.inj e; omega)).trans h.b, (k.block _ (blk_lt h.r) (fun e => by have := Option.some.inj e; omega)).trans h.r,
   h.below.grown k h.below.size (fun j hj => by cases hj; omega)⟩
theorem Sta.lt {w W : World} {fa na fb nb fr nr : Int} {ta tb tr : ByteArray} (h : Sta w W fa na fb nb fr nr ta tb tr) : w.heap.size + 1 + 1 < W.heap.size := blk_lt h.r

/-- What a closure of the table tells. -/
def entR (e : Option (Nat × Option Nat)) (fa na : Int) (ta : ByteArray) (nb : Int) (tb : ByteArray) : Int × Int × Int :=
  if e = some (74, some 75) then fitsR (wrap64 (na + nb))
  else if e = some (74, some 77) then fitsR (wrap64 (na - nb))
  else if e = some (74, some 78) then fitsR (wrap64 (na * nb))
  else if e = some (74, some 79) then divR true na nb
  else if e = some (74, some 81) then divR false na nb
  else if e = some (83, some 85) then (4, Go.bits .or .u32 (na % 4294967296) (nb % 4294967296), 0)
  else if e = some (83, some 86) then (4, Go.bits .andNot .u32 (na % 4294967296) (nb % 4294967296), 0)
  else if e = some (83, some 87) then (4, Go.bits .and .u32 (na % 4294967296) (nb % 4294967296), 0)
  else if e = some (83, some 88) then (4, Go.bits .xor .u32 (na % 4294967296) (nb % 4294967296), 0)
  else if e = some (89, none) then inR na nb
  else if e = some (96, some 90) then (2, tr ((fun q : Int => q == 0) (if fa = 6 then Lib.compareBytes ta.data.toList tb.data.toList else wrap64 (na - nb))), 0)
  else if e = some (96, some 91) then (2, tr ((fun q : Int => q != 0) (if fa = 6 then Lib.compareBytes ta.data.toList tb.data.toList else wrap64 (na - nb))), 0)
  else if e = some (96, some 92) then (2, tr ((fun q : Int => decide (q < 0)) (if fa = 6 then Lib.compareBytes ta.data.toList tb.data.toList else wrap64 (na - nb))), 0)
  else if e = some (96, some 93) then (2, tr ((fun q : Int => decide (q ≤ 0)) (if fa = 6 then Lib.compareBytes ta.data.toList tb.data.toList else wrap64 (na - nb))), 0)
  else if e = some (96, some 94) then (2, tr ((fun q : Int => decide (0 < q)) (if fa = 6 then Lib.compareBytes ta.data.toList tb.data.toList else wrap64 (na - nb))), 0)
  else if e = some (96, some 95) then (2, tr ((fun q : Int => decide (0 ≤ q)) (if fa = 6 then Lib.compareBytes ta.data.toList tb.data.toList else wrap64 (na - nb))), 0)
  else if e = some (60, some 58) then (2, tr (Go.bits .and .i64 na nb == 1), 0)
  else if e = some (60, some 59) then (2, tr (Go.bits .or .i64 na nb == 1), 0)
  else (0, 0, 120)
/-- What stands in the table. -/
def Is (e : Option (Nat × Option Nat)) (a b : Int) : Prop :=
  e = none
  ∨ (e = some (74, some 75) ∧ a = 1 ∧ b = 1)
  ∨ (e = some (74, some 77) ∧ a = 1 ∧ b = 1)
  ∨ (e = some (74, some 78) ∧ a = 1 ∧ b = 1)
  ∨ (e = some (74, some 79) ∧ a = 1 ∧ b = 1)
  ∨ (e = some (74, some 81) ∧ a = 1 ∧ b = 1)
  ∨ (e = some (83, some 85) ∧ a = 4 ∧ b = 4)
  ∨ (e = some (83, some 86) ∧ a = 4 ∧ b = 4)
  ∨ (e = some (83, some 87) ∧ a = 4 ∧ b = 4)
  ∨ (e = some (83, some 88) ∧ a = 4 ∧ b = 4)
  ∨ (e = some (89, none) ∧ a = 1 ∧ b = 4)
  ∨ (e = some (96, some 90) ∧ a = b)
  ∨ (e = some (96, some 91) ∧ a = b)
  ∨ (e = some (96, some 92) ∧ a = b)
  ∨ (e = some (96, some 93) ∧ a = b)
  ∨ (e = some (96, some 94) ∧ a = b)
  ∨ (e = some (96, some 95) ∧ a = b)
  ∨ (e = some (60, some 58) ∧ a = 2 ∧ b = 2)
  ∨ (e = some (60, some 59) ∧ a = 2 ∧ b = 2)
theorem relF_cases (l : List UInt8) : relF l = none ∨ relF l = some 90 ∨ relF l = some 91 ∨ relF l = some 92 ∨ relF l = some 93 ∨ relF l = some 94 ∨ relF l = some 95 := by
  unfold relF
  repeat (first | (split; · simp) | simp)
theorem booF_cases (l : List UInt8) : booF l = none ∨ booF l = some 58 ∨ booF l = some 59 := by
  unfold booF
  repeat (first | (split; · simp) | simp)
theorem total_is (a b : Int) (l : List UInt8) : Is (total a b l) a b := by
  unfold total booSt
  by_cases h1 : a = 2 ∧ b = 2 ∧ (fun _ : Lit => false) (.string l) = false ∧ (booF l).isSome = true
  · rw [if_pos h1]
    rcases booF_cases l with h | h | h
    · rw [h] at h1; exact absurd h1.2.2.2 (by decide)
    all_goals (rw [h]; simp [Is, h1.1, h1.2.1])
  · rw [if_neg h1]
    unfold relSt
    by_cases h2 : a = b ∧ relOk l a = true ∧ (fun _ : Lit => false) (.string l) = false ∧ (relF l).isSome = true
    · rw [if_pos h2]
      rcases relF_cases l with h | h | h | h | h | h | h
      · rw [h] at h2; exact absurd h2.2.2.2 (by decide)
      all_goals (rw [h]; simp [Is, h2.1])
    · rw [if_neg h2]
      unfold st2 st1 upd
      repeat' split
      all_goals (simp_all [Is])
theorem bits32 (o : BinOp) (x y : Int) : 0 ≤ Go.bits o .u32 x y ∧ Go.bits o .u32 x y < 4294967296 := by
  unfold Go.bits; rw [IntKind.wrap_u32]; omega

/-- The two values that Two reckons with. -/
def chA (fa na fb : Int) (ta : ByteArray) : Int × Int × ByteArray := if fb = 3 then charR fa na ta else (fa, na, ta)
def chB (fa na fb nb : Int) (ta tb : ByteArray) : Int × Int × ByteArray := if (chA fa na fb ta).1 = 3 then charR fb nb tb else (fb, nb, tb)

def twoR (op : ByteArray) (fa na fb nb : Int) (ta tb : ByteArray) : Int × Int × Int :=
  entR (total (chA fa na fb ta).1 (chB fa na fb nb ta tb).1 op.data.toList) (chA fa na fb ta).1 (chA fa na fb ta).2.1 (chA fa na fb ta).2.2 (chB fa na fb nb ta tb).2.1 (chB fa na fb nb ta tb).2.2
theorem chA_of {fa na fb f n : Int} {ta t : ByteArray} (h : chA fa na fb ta = (f, n, t)) : (f = fa ∧ n = na) ∨ f = 3 := by
  unfold chA charR at h
  repeat' split at h
  all_goals (simp at h; obtain ⟨h1, h2, _⟩ := h; first | (exact Or.inl ⟨h1.symm, h2.symm⟩) | exact Or.inr h1.symm)
theorem chB_of {fa na fb nb f n : Int} {ta tb t : ByteArray} (h : chB fa na fb nb ta tb = (f, n, t)) : (f = fb ∧ n = nb) ∨ f = 3 := by
  unfold chB charR at h
  repeat' split at h
  all_goals (simp at h; obtain ⟨h1, h2, _⟩ := h; first | (exact Or.inl ⟨h1.symm, h2.symm⟩) | exact Or.inr h1.symm)

set_option maxRecDepth 100000 in
set_option maxHeartbeats 40000000 in
theorem two_some (op : ByteArray) (fa na fb nb : Int) (ta tb : ByteArray) (w : World) (hop : op.size ≤ maxLen)
    (A : ∀ W, Calls Try.prog 53 #[V fa na ta] W fun e w' => e = .returned (.bool true) ∧ Below W.heap.size W w')
    (B : ∀ W, Calls Try.prog 53 #[V fb nb tb] W fun e w' => e = .returned (.bool true) ∧ Below W.heap.size W w')
    (fa0 : -9223372036854775808 ≤ fa) (fa9 : fa ≤ 9223372036854775807) (fb0 : -9223372036854775808 ≤ fb) (fb9 : fb ≤ 9223372036854775807)
    (NA : fa = 1 → -2147483648 ≤ na ∧ na < 2147483648) (NB : fb = 1 → -2147483648 ≤ nb ∧ nb < 2147483648) (r : Int × Int × Int) (hr : r = twoR op fa na fb nb ta tb) :
    Calls Try.prog 24 #[.string op, V fa na ta, V fb nb tb] w fun e w' => e = .returned (VR r) ∧ Below w.heap.size w w' := by
  have hr := Aside0.mk hr
  obtain ⟨r1, r2, r3⟩ := r
  have NA := Aside0.mk NA
  have NB := Aside0.mk NB
  have A := Aside0.mk A
  have B := Aside0.mk B
  have hmm := @run_makeMap Try.prog
  go_enter Try.func24, Try.ntmps24
  go_upto_region 1 with (fail)
  refine wp_of_world (fun w' => Sta w w' fa na fb nb 0 0 ta tb E0) (Sta.start w fa na fb nb ta tb) ?_
  intro w1 S1
  obtain ⟨a0, a1, a2, af0, af1, af2⟩ := cells3 S1.a
  go_wp2_with fail
  refine (A.out _).mono ?_
  rintro e w2 ⟨rfl, hb2⟩
  have S2 := S1.step hb2
  clear a0 a1 a2 af0 af1 af2 S1 hb2
  obtain ⟨b0, b1, b2, bf0, bf1, bf2⟩ := cells3 S2.b
  go_wp2_with fail
  refine (B.out _).mono ?_
  rintro e w3 ⟨rfl, hb3⟩
  have S3 := S2.step hb3
  clear b0 b1 b2 bf0 bf1 bf2 S2 hb3 A B
  obtain ⟨b0, b1, b2, bf0, bf1, bf2⟩ := cells3 S3.b
  go_upto_if 24 with (fail)
  go_cut [25] (fun _ wc => ∃ fa1 na1 ta1, chA fa na fb ta = (fa1, na1, ta1) ∧ Sta w wc fa1 na1 fb nb 0 0 ta1 tb E0)
  case first =>
    by_cases h3 : fb = 3
    · have d : (fb == 3) = true := beq_iff_eq.2 h3
      obtain ⟨a0, a1, a2, af0, af1, af2⟩ := cells3 S3.a
      have C := Aside0.mk (char_any fa na ta)
      have hA : Aside0 (chA fa na fb ta = charR fa na ta) := ⟨by unfold chA; rw [if_pos h3]⟩
      clear h3
      generalize charR fa na ta = r at *
      obtain ⟨f1, n1, t1⟩ := r
      go_wp2_with fail
      refine (C.out _).mono ?_
      rintro e w4 ⟨rfl, hb4⟩
      have S4 := S3.step hb4
      clear a0 a1 a2 af0 af1 af2 b0 b1 b2 bf0 bf1 bf2 hb4
      obtain ⟨a0, a1, a2, af0, af1, af2⟩ := cells3 S4.a
      go_wp2_with fail
      go_meet
      exact ⟨_, _, _, hA.out, S4.putA f1 n1 t1⟩
    · have d : (fb == 3) = false := beq_eq_false_iff_ne.2 h3
      have hA : Aside0 (chA fa na fb ta = (fa, na, ta)) := ⟨by unfold chA; rw [if_neg h3]⟩
      clear h3
      go_wp2_with fail
      go_meet
      exact ⟨_, _, _, hA.out, S3⟩
  case rest =>
  obtain ⟨fa1, na1, ta1, hA, S4⟩ := hcut
  have hA := Aside0.mk hA
  clear b0 b1 b2 bf0 bf1 bf2 S3
  obtain ⟨a0, a1, a2, af0, af1, af2⟩ := cells3 S4.a
  go_upto_if 29 with (fail)
  go_cut [30] (fun _ wc => ∃ fb1 nb1 tb1, chB fa na fb nb ta tb = (fb1, nb1, tb1) ∧ Sta w wc fa1 na1 fb1 nb1 0 0 ta1 tb1 E0)
  case first =>
    by_cases h3 : fa1 = 3
    · have d : (fa1 == 3) = true := beq_iff_eq.2 h3
      obtain ⟨b0, b1, b2, bf0, bf1, bf2⟩ := cells3 S4.b
      have C := Aside0.mk (char_any fb nb tb)
      have hB : Aside0 (chB fa na fb nb ta tb = charR fb nb tb) := ⟨by unfold chB; rw [hA.out, if_pos h3]⟩
      clear h3
      generalize charR fb nb tb = r at *
      obtain ⟨f1, n1, t1⟩ := r
      go_wp2_with fail
      refine (C.out _).mono ?_
      rintro e w5 ⟨rfl, hb5⟩
      have S5 := S4.step hb5
      clear a0 a1 a2 af0 af1 af2 b0 b1 b2 bf0 bf1 bf2 hb5
      obtain ⟨b0, b1, b2, bf0, bf1, bf2⟩ := cells3 S5.b
      go_wp2_with fail
      go_meet
      exact ⟨_, _, _, hB.out, S5.putB f1 n1 t1⟩
    · have d : (fa1 == 3) = false := beq_eq_false_iff_ne.2 h3
      have hB : Aside0 (chB fa na fb nb ta tb = (fb, nb, tb)) := ⟨by unfold chB; rw [hA.out, if_neg h3]⟩
      clear h3
      go_wp2_with fail
      go_meet
      exact ⟨_, _, _, hB.out, S4⟩
  case rest =>
  obtain ⟨fb1, nb1, tb1, hB, S5⟩ := hcut
  have hB := Aside0.mk hB
  clear a0 a1 a2 af0 af1 af2 S4
  have T0 := Tab.made wc
  have S6 := S5.step ((Below.refl _ _).alloc (Nat.le_refl _) (.map #[] 0))
  have hgl := S5.lt
  clear S5
  go_wp2_with fail
  refine (ints_any wc.heap.size 0 _ _ T0 (by decide)).mono ?_
  rintro e w7 ⟨rfl, T7, g7⟩
  have S7 := S6.grown g7 hgl
  clear T0 S6 g7
  go_wp2_with fail
  refine (sets_any wc.heap.size _ _ _ T7 (by decide)).mono ?_
  rintro e w8 ⟨rfl, T8, g8⟩
  have S8 := S7.grown g8 hgl
  clear T7 S7 g8
  go_wp2_with fail
  refine (relations_any wc.heap.size _ _ _ T8 (by decide)).mono ?_
  rintro e w9 ⟨rfl, ⟨m9, hm9, T9⟩, g9⟩
  have S9 := S8.grown g9 hgl
  clear T8 S8 g9
  generalize wc.heap.size = g at *
  have hlt := T9.lt
  have hne : w9.heap.size ≠ g := by omega
  have h0 : (w9.alloc (.map #[] 0)).ownsMap Try.prog 9 MapFn.RV w9.heap.size 0 (.map []) := World.ownsMap_made w9 Try.prog 9 MapFn.RV
  have hg0 : Aside0 (w9.grownBy (w9.alloc (.map #[] 0)) none) := ⟨World.grownBy_alloc w9 _ none⟩
  go_wp2_with (first
    | (refine MapFn.insert_held _ rfl _ _ _ 72 rfl 9 55 K9 Try.underlying72 _ _ _ rfl (by assumption) (by unfold maxLen; omega) _ _ _ rfl rfl (key9 _ (by unfold maxLen; decide)) ?_; intro w1 hown1 hgrow1;
       have hg0 : Aside0 (w9.grownBy w1 none) := ⟨World.grownBy.andThen (Aside0.out (by assumption)) hgrow1 (fun j hj => by cases hj; exact Or.inl (Nat.le_refl _))⟩)
    | (at_range; refine wpList_range_own _ rfl _ 72 rfl 9 55 K9 Try.underlying72 _ _ _ _ rfl (by assumption) ?_; intro w10 hrg0 hg10 hs10))
  have hr1 : w9.heap.size < w1.heap.size := hown1.lt
  have G10 : w9.grownBy w10 none := World.grownBy.andThen hg0.out hg10 (by simp)
  have T10 : Tab w10 g m9 (booSt (Maps.has D2) (relSt (fun _ => false) (st2 (st1 (fun _ _ _ => none))))) := (T9.kept G10 (by simp) (by simp)).alike (booSt_start _)
  have S10 := S9.grown (G10.but (some g)) hgl
  have hrg : w10.ranges Try.prog 9 MapFn.RV w9.heap.size w1.heap.size 2 D2 (Maps.has D2) (Maps.size D2) := hrg0
  have hsz : Maps.size D2 ≤ 2 := hown1.size_le
  clear hrg0 hg10 hs10 hown1 hgrow1 hg0 hmm h0 T9 S9
  have hmb : g < w9.heap.size := hlt
  generalize w1.heap.size = R at *
  generalize w9.heap.size = mb at *
  try go_frame
  go_loopw [9] (fun _ wr => ∃ left cnt m, wr.ranges Try.prog 9 MapFn.RV mb R 2 D2 left cnt ∧ Tab wr g m (booSt left (relSt (fun _ => false) (st2 (st1 (fun _ _ _ => none))))) ∧ m + cnt ≤ 90 ∧ Sta w wr fa1 na1 fb1 nb1 0 0 ta1 tb1 E0 ∧ (∀ kl, left kl = true → Maps.has D2 kl = true))
    (fun _ wr => wr.rangeLeft mb R)
  case atStart => exact ⟨_, _, m9, hrg, T10, by omega, S10, fun _ h => h⟩
  case round =>
    obtain ⟨left, cnt, m, hrg1, T1, hm, S1, hin⟩ := hrel
    clear T10 S10 hrg G10
    obtain ⟨a0, a1, a2, af0, af1, af2⟩ := cells3 S1.a
    obtain ⟨b0, b1, b2, bf0, bf1, bf2⟩ := cells3 S1.b
    go_wp2_with (at_next; refine wpList_next_ranges _ rfl _ rfl 9 K9 MapFn.RV (fun x : {s : ByteArray // s.size ≤ maxLen} => Value.string x.1) (fun v => v) inv9 (fun v y _ => ⟨v, rfl⟩) mb R 2 D2 _ _ rfl hrg1 ?_ ?_)
    · intro hc0 hl0
      have hleft : left = fun _ => false := funext hl0
      subst hleft
      have T2 : Tab wr g m total := T1
      clear T1 hrg1 hin hl0
      have hr1 : Aside0 ((r1, r2, r3) = entR (total fa1 fb1 op.data.toList) fa1 na1 ta1 nb1 tb1) := ⟨by rw [hr.out]; unfold twoR; rw [hA.out, hB.out]⟩
      have wfa : (Lit.int .i64 fa1).wf = true := by rcases chA_of hA.out with h | h <;> exact wf64 (by omega) (by omega)
      have wfb : (Lit.int .i64 fb1).wf = true := by rcases chB_of hB.out with h | h <;> exact wf64 (by omega) (by omega)
      have hI := total_is fa1 fb1 op.data.toList
      rcases hI with he | he | he | he | he | he | he | he | he | he | he | he | he | he | he | he | he | he | he
      · have hr2 : (r1, r2, r3) = ((0, 0, 120) : Int × Int × Int) := by rw [hr1.out, he]; rfl
        simp only [Prod.mk.injEq] at hr2
        obtain ⟨q1, q2, q3⟩ := hr2
        obtain ⟨c0, c1, c2, f0, f1, f2⟩ := cells3 S1.r
        have G1 := Aside0.mk S1.below
        have he' := Aside0.mk he
        clear he
        go_wp2_with (refine look_tab _ rfl _ _ rfl g m _ T2 rfl fa1 fb1 op rfl wfa wfb hop ?_; intro f ok hE; rw [he'.out] at hE; obtain ⟨hf, rfl⟩ := hE; injection hf with hf; subst hf)
        refine bodyPost_ret (v := _) (by first | (simp [results, Try.results24, go_sem, *]; done) | (simp [results, Try.results24, go_sem, *]; rfl)) rfl ⟨by first | rfl | (simp [*]; done), ?_⟩
        (repeat (first | (with_reducible exact Below.refl _ _) | (with_reducible exact Aside0.out (by assumption)) | (with_reducible apply below_alloc) | (with_reducible apply pw_below_drewN) | (with_reducible apply Below.drew) | ((with_reducible refine Below.setCell ?_ ?_ _); rotate_left; (first | (simp; done) | (simp; omega) | exact Nat.le_refl _))))
      · obtain ⟨he, hs⟩ := he
        have hr2 : (r1, r2, r3) = entR (some (74, some 75)) fa1 na1 ta1 nb1 tb1 := by rw [hr1.out, he]
        replace hr2 : (r1, r2, r3) = (fun (fa na : Int) (ta : ByteArray) (nb : Int) (tb : ByteArray) => fitsR (wrap64 (na + nb))) fa1 na1 ta1 nb1 tb1 := hr2.trans (by simp [entR])
        dsimp only at hr2
        have BA : -2147483648 ≤ na1 ∧ na1 < 2147483648 := by rcases chA_of hA.out with h | h <;> first | (rw [h.2]; exact NA.out (by omega)) | omega
        have BB : -2147483648 ≤ nb1 ∧ nb1 < 2147483648 := by rcases chB_of hB.out with h | h <;> first | (rw [h.2]; exact NB.out (by omega)) | omega
        have CC : ∀ (bx : Nat) (W : World) (hcb : W.cell? ⟨bx, 0, none⟩ = some (.func (.func 75) #[] #[])), Calls Try.prog 74 #[V fa1 na1 ta1, V fb1 nb1 tb1, .pointer (some ⟨bx, 0, none⟩)] W fun e w' => e = .returned (VR (r1, r2, r3)) ∧ Below W.heap.size W w' := by
          intro bx W hcb
          rw [hr2]; exact clo_int_add fa1 na1 fb1 nb1 ta1 tb1 bx W hcb _ (iadd _ _)
        have CC' := Aside0.mk CC
        have he' := Aside0.mk he
        clear he hs hr2 CC BA BB
        go_wp2_with (first | (refine look_tab _ rfl _ _ rfl g m _ T2 rfl fa1 fb1 op rfl wfa wfb hop ?_; intro f ok hE; rw [he'.out] at hE; obtain ⟨rfl, bx, hbg, hf, hcb⟩ := hE; injection hf with hf; subst hf) | (refine (CC'.out _ _ (by assumption)).mono ?_; rintro e w5 ⟨rfl, hb5⟩; obtain ⟨c0, c1, c2, f0, f1, f2⟩ := cells3 (S1.step hb5).r; have G5 := Aside0.mk (S1.step hb5).below; clear hb5))
        refine bodyPost_ret (v := _) (by first | (simp [results, Try.results24, go_sem, *]; done) | (simp [results, Try.results24, go_sem, *]; rfl)) rfl ⟨by first | rfl | (simp [*]; done), ?_⟩
        (repeat (first | (with_reducible exact Below.refl _ _) | (with_reducible exact Aside0.out (by assumption)) | (with_reducible apply below_alloc) | (with_reducible apply pw_below_drewN) | (with_reducible apply Below.drew) | ((with_reducible refine Below.setCell ?_ ?_ _); rotate_left; (first | (simp; done) | (simp; omega) | exact Nat.le_refl _))))
      · obtain ⟨he, hs⟩ := he
        have hr2 : (r1, r2, r3) = entR (some (74, some 77)) fa1 na1 ta1 nb1 tb1 := by rw [hr1.out, he]
        replace hr2 : (r1, r2, r3) = (fun (fa na : Int) (ta : ByteArray) (nb : Int) (tb : ByteArray) => fitsR (wrap64 (na - nb))) fa1 na1 ta1 nb1 tb1 := hr2.trans (by simp [entR])
        dsimp only at hr2
        have BA : -2147483648 ≤ na1 ∧ na1 < 2147483648 := by rcases chA_of hA.out with h | h <;> first | (rw [h.2]; exact NA.out (by omega)) | omega
        have BB : -2147483648 ≤ nb1 ∧ nb1 < 2147483648 := by rcases chB_of hB.out with h | h <;> first | (rw [h.2]; exact NB.out (by omega)) | omega
        have CC : ∀ (bx : Nat) (W : World) (hcb : W.cell? ⟨bx, 0, none⟩ = some (.func (.func 77) #[] #[])), Calls Try.prog 74 #[V fa1 na1 ta1, V fb1 nb1 tb1, .pointer (some ⟨bx, 0, none⟩)] W fun e w' => e = .returned (VR (r1, r2, r3)) ∧ Below W.heap.size W w' := by
          intro bx W hcb
          rw [hr2]; exact clo_int_sub fa1 na1 fb1 nb1 ta1 tb1 bx W hcb _ (isub _ _)
        have CC' := Aside0.mk CC
        have he' := Aside0.mk he
        clear he hs hr2 CC BA BB
        go_wp2_with (first | (refine look_tab _ rfl _ _ rfl g m _ T2 rfl fa1 fb1 op rfl wfa wfb hop ?_; intro f ok hE; rw [he'.out] at hE; obtain ⟨rfl, bx, hbg, hf, hcb⟩ := hE; injection hf with hf; subst hf) | (refine (CC'.out _ _ (by assumption)).mono ?_; rintro e w5 ⟨rfl, hb5⟩; obtain ⟨c0, c1, c2, f0, f1, f2⟩ := cells3 (S1.step hb5).r; have G5 := Aside0.mk (S1.step hb5).below; clear hb5))
        refine bodyPost_ret (v := _) (by first | (simp [results, Try.results24, go_sem, *]; done) | (simp [results, Try.results24, go_sem, *]; rfl)) rfl ⟨by first | rfl | (simp [*]; done), ?_⟩
        (repeat (first | (with_reducible exact Below.refl _ _) | (with_reducible exact Aside0.out (by assumption)) | (with_reducible apply below_alloc) | (with_reducible apply pw_below_drewN) | (with_reducible apply Below.drew) | ((with_reducible refine Below.setCell ?_ ?_ _); rotate_left; (first | (simp; done) | (simp; omega) | exact Nat.le_refl _))))
      · obtain ⟨he, hs⟩ := he
        have hr2 : (r1, r2, r3) = entR (some (74, some 78)) fa1 na1 ta1 nb1 tb1 := by rw [hr1.out, he]
        replace hr2 : (r1, r2, r3) = (fun (fa na : Int) (ta : ByteArray) (nb : Int) (tb : ByteArray) => fitsR (wrap64 (na * nb))) fa1 na1 ta1 nb1 tb1 := hr2.trans (by simp [entR])
        dsimp only at hr2
        have BA : -2147483648 ≤ na1 ∧ na1 < 2147483648 := by rcases chA_of hA.out with h | h <;> first | (rw [h.2]; exact NA.out (by omega)) | omega
        have BB : -2147483648 ≤ nb1 ∧ nb1 < 2147483648 := by rcases chB_of hB.out with h | h <;> first | (rw [h.2]; exact NB.out (by omega)) | omega
        have CC : ∀ (bx : Nat) (W : World) (hcb : W.cell? ⟨bx, 0, none⟩ = some (.func (.func 78) #[] #[])), Calls Try.prog 74 #[V fa1 na1 ta1, V fb1 nb1 tb1, .pointer (some ⟨bx, 0, none⟩)] W fun e w' => e = .returned (VR (r1, r2, r3)) ∧ Below W.heap.size W w' := by
          intro bx W hcb
          rw [hr2]; exact clo_int_mul fa1 na1 fb1 nb1 ta1 tb1 bx W hcb _ (imul _ _)
        have CC' := Aside0.mk CC
        have he' := Aside0.mk he
        clear he hs hr2 CC BA BB
        go_wp2_with (first | (refine look_tab _ rfl _ _ rfl g m _ T2 rfl fa1 fb1 op rfl wfa wfb hop ?_; intro f ok hE; rw [he'.out] at hE; obtain ⟨rfl, bx, hbg, hf, hcb⟩ := hE; injection hf with hf; subst hf) | (refine (CC'.out _ _ (by assumption)).mono ?_; rintro e w5 ⟨rfl, hb5⟩; obtain ⟨c0, c1, c2, f0, f1, f2⟩ := cells3 (S1.step hb5).r; have G5 := Aside0.mk (S1.step hb5).below; clear hb5))
        refine bodyPost_ret (v := _) (by first | (simp [results, Try.results24, go_sem, *]; done) | (simp [results, Try.results24, go_sem, *]; rfl)) rfl ⟨by first | rfl | (simp [*]; done), ?_⟩
        (repeat (first | (with_reducible exact Below.refl _ _) | (with_reducible exact Aside0.out (by assumption)) | (with_reducible apply below_alloc) | (with_reducible apply pw_below_drewN) | (with_reducible apply Below.drew) | ((with_reducible refine Below.setCell ?_ ?_ _); rotate_left; (first | (simp; done) | (simp; omega) | exact Nat.le_refl _))))
      · obtain ⟨he, hs⟩ := he
        have hr2 : (r1, r2, r3) = entR (some (74, some 79)) fa1 na1 ta1 nb1 tb1 := by rw [hr1.out, he]
        replace hr2 : (r1, r2, r3) = (fun (fa na : Int) (ta : ByteArray) (nb : Int) (tb : ByteArray) => divR true na nb) fa1 na1 ta1 nb1 tb1 := hr2.trans (by simp [entR])
        dsimp only at hr2
        have BA : -2147483648 ≤ na1 ∧ na1 < 2147483648 := by rcases chA_of hA.out with h | h <;> first | (rw [h.2]; exact NA.out (by omega)) | omega
        have BB : -2147483648 ≤ nb1 ∧ nb1 < 2147483648 := by rcases chB_of hB.out with h | h <;> first | (rw [h.2]; exact NB.out (by omega)) | omega
        have CC : ∀ (bx : Nat) (W : World) (hcb : W.cell? ⟨bx, 0, none⟩ = some (.func (.func 79) #[] #[])), Calls Try.prog 74 #[V fa1 na1 ta1, V fb1 nb1 tb1, .pointer (some ⟨bx, 0, none⟩)] W fun e w' => e = .returned (VR (r1, r2, r3)) ∧ Below W.heap.size W w' := by
          intro bx W hcb
          rw [hr2]; exact clo_int_div fa1 na1 fb1 nb1 ta1 tb1 bx W hcb _ (fun W => idiv _ _ W BA.1 BA.2 BB.2)
        have CC' := Aside0.mk CC
        have he' := Aside0.mk he
        clear he hs hr2 CC BA BB
        go_wp2_with (first | (refine look_tab _ rfl _ _ rfl g m _ T2 rfl fa1 fb1 op rfl wfa wfb hop ?_; intro f ok hE; rw [he'.out] at hE; obtain ⟨rfl, bx, hbg, hf, hcb⟩ := hE; injection hf with hf; subst hf) | (refine (CC'.out _ _ (by assumption)).mono ?_; rintro e w5 ⟨rfl, hb5⟩; obtain ⟨c0, c1, c2, f0, f1, f2⟩ := cells3 (S1.step hb5).r; have G5 := Aside0.mk (S1.step hb5).below; clear hb5))
        refine bodyPost_ret (v := _) (by first | (simp [results, Try.results24, go_sem, *]; done) | (simp [results, Try.results24, go_sem, *]; rfl)) rfl ⟨by first | rfl | (simp [*]; done), ?_⟩
        (repeat (first | (with_reducible exact Below.refl _ _) | (with_reducible exact Aside0.out (by assumption)) | (with_reducible apply below_alloc) | (with_reducible apply pw_below_drewN) | (with_reducible apply Below.drew) | ((with_reducible refine Below.setCell ?_ ?_ _); rotate_left; (first | (simp; done) | (simp; omega) | exact Nat.le_refl _))))
      · obtain ⟨he, hs⟩ := he
        have hr2 : (r1, r2, r3) = entR (some (74, some 81)) fa1 na1 ta1 nb1 tb1 := by rw [hr1.out, he]
        replace hr2 : (r1, r2, r3) = (fun (fa na : Int) (ta : ByteArray) (nb : Int) (tb : ByteArray) => divR false na nb) fa1 na1 ta1 nb1 tb1 := hr2.trans (by simp [entR])
        dsimp only at hr2
        have BA : -2147483648 ≤ na1 ∧ na1 < 2147483648 := by rcases chA_of hA.out with h | h <;> first | (rw [h.2]; exact NA.out (by omega)) | omega
        have BB : -2147483648 ≤ nb1 ∧ nb1 < 2147483648 := by rcases chB_of hB.out with h | h <;> first | (rw [h.2]; exact NB.out (by omega)) | omega
        have CC : ∀ (bx : Nat) (W : World) (hcb : W.cell? ⟨bx, 0, none⟩ = some (.func (.func 81) #[] #[])), Calls Try.prog 74 #[V fa1 na1 ta1, V fb1 nb1 tb1, .pointer (some ⟨bx, 0, none⟩)] W fun e w' => e = .returned (VR (r1, r2, r3)) ∧ Below W.heap.size W w' := by
          intro bx W hcb
          rw [hr2]; exact clo_int_mod fa1 na1 fb1 nb1 ta1 tb1 bx W hcb _ (fun W => imod _ _ W BA.1 BA.2 BB.2)
        have CC' := Aside0.mk CC
        have he' := Aside0.mk he
        clear he hs hr2 CC BA BB
        go_wp2_with (first | (refine look_tab _ rfl _ _ rfl g m _ T2 rfl fa1 fb1 op rfl wfa wfb hop ?_; intro f ok hE; rw [he'.out] at hE; obtain ⟨rfl, bx, hbg, hf, hcb⟩ := hE; injection hf with hf; subst hf) | (refine (CC'.out _ _ (by assumption)).mono ?_; rintro e w5 ⟨rfl, hb5⟩; obtain ⟨c0, c1, c2, f0, f1, f2⟩ := cells3 (S1.step hb5).r; have G5 := Aside0.mk (S1.step hb5).below; clear hb5))
        refine bodyPost_ret (v := _) (by first | (simp [results, Try.results24, go_sem, *]; done) | (simp [results, Try.results24, go_sem, *]; rfl)) rfl ⟨by first | rfl | (simp [*]; done), ?_⟩
        (repeat (first | (with_reducible exact Below.refl _ _) | (with_reducible exact Aside0.out (by assumption)) | (with_reducible apply below_alloc) | (with_reducible apply pw_below_drewN) | (with_reducible apply Below.drew) | ((with_reducible refine Below.setCell ?_ ?_ _); rotate_left; (first | (simp; done) | (simp; omega) | exact Nat.le_refl _))))
      · obtain ⟨he, hs⟩ := he
        have hr2 : (r1, r2, r3) = entR (some (83, some 85)) fa1 na1 ta1 nb1 tb1 := by rw [hr1.out, he]
        replace hr2 : (r1, r2, r3) = (fun (fa na : Int) (ta : ByteArray) (nb : Int) (tb : ByteArray) => (4, Go.bits .or .u32 (na % 4294967296) (nb % 4294967296), 0)) fa1 na1 ta1 nb1 tb1 := hr2.trans (by simp [entR])
        dsimp only at hr2
        have CC : ∀ (bx : Nat) (W : World) (hcb : W.cell? ⟨bx, 0, none⟩ = some (.func (.func 85) #[] #[])), Calls Try.prog 83 #[V fa1 na1 ta1, V fb1 nb1 tb1, .pointer (some ⟨bx, 0, none⟩)] W fun e w' => e = .returned (VR (r1, r2, r3)) ∧ Below W.heap.size W w' := by
          intro bx W hcb
          rw [hr2]; exact clo_set_or fa1 na1 fb1 nb1 ta1 tb1 bx W hcb (Go.bits .or .u32 (na1 % 4294967296) (nb1 % 4294967296)) (bits32 _ _ _).1 (bits32 _ _ _).2 (sor _ _)
        have CC' := Aside0.mk CC
        have he' := Aside0.mk he
        clear he hs hr2 CC
        go_wp2_with (first | (refine look_tab _ rfl _ _ rfl g m _ T2 rfl fa1 fb1 op rfl wfa wfb hop ?_; intro f ok hE; rw [he'.out] at hE; obtain ⟨rfl, bx, hbg, hf, hcb⟩ := hE; injection hf with hf; subst hf) | (refine (CC'.out _ _ (by assumption)).mono ?_; rintro e w5 ⟨rfl, hb5⟩; obtain ⟨c0, c1, c2, f0, f1, f2⟩ := cells3 (S1.step hb5).r; have G5 := Aside0.mk (S1.step hb5).below; clear hb5))
        refine bodyPost_ret (v := _) (by first | (simp [results, Try.results24, go_sem, *]; done) | (simp [results, Try.results24, go_sem, *]; rfl)) rfl ⟨by first | rfl | (simp [*]; done), ?_⟩
        (repeat (first | (with_reducible exact Below.refl _ _) | (with_reducible exact Aside0.out (by assumption)) | (with_reducible apply below_alloc) | (with_reducible apply pw_below_drewN) | (with_reducible apply Below.drew) | ((with_reducible refine Below.setCell ?_ ?_ _); rotate_left; (first | (simp; done) | (simp; omega) | exact Nat.le_refl _))))
      · obtain ⟨he, hs⟩ := he
        have hr2 : (r1, r2, r3) = entR (some (83, some 86)) fa1 na1 ta1 nb1 tb1 := by rw [hr1.out, he]
        replace hr2 : (r1, r2, r3) = (fun (fa na : Int) (ta : ByteArray) (nb : Int) (tb : ByteArray) => (4, Go.bits .andNot .u32 (na % 4294967296) (nb % 4294967296), 0)) fa1 na1 ta1 nb1 tb1 := hr2.trans (by simp [entR])
        dsimp only at hr2
        have CC : ∀ (bx : Nat) (W : World) (hcb : W.cell? ⟨bx, 0, none⟩ = some (.func (.func 86) #[] #[])), Calls Try.prog 83 #[V fa1 na1 ta1, V fb1 nb1 tb1, .pointer (some ⟨bx, 0, none⟩)] W fun e w' => e = .returned (VR (r1, r2, r3)) ∧ Below W.heap.size W w' := by
          intro bx W hcb
          rw [hr2]; exact clo_set_less fa1 na1 fb1 nb1 ta1 tb1 bx W hcb (Go.bits .andNot .u32 (na1 % 4294967296) (nb1 % 4294967296)) (bits32 _ _ _).1 (bits32 _ _ _).2 (sless _ _)
        have CC' := Aside0.mk CC
        have he' := Aside0.mk he
        clear he hs hr2 CC
        go_wp2_with (first | (refine look_tab _ rfl _ _ rfl g m _ T2 rfl fa1 fb1 op rfl wfa wfb hop ?_; intro f ok hE; rw [he'.out] at hE; obtain ⟨rfl, bx, hbg, hf, hcb⟩ := hE; injection hf with hf; subst hf) | (refine (CC'.out _ _ (by assumption)).mono ?_; rintro e w5 ⟨rfl, hb5⟩; obtain ⟨c0, c1, c2, f0, f1, f2⟩ := cells3 (S1.step hb5).r; have G5 := Aside0.mk (S1.step hb5).below; clear hb5))
        refine bodyPost_ret (v := _) (by first | (simp [results, Try.results24, go_sem, *]; done) | (simp [results, Try.results24, go_sem, *]; rfl)) rfl ⟨by first | rfl | (simp [*]; done), ?_⟩
        (repeat (first | (with_reducible exact Below.refl _ _) | (with_reducible exact Aside0.out (by assumption)) | (with_reducible apply below_alloc) | (with_reducible apply pw_below_drewN) | (with_reducible apply Below.drew) | ((with_reducible refine Below.setCell ?_ ?_ _); rotate_left; (first | (simp; done) | (simp; omega) | exact Nat.le_refl _))))
      · obtain ⟨he, hs⟩ := he
        have hr2 : (r1, r2, r3) = entR (some (83, some 87)) fa1 na1 ta1 nb1 tb1 := by rw [hr1.out, he]
        replace hr2 : (r1, r2, r3) = (fun (fa na : Int) (ta : ByteArray) (nb : Int) (tb : ByteArray) => (4, Go.bits .and .u32 (na % 4294967296) (nb % 4294967296), 0)) fa1 na1 ta1 nb1 tb1 := hr2.trans (by simp [entR])
        dsimp only at hr2
        have CC : ∀ (bx : Nat) (W : World) (hcb : W.cell? ⟨bx, 0, none⟩ = some (.func (.func 87) #[] #[])), Calls Try.prog 83 #[V fa1 na1 ta1, V fb1 nb1 tb1, .pointer (some ⟨bx, 0, none⟩)] W fun e w' => e = .returned (VR (r1, r2, r3)) ∧ Below W.heap.size W w' := by
          intro bx W hcb
          rw [hr2]; exact clo_set_and fa1 na1 fb1 nb1 ta1 tb1 bx W hcb (Go.bits .and .u32 (na1 % 4294967296) (nb1 % 4294967296)) (bits32 _ _ _).1 (bits32 _ _ _).2 (sand _ _)
        have CC' := Aside0.mk CC
        have he' := Aside0.mk he
        clear he hs hr2 CC
        go_wp2_with (first | (refine look_tab _ rfl _ _ rfl g m _ T2 rfl fa1 fb1 op rfl wfa wfb hop ?_; intro f ok hE; rw [he'.out] at hE; obtain ⟨rfl, bx, hbg, hf, hcb⟩ := hE; injection hf with hf; subst hf) | (refine (CC'.out _ _ (by assumption)).mono ?_; rintro e w5 ⟨rfl, hb5⟩; obtain ⟨c0, c1, c2, f0, f1, f2⟩ := cells3 (S1.step hb5).r; have G5 := Aside0.mk (S1.step hb5).below; clear hb5))
        refine bodyPost_ret (v := _) (by first | (simp [results, Try.results24, go_sem, *]; done) | (simp [results, Try.results24, go_sem, *]; rfl)) rfl ⟨by first | rfl | (simp [*]; done), ?_⟩
        (repeat (first | (with_reducible exact Below.refl _ _) | (with_reducible exact Aside0.out (by assumption)) | (with_reducible apply below_alloc) | (with_reducible apply pw_below_drewN) | (with_reducible apply Below.drew) | ((with_reducible refine Below.setCell ?_ ?_ _); rotate_left; (first | (simp; done) | (simp; omega) | exact Nat.le_refl _))))
      · obtain ⟨he, hs⟩ := he
        have hr2 : (r1, r2, r3) = entR (some (83, some 88)) fa1 na1 ta1 nb1 tb1 := by rw [hr1.out, he]
        replace hr2 : (r1, r2, r3) = (fun (fa na : Int) (ta : ByteArray) (nb : Int) (tb : ByteArray) => (4, Go.bits .xor .u32 (na % 4294967296) (nb % 4294967296), 0)) fa1 na1 ta1 nb1 tb1 := hr2.trans (by simp [entR])
        dsimp only at hr2
        have CC : ∀ (bx : Nat) (W : World) (hcb : W.cell? ⟨bx, 0, none⟩ = some (.func (.func 88) #[] #[])), Calls Try.prog 83 #[V fa1 na1 ta1, V fb1 nb1 tb1, .pointer (some ⟨bx, 0, none⟩)] W fun e w' => e = .returned (VR (r1, r2, r3)) ∧ Below W.heap.size W w' := by
          intro bx W hcb
          rw [hr2]; exact clo_set_xor fa1 na1 fb1 nb1 ta1 tb1 bx W hcb (Go.bits .xor .u32 (na1 % 4294967296) (nb1 % 4294967296)) (bits32 _ _ _).1 (bits32 _ _ _).2 (sxor _ _)
        have CC' := Aside0.mk CC
        have he' := Aside0.mk he
        clear he hs hr2 CC
        go_wp2_with (first | (refine look_tab _ rfl _ _ rfl g m _ T2 rfl fa1 fb1 op rfl wfa wfb hop ?_; intro f ok hE; rw [he'.out] at hE; obtain ⟨rfl, bx, hbg, hf, hcb⟩ := hE; injection hf with hf; subst hf) | (refine (CC'.out _ _ (by assumption)).mono ?_; rintro e w5 ⟨rfl, hb5⟩; obtain ⟨c0, c1, c2, f0, f1, f2⟩ := cells3 (S1.step hb5).r; have G5 := Aside0.mk (S1.step hb5).below; clear hb5))
        refine bodyPost_ret (v := _) (by first | (simp [results, Try.results24, go_sem, *]; done) | (simp [results, Try.results24, go_sem, *]; rfl)) rfl ⟨by first | rfl | (simp [*]; done), ?_⟩
        (repeat (first | (with_reducible exact Below.refl _ _) | (with_reducible exact Aside0.out (by assumption)) | (with_reducible apply below_alloc) | (with_reducible apply pw_below_drewN) | (with_reducible apply Below.drew) | ((with_reducible refine Below.setCell ?_ ?_ _); rotate_left; (first | (simp; done) | (simp; omega) | exact Nat.le_refl _))))
      · obtain ⟨he, hs⟩ := he
        have hr2 : (r1, r2, r3) = entR (some (89, none)) fa1 na1 ta1 nb1 tb1 := by rw [hr1.out, he]
        replace hr2 : (r1, r2, r3) = (fun (fa na : Int) (ta : ByteArray) (nb : Int) (tb : ByteArray) => inR na nb) fa1 na1 ta1 nb1 tb1 := hr2.trans (by simp [entR])
        dsimp only at hr2
        have CC : ∀ (W : World), Calls Try.prog 89 #[V fa1 na1 ta1, V fb1 nb1 tb1] W fun e w' => e = .returned (VR (r1, r2, r3)) ∧ Below W.heap.size W w' := by
          intro W
          rw [hr2]; exact clo_in fa1 na1 fb1 nb1 ta1 tb1 W
        have CC' := Aside0.mk CC
        have he' := Aside0.mk he
        clear he hs hr2 CC
        go_wp2_with (first | (refine look_tab _ rfl _ _ rfl g m _ T2 rfl fa1 fb1 op rfl wfa wfb hop ?_; intro f ok hE; rw [he'.out] at hE; obtain ⟨hf, rfl⟩ := hE; injection hf with hf; subst hf) | (refine (CC'.out _).mono ?_; rintro e w5 ⟨rfl, hb5⟩; obtain ⟨c0, c1, c2, f0, f1, f2⟩ := cells3 (S1.step hb5).r; have G5 := Aside0.mk (S1.step hb5).below; clear hb5))
        refine bodyPost_ret (v := _) (by first | (simp [results, Try.results24, go_sem, *]; done) | (simp [results, Try.results24, go_sem, *]; rfl)) rfl ⟨by first | rfl | (simp [*]; done), ?_⟩
        (repeat (first | (with_reducible exact Below.refl _ _) | (with_reducible exact Aside0.out (by assumption)) | (with_reducible apply below_alloc) | (with_reducible apply pw_below_drewN) | (with_reducible apply Below.drew) | ((with_reducible refine Below.setCell ?_ ?_ _); rotate_left; (first | (simp; done) | (simp; omega) | exact Nat.le_refl _))))
      · obtain ⟨he, hs⟩ := he
        have hr2 : (r1, r2, r3) = entR (some (96, some 90)) fa1 na1 ta1 nb1 tb1 := by rw [hr1.out, he]
        replace hr2 : (r1, r2, r3) = (fun (fa na : Int) (ta : ByteArray) (nb : Int) (tb : ByteArray) => (2, tr ((fun q : Int => q == 0) (if fa = 6 then Lib.compareBytes ta.data.toList tb.data.toList else wrap64 (na - nb))), 0)) fa1 na1 ta1 nb1 tb1 := hr2.trans (by simp [entR])
        dsimp only at hr2
        have CC : ∀ (bx : Nat) (W : World) (hcb : W.cell? ⟨bx, 0, none⟩ = some (.func (.func 90) #[] #[])), Calls Try.prog 96 #[V fa1 na1 ta1, V fb1 nb1 tb1, .pointer (some ⟨bx, 0, none⟩)] W fun e w' => e = .returned (VR (r1, r2, r3)) ∧ Below W.heap.size W w' := by
          intro bx W hcb
          rw [hr2]; exact clo_rel_eq fa1 na1 fb1 nb1 ta1 tb1 bx W hcb (fun q : Int => q == 0) req
        have CC' := Aside0.mk CC
        have he' := Aside0.mk he
        clear he hs hr2 CC
        go_wp2_with (first | (refine look_tab _ rfl _ _ rfl g m _ T2 rfl fa1 fb1 op rfl wfa wfb hop ?_; intro f ok hE; rw [he'.out] at hE; obtain ⟨rfl, bx, hbg, hf, hcb⟩ := hE; injection hf with hf; subst hf) | (refine (CC'.out _ _ (by assumption)).mono ?_; rintro e w5 ⟨rfl, hb5⟩; obtain ⟨c0, c1, c2, f0, f1, f2⟩ := cells3 (S1.step hb5).r; have G5 := Aside0.mk (S1.step hb5).below; clear hb5))
        refine bodyPost_ret (v := _) (by first | (simp [results, Try.results24, go_sem, *]; done) | (simp [results, Try.results24, go_sem, *]; rfl)) rfl ⟨by first | rfl | (simp [*]; done), ?_⟩
        (repeat (first | (with_reducible exact Below.refl _ _) | (with_reducible exact Aside0.out (by assumption)) | (with_reducible apply below_alloc) | (with_reducible apply pw_below_drewN) | (with_reducible apply Below.drew) | ((with_reducible refine Below.setCell ?_ ?_ _); rotate_left; (first | (simp; done) | (simp; omega) | exact Nat.le_refl _))))
      · obtain ⟨he, hs⟩ := he
        have hr2 : (r1, r2, r3) = entR (some (96, some 91)) fa1 na1 ta1 nb1 tb1 := by rw [hr1.out, he]
        replace hr2 : (r1, r2, r3) = (fun (fa na : Int) (ta : ByteArray) (nb : Int) (tb : ByteArray) => (2, tr ((fun q : Int => q != 0) (if fa = 6 then Lib.compareBytes ta.data.toList tb.data.toList else wrap64 (na - nb))), 0)) fa1 na1 ta1 nb1 tb1 := hr2.trans (by simp [entR])
        dsimp only at hr2
        have CC : ∀ (bx : Nat) (W : World) (hcb : W.cell? ⟨bx, 0, none⟩ = some (.func (.func 91) #[] #[])), Calls Try.prog 96 #[V fa1 na1 ta1, V fb1 nb1 tb1, .pointer (some ⟨bx, 0, none⟩)] W fun e w' => e = .returned (VR (r1, r2, r3)) ∧ Below W.heap.size W w' := by
          intro bx W hcb
          rw [hr2]; exact clo_rel_ne fa1 na1 fb1 nb1 ta1 tb1 bx W hcb (fun q : Int => q != 0) rne
        have CC' := Aside0.mk CC
        have he' := Aside0.mk he
        clear he hs hr2 CC
        go_wp2_with (first | (refine look_tab _ rfl _ _ rfl g m _ T2 rfl fa1 fb1 op rfl wfa wfb hop ?_; intro f ok hE; rw [he'.out] at hE; obtain ⟨rfl, bx, hbg, hf, hcb⟩ := hE; injection hf with hf; subst hf) | (refine (CC'.out _ _ (by assumption)).mono ?_; rintro e w5 ⟨rfl, hb5⟩; obtain ⟨c0, c1, c2, f0, f1, f2⟩ := cells3 (S1.step hb5).r; have G5 := Aside0.mk (S1.step hb5).below; clear hb5))
        refine bodyPost_ret (v := _) (by first | (simp [results, Try.results24, go_sem, *]; done) | (simp [results, Try.results24, go_sem, *]; rfl)) rfl ⟨by first | rfl | (simp [*]; done), ?_⟩
        (repeat (first | (with_reducible exact Below.refl _ _) | (with_reducible exact Aside0.out (by assumption)) | (with_reducible apply below_alloc) | (with_reducible apply pw_below_drewN) | (with_reducible apply Below.drew) | ((with_reducible refine Below.setCell ?_ ?_ _); rotate_left; (first | (simp; done) | (simp; omega) | exact Nat.le_refl _))))
      · obtain ⟨he, hs⟩ := he
        have hr2 : (r1, r2, r3) = entR (some (96, some 92)) fa1 na1 ta1 nb1 tb1 := by rw [hr1.out, he]
        replace hr2 : (r1, r2, r3) = (fun (fa na : Int) (ta : ByteArray) (nb : Int) (tb : ByteArray) => (2, tr ((fun q : Int => decide (q < 0)) (if fa = 6 then Lib.compareBytes ta.data.toList tb.data.toList else wrap64 (na - nb))), 0)) fa1 na1 ta1 nb1 tb1 := hr2.trans (by simp [entR])
        dsimp only at hr2
        have CC : ∀ (bx : Nat) (W : World) (hcb : W.cell? ⟨bx, 0, none⟩ = some (.func (.func 92) #[] #[])), Calls Try.prog 96 #[V fa1 na1 ta1, V fb1 nb1 tb1, .pointer (some ⟨bx, 0, none⟩)] W fun e w' => e = .returned (VR (r1, r2, r3)) ∧ Below W.heap.size W w' := by
          intro bx W hcb
          rw [hr2]; exact clo_rel_lt fa1 na1 fb1 nb1 ta1 tb1 bx W hcb (fun q : Int => decide (q < 0)) rlt
        have CC' := Aside0.mk CC
        have he' := Aside0.mk he
        clear he hs hr2 CC
        go_wp2_with (first | (refine look_tab _ rfl _ _ rfl g m _ T2 rfl fa1 fb1 op rfl wfa wfb hop ?_; intro f ok hE; rw [he'.out] at hE; obtain ⟨rfl, bx, hbg, hf, hcb⟩ := hE; injection hf with hf; subst hf) | (refine (CC'.out _ _ (by assumption)).mono ?_; rintro e w5 ⟨rfl, hb5⟩; obtain ⟨c0, c1, c2, f0, f1, f2⟩ := cells3 (S1.step hb5).r; have G5 := Aside0.mk (S1.step hb5).below; clear hb5))
        refine bodyPost_ret (v := _) (by first | (simp [results, Try.results24, go_sem, *]; done) | (simp [results, Try.results24, go_sem, *]; rfl)) rfl ⟨by first | rfl | (simp [*]; done), ?_⟩
        (repeat (first | (with_reducible exact Below.refl _ _) | (with_reducible exact Aside0.out (by assumption)) | (with_reducible apply below_alloc) | (with_reducible apply pw_below_drewN) | (with_reducible apply Below.drew) | ((with_reducible refine Below.setCell ?_ ?_ _); rotate_left; (first | (simp; done) | (simp; omega) | exact Nat.le_refl _))))
      · obtain ⟨he, hs⟩ := he
        have hr2 : (r1, r2, r3) = entR (some (96, some 93)) fa1 na1 ta1 nb1 tb1 := by rw [hr1.out, he]
        replace hr2 : (r1, r2, r3) = (fun (fa na : Int) (ta : ByteArray) (nb : Int) (tb : ByteArray) => (2, tr ((fun q : Int => decide (q ≤ 0)) (if fa = 6 then Lib.compareBytes ta.data.toList tb.data.toList else wrap64 (na - nb))), 0)) fa1 na1 ta1 nb1 tb1 := hr2.trans (by simp [entR])
        dsimp only at hr2
        have CC : ∀ (bx : Nat) (W : World) (hcb : W.cell? ⟨bx, 0, none⟩ = some (.func (.func 93) #[] #[])), Calls Try.prog 96 #[V fa1 na1 ta1, V fb1 nb1 tb1, .pointer (some ⟨bx, 0, none⟩)] W fun e w' => e = .returned (VR (r1, r2, r3)) ∧ Below W.heap.size W w' := by
          intro bx W hcb
          rw [hr2]; exact clo_rel_le fa1 na1 fb1 nb1 ta1 tb1 bx W hcb (fun q : Int => decide (q ≤ 0)) rle
        have CC' := Aside0.mk CC
        have he' := Aside0.mk he
        clear he hs hr2 CC
        go_wp2_with (first | (refine look_tab _ rfl _ _ rfl g m _ T2 rfl fa1 fb1 op rfl wfa wfb hop ?_; intro f ok hE; rw [he'.out] at hE; obtain ⟨rfl, bx, hbg, hf, hcb⟩ := hE; injection hf with hf; subst hf) | (refine (CC'.out _ _ (by assumption)).mono ?_; rintro e w5 ⟨rfl, hb5⟩; obtain ⟨c0, c1, c2, f0, f1, f2⟩ := cells3 (S1.step hb5).r; have G5 := Aside0.mk (S1.step hb5).below; clear hb5))
        refine bodyPost_ret (v := _) (by first | (simp [results, Try.results24, go_sem, *]; done) | (simp [results, Try.results24, go_sem, *]; rfl)) rfl ⟨by first | rfl | (simp [*]; done), ?_⟩
        (repeat (first | (with_reducible exact Below.refl _ _) | (with_reducible exact Aside0.out (by assumption)) | (with_reducible apply below_alloc) | (with_reducible apply pw_below_drewN) | (with_reducible apply Below.drew) | ((with_reducible refine Below.setCell ?_ ?_ _); rotate_left; (first | (simp; done) | (simp; omega) | exact Nat.le_refl _))))
      · obtain ⟨he, hs⟩ := he
        have hr2 : (r1, r2, r3) = entR (some (96, some 94)) fa1 na1 ta1 nb1 tb1 := by rw [hr1.out, he]
        replace hr2 : (r1, r2, r3) = (fun (fa na : Int) (ta : ByteArray) (nb : Int) (tb : ByteArray) => (2, tr ((fun q : Int => decide (0 < q)) (if fa = 6 then Lib.compareBytes ta.data.toList tb.data.toList else wrap64 (na - nb))), 0)) fa1 na1 ta1 nb1 tb1 := hr2.trans (by simp [entR])
        dsimp only at hr2
        have CC : ∀ (bx : Nat) (W : World) (hcb : W.cell? ⟨bx, 0, none⟩ = some (.func (.func 94) #[] #[])), Calls Try.prog 96 #[V fa1 na1 ta1, V fb1 nb1 tb1, .pointer (some ⟨bx, 0, none⟩)] W fun e w' => e = .returned (VR (r1, r2, r3)) ∧ Below W.heap.size W w' := by
          intro bx W hcb
          rw [hr2]; exact clo_rel_gt fa1 na1 fb1 nb1 ta1 tb1 bx W hcb (fun q : Int => decide (0 < q)) rgt
        have CC' := Aside0.mk CC
        have he' := Aside0.mk he
        clear he hs hr2 CC
        go_wp2_with (first | (refine look_tab _ rfl _ _ rfl g m _ T2 rfl fa1 fb1 op rfl wfa wfb hop ?_; intro f ok hE; rw [he'.out] at hE; obtain ⟨rfl, bx, hbg, hf, hcb⟩ := hE; injection hf with hf; subst hf) | (refine (CC'.out _ _ (by assumption)).mono ?_; rintro e w5 ⟨rfl, hb5⟩; obtain ⟨c0, c1, c2, f0, f1, f2⟩ := cells3 (S1.step hb5).r; have G5 := Aside0.mk (S1.step hb5).below; clear hb5))
        refine bodyPost_ret (v := _) (by first | (simp [results, Try.results24, go_sem, *]; done) | (simp [results, Try.results24, go_sem, *]; rfl)) rfl ⟨by first | rfl | (simp [*]; done), ?_⟩
        (repeat (first | (with_reducible exact Below.refl _ _) | (with_reducible exact Aside0.out (by assumption)) | (with_reducible apply below_alloc) | (with_reducible apply pw_below_drewN) | (with_reducible apply Below.drew) | ((with_reducible refine Below.setCell ?_ ?_ _); rotate_left; (first | (simp; done) | (simp; omega) | exact Nat.le_refl _))))
      · obtain ⟨he, hs⟩ := he
        have hr2 : (r1, r2, r3) = entR (some (96, some 95)) fa1 na1 ta1 nb1 tb1 := by rw [hr1.out, he]
        replace hr2 : (r1, r2, r3) = (fun (fa na : Int) (ta : ByteArray) (nb : Int) (tb : ByteArray) => (2, tr ((fun q : Int => decide (0 ≤ q)) (if fa = 6 then Lib.compareBytes ta.data.toList tb.data.toList else wrap64 (na - nb))), 0)) fa1 na1 ta1 nb1 tb1 := hr2.trans (by simp [entR])
        dsimp only at hr2
        have CC : ∀ (bx : Nat) (W : World) (hcb : W.cell? ⟨bx, 0, none⟩ = some (.func (.func 95) #[] #[])), Calls Try.prog 96 #[V fa1 na1 ta1, V fb1 nb1 tb1, .pointer (some ⟨bx, 0, none⟩)] W fun e w' => e = .returned (VR (r1, r2, r3)) ∧ Below W.heap.size W w' := by
          intro bx W hcb
          rw [hr2]; exact clo_rel_ge fa1 na1 fb1 nb1 ta1 tb1 bx W hcb (fun q : Int => decide (0 ≤ q)) rge
        have CC' := Aside0.mk CC
        have he' := Aside0.mk he
        clear he hs hr2 CC
        go_wp2_with (first | (refine look_tab _ rfl _ _ rfl g m _ T2 rfl fa1 fb1 op rfl wfa wfb hop ?_; intro f ok hE; rw [he'.out] at hE; obtain ⟨rfl, bx, hbg, hf, hcb⟩ := hE; injection hf with hf; subst hf) | (refine (CC'.out _ _ (by assumption)).mono ?_; rintro e w5 ⟨rfl, hb5⟩; obtain ⟨c0, c1, c2, f0, f1, f2⟩ := cells3 (S1.step hb5).r; have G5 := Aside0.mk (S1.step hb5).below; clear hb5))
        refine bodyPost_ret (v := _) (by first | (simp [results, Try.results24, go_sem, *]; done) | (simp [results, Try.results24, go_sem, *]; rfl)) rfl ⟨by first | rfl | (simp [*]; done), ?_⟩
        (repeat (first | (with_reducible exact Below.refl _ _) | (with_reducible exact Aside0.out (by assumption)) | (with_reducible apply below_alloc) | (with_reducible apply pw_below_drewN) | (with_reducible apply Below.drew) | ((with_reducible refine Below.setCell ?_ ?_ _); rotate_left; (first | (simp; done) | (simp; omega) | exact Nat.le_refl _))))
      · obtain ⟨he, hs⟩ := he
        have hr2 : (r1, r2, r3) = entR (some (60, some 58)) fa1 na1 ta1 nb1 tb1 := by rw [hr1.out, he]
        replace hr2 : (r1, r2, r3) = (fun (fa na : Int) (ta : ByteArray) (nb : Int) (tb : ByteArray) => (2, tr (Go.bits .and .i64 na nb == 1), 0)) fa1 na1 ta1 nb1 tb1 := hr2.trans (by simp [entR])
        dsimp only at hr2
        have CC : ∀ (bx : Nat) (W : World) (hcb : W.cell? ⟨bx, 0, none⟩ = some (.func (.func 58) #[] #[])), Calls Try.prog 60 #[V fa1 na1 ta1, V fb1 nb1 tb1, .pointer (some ⟨bx, 0, none⟩)] W fun e w' => e = .returned (VR (r1, r2, r3)) ∧ Below W.heap.size W w' := by
          intro bx W hcb
          rw [hr2]; exact clo_bool_and fa1 na1 fb1 nb1 ta1 tb1 bx W hcb _ (band _ _)
        have CC' := Aside0.mk CC
        have he' := Aside0.mk he
        clear he hs hr2 CC
        go_wp2_with (first | (refine look_tab _ rfl _ _ rfl g m _ T2 rfl fa1 fb1 op rfl wfa wfb hop ?_; intro f ok hE; rw [he'.out] at hE; obtain ⟨rfl, bx, hbg, hf, hcb⟩ := hE; injection hf with hf; subst hf) | (refine (CC'.out _ _ (by assumption)).mono ?_; rintro e w5 ⟨rfl, hb5⟩; obtain ⟨c0, c1, c2, f0, f1, f2⟩ := cells3 (S1.step hb5).r; have G5 := Aside0.mk (S1.step hb5).below; clear hb5))
        refine bodyPost_ret (v := _) (by first | (simp [results, Try.results24, go_sem, *]; done) | (simp [results, Try.results24, go_sem, *]; rfl)) rfl ⟨by first | rfl | (simp [*]; done), ?_⟩
        (repeat (first | (with_reducible exact Below.refl _ _) | (with_reducible exact Aside0.out (by assumption)) | (with_reducible apply below_alloc) | (with_reducible apply pw_below_drewN) | (with_reducible apply Below.drew) | ((with_reducible refine Below.setCell ?_ ?_ _); rotate_left; (first | (simp; done) | (simp; omega) | exact Nat.le_refl _))))
      · obtain ⟨he, hs⟩ := he
        have hr2 : (r1, r2, r3) = entR (some (60, some 59)) fa1 na1 ta1 nb1 tb1 := by rw [hr1.out, he]
        replace hr2 : (r1, r2, r3) = (fun (fa na : Int) (ta : ByteArray) (nb : Int) (tb : ByteArray) => (2, tr (Go.bits .or .i64 na nb == 1), 0)) fa1 na1 ta1 nb1 tb1 := hr2.trans (by simp [entR])
        dsimp only at hr2
        have CC : ∀ (bx : Nat) (W : World) (hcb : W.cell? ⟨bx, 0, none⟩ = some (.func (.func 59) #[] #[])), Calls Try.prog 60 #[V fa1 na1 ta1, V fb1 nb1 tb1, .pointer (some ⟨bx, 0, none⟩)] W fun e w' => e = .returned (VR (r1, r2, r3)) ∧ Below W.heap.size W w' := by
          intro bx W hcb
          rw [hr2]; exact clo_bool_or fa1 na1 fb1 nb1 ta1 tb1 bx W hcb _ (bor _ _)
        have CC' := Aside0.mk CC
        have he' := Aside0.mk he
        clear he hs hr2 CC
        go_wp2_with (first | (refine look_tab _ rfl _ _ rfl g m _ T2 rfl fa1 fb1 op rfl wfa wfb hop ?_; intro f ok hE; rw [he'.out] at hE; obtain ⟨rfl, bx, hbg, hf, hcb⟩ := hE; injection hf with hf; subst hf) | (refine (CC'.out _ _ (by assumption)).mono ?_; rintro e w5 ⟨rfl, hb5⟩; obtain ⟨c0, c1, c2, f0, f1, f2⟩ := cells3 (S1.step hb5).r; have G5 := Aside0.mk (S1.step hb5).below; clear hb5))
        refine bodyPost_ret (v := _) (by first | (simp [results, Try.results24, go_sem, *]; done) | (simp [results, Try.results24, go_sem, *]; rfl)) rfl ⟨by first | rfl | (simp [*]; done), ?_⟩
        (repeat (first | (with_reducible exact Below.refl _ _) | (with_reducible exact Aside0.out (by assumption)) | (with_reducible apply below_alloc) | (with_reducible apply pw_below_drewN) | (with_reducible apply Below.drew) | ((with_reducible refine Below.setCell ?_ ?_ _); rotate_left; (first | (simp; done) | (simp; omega) | exact Nat.le_refl _))))
    · intro x hx c kl y ps w2 cnt2 hkl hlk hy hat hrg2 hlt2 hg2 hs2 hen
      obtain rfl := lit9 ⟨x, hx⟩ kl hkl
      obtain ⟨f, hf⟩ : ∃ f, booF x.data.toList = some f := Option.isSome_iff_exists.1 (by rw [← (d2 _).1]; exact hin _ hlk)
      have hc : c = fn f := by
        have h1 := hat .nil
        rw [(d2 _).2 f hf] at h1
        simp only [MapFn.RV, Option.some.injEq, Prod.mk.injEq] at hy
        rw [← hy.1] at h1
        injection h1 with h1
        exact h1.symm
      subst hc
      clear hat hkl hy a0 a1 a2 af0 af1 af2 b0 b1 b2 bf0 bf1 bf2
      have gg : w2.grownBy (w2.alloc (.cells #[fn f] 55)) none := World.grownBy_alloc w2 _ none
      have T2 := (T1.kept hg2 (by intro e; exact iter_ne hrg1 T1 (Option.some.inj e)) (by intro r hr; cases hr; exact iter_no hrg1)).kept gg (by simp) (by simp)
      have S2 : Sta w (w2.alloc (.cells #[fn f] 55)) fa1 na1 fb1 nb1 0 0 ta1 tb1 E0 := (S1.grown hg2 (by omega)).grown (gg.but (some g)) hgl
      have hrg3 := hrg2.kept gg (by simp) (by simp)
      have hcb : (w2.alloc (.cells #[fn f] 55)).cell? ⟨w2.heap.size, 0, none⟩ = some (fn f) := cell_new _ _ _
      have hgb : w2.heap.size ≠ g := by
        have := T1.lt
        have := hg2.size
        omega
      have hL := hrg1.left_eq
      have hRg : g ≠ R := iter_ne hrg1 T1
      have hs2' := Aside0.mk hs2
      clear hs2 gg hg2 T1 S1 hrg1 hrg2
      go_wp2_with (refine put_tab _ rfl _ _ _ rfl g m _ T2 (by unfold maxLen; omega) rfl 2 2 x (60, some f) _ rfl rfl (by decide) (by decide) hx ⟨rfl, _, hgb, rfl, hcb⟩ ?_; intro w6 T6 hg6; try go_frame)
      have hrg6 := hrg3.kept hg6 (by intro e; exact absurd (Option.some.inj e) (by omega)) (by intro e; exact hRg (Option.some.inj e).symm)
      go_roundw
      case rel => exact ⟨_, cnt2, _, hrg6, T6.alike (booSt_put _ f left _ hf), by omega, S2.grown hg6 hgl, fun kl hk => hin kl (by simp only [Bool.and_eq_true] at hk; exact hk.1)⟩
      case measure => rw [hrg6.left_eq, hL]; exact hlt2
end Go.Proofs.Ytkkgocbecnefnaa.Two
