/- The law ConstsOrder: of two constants of one form that have an order just one holds of below, equal and above; walked. -/
import Derived.Test.YtjimcgmefpienaaLaw12
import Derived.Test.YtjimcgmefpienaaOrderPure
import Derived.Laws.AppendOwn
import Derived.Deep.AppendLies
import Derived.Deep.RegionHeld3
import Derived.StillTailTactics
namespace Go.Proofs.Ytjimcgmefpienaa.LawOrder
open Go.RowKit Go.Maps Go.Proofs.Ytjimcgmefpienaa.Tab Go.Proofs.Ytjimcgmefpienaa.Plain Go.Proofs.Ytjimcgmefpienaa.Small Go.Proofs.Ytjimcgmefpienaa.Rels Go.Proofs.Ytjimcgmefpienaa.Two Go.Proofs.Ytjimcgmefpienaa.Wakes Go.Proofs.Ytjimcgmefpienaa.OrderPure Go.Proofs.Ytjimcgmefpienaa.Law12 Go.Proofs.YtjimcgmefpienaaW.PrintWords Go.Proofs.YtjimcgmefpienaaW.PrintLast Go.Proofs.YtjimcgmefpienaaW.PrintMore
set_option linter.unusedVariables false
set_option linter.unusedSimpArgs false

abbrev strs : Obj := .cells #[.string (ByteArray.mk #[60]), .string (ByteArray.mk #[61]), .string (ByteArray.mk #[62]), .string (ByteArray.mk #[60, 61]), .string (ByteArray.mk #[35]), .string (ByteArray.mk #[62, 61])] 9
/-- What stays true in the rounds. -/
structure Ro (w : World) (pl : Nat) (fa na : Int) (ta : ByteArray) (fb nb : Int) (tb : ByteArray) (q : Int) (v : Value) (i : Nat) (W : World) : Prop where
  fb : Fb w [(w.heap.size + 1, fb, nb, tb), (w.heap.size, fa, na, ta)] W
  l : W.heap[pl]? = some strs
  own : W.ownsRow (pl + 1) 3 1 v i ((List.range i).map fun j => .int .i64 (val q j))
  hp : w.heap.size + 1 < pl
theorem far_heap {W : World} {p o : Nat} {x : Value} {j : Nat} (h : j ≠ p) : (W.setCell ⟨p, o, none⟩ x).heap[j]? = W.heap[j]? := by
  unfold World.setCell
  simp only [Array.getElem?_modify]
  rw [if_neg (by show ¬ p = j; omega)]
section
variable {w W W2 : World} {pl : Nat} {fa na : Int} {ta : ByteArray} {fb nb : Int} {tb : ByteArray} {q : Int} {v : Value} {i : Nat}
theorem Ro.step (h : Ro w pl fa na ta fb nb tb q v i W) (k : Below W.heap.size W W2) : Ro w pl fa na ta fb nb tb q v i W2 :=
  ⟨Fb.step k h.fb, blk_below h.l k, own_move h.own (fun j hj => k.block j (h.own.lt j hj).2), h.hp⟩
theorem Ro.alloc (h : Ro w pl fa na ta fb nb tb q v i W) (o : Obj) : Ro w pl fa na ta fb nb tb q v i (W.alloc o) := h.step (below_alloc (Below.refl _ _) o)
theorem Ro.drew (h : Ro w pl fa na ta fb nb tb q v i W) : Ro w pl fa na ta fb nb tb q v i W.drew := h.step (Below.drew (Below.refl _ _))
theorem Ro.grown {v' : Value} (h : Ro w pl fa na ta fb nb tb q v i W) (k : W.grownBy W2 v.ownBlock) (o : W2.ownsRow (pl + 1) 3 1 v' (i + 1) ((List.range i).map (fun j => .int .i64 (val q j)) ++ [.int .i64 (val q i)])) : Ro w pl fa na ta fb nb tb q v' (i + 1) W2 := by
  have hl : pl < W.heap.size := blk_lt h.l
  have hne : ∀ j, j ≤ pl → some j ≠ v.ownBlock := fun j hj e => by have := (h.own.lt j e.symm).1; omega
  refine ⟨⟨fun x hx => ?_, h.fb.2.grown k h.fb.2.size (fun j hj => ?_)⟩, (k.block pl hl (hne pl (Nat.le_refl _))).trans h.l, ?_, h.hp⟩
  · have hb := h.fb.1 x hx
    have hx1 : x.1 ≤ pl := by
      have hp := h.hp
      simp at hx
      rcases hx with rfl | rfl
      · exact Nat.le_of_lt hp
      · exact Nat.le_of_lt (Nat.lt_of_succ_lt hp)
    exact (k.block x.1 (blk_lt hb) (hne x.1 hx1)).trans hb
  · have := (h.own.lt j hj).1
    have := h.hp
    omega
  · rw [List.range_succ, List.map_append]; exact o
theorem Ro.set {W0 : World} (h : Ro w pl fa na ta fb nb tb q v i W) (h0 : Ro w pl fa na ta fb nb tb q v i W0) (hb : blk W W0.heap.size 0 0 E0) (x y z : Value) :
    Ro w pl fa na ta fb nb tb q v i (((W.setCell ⟨W0.heap.size, 0, none⟩ x).setCell ⟨W0.heap.size, 1, none⟩ y).setCell ⟨W0.heap.size, 2, none⟩ z) := by
  have hl0 := blk_lt h0.l
  have hp := h.hp
  refine ⟨⟨fun k hk => ?_, ((h.fb.2.setCell (show w.heap.size ≤ W0.heap.size by omega) _).setCell (show w.heap.size ≤ W0.heap.size by omega) _).setCell (show w.heap.size ≤ W0.heap.size by omega) _⟩, ?_, ?_, hp⟩
  · have hk0 := blk_lt (h0.fb.1 k hk)
    have hne : k.1 ≠ W0.heap.size := by omega
    exact blk_far (blk_far (blk_far (h.fb.1 k hk) hne _) hne _) hne _
  · have hne : pl ≠ W0.heap.size := by omega
    exact blk_far (blk_far (blk_far h.l hne _) hne _) hne _
  · refine own_move h.own (fun j hj => ?_)
    have hj0 := (h0.own.lt j hj).2
    rw [far_heap (by omega), far_heap (by omega), far_heap (by omega)]
/-- The loads of a round. -/
def Ls (w : World) (pl : Nat) (fa na : Int) (ta : ByteArray) (fb nb : Int) (tb : ByteArray) (i : Nat) (W : World) : Prop :=
  W.cell? ⟨pl, i, none⟩ = some (.string (sgn i)) ∧ W.cell? ⟨w.heap.size, 0, none⟩ = some (.int .i64 fa) ∧ W.cell? ⟨w.heap.size, 1, none⟩ = some (.int .i64 na) ∧ W.cell? ⟨w.heap.size, 2, none⟩ = some (.string ta) ∧
    W.cell? ⟨w.heap.size + 1, 0, none⟩ = some (.int .i64 fb) ∧ W.cell? ⟨w.heap.size + 1, 1, none⟩ = some (.int .i64 nb) ∧ W.cell? ⟨w.heap.size + 1, 2, none⟩ = some (.string tb)
theorem Ro.loads (h : Ro w pl fa na ta fb nb tb q v i W) (j : Nat) (hj : j < 6) : Ls w pl fa na ta fb nb tb j W := by
  obtain ⟨a0, a1, a2⟩ := h.fb.get w.heap.size fa na ta (by simp)
  obtain ⟨b0, b1, b2⟩ := h.fb.get (w.heap.size + 1) fb nb tb (by simp)
  refine ⟨(blk_cell h.l j).trans ?_, a0, a1, a2, b0, b1, b2⟩
  match j, hj with
  | 0, _ => rfl
  | 1, _ => rfl
  | 2, _ => rfl
  | 3, _ => rfl
  | 4, _ => rfl
  | 5, _ => rfl
  | j + 6, hj => omega
end
theorem lits (q : Int) : (val q 0 = 1 ∧ val q 1 = 0 ∧ val q 2 = 0 ∧ val q 3 = 1 ∧ val q 4 = 1 ∧ val q 5 = 0) ∨ (val q 0 = 0 ∧ val q 1 = 1 ∧ val q 2 = 0 ∧ val q 3 = 1 ∧ val q 4 = 0 ∧ val q 5 = 1) ∨
    (val q 0 = 0 ∧ val q 1 = 0 ∧ val q 2 = 1 ∧ val q 3 = 0 ∧ val q 4 = 1 ∧ val q 5 = 1) := by
  have cs : q < 0 ∨ q = 0 ∨ 0 < q := by omega
  rcases cs with h | h | h
  · have e1 : ¬ q = 0 := by omega
    have e2 : ¬ 0 < q := by omega
    have e3 : q ≤ 0 := by omega
    have e4 : ¬ 0 ≤ q := by omega
    simp [val, tr, h, e1, e2, e3, e4]
  · subst h
    simp [val, tr]
  · have e1 : ¬ q = 0 := by omega
    have e2 : ¬ q < 0 := by omega
    have e3 : ¬ q ≤ 0 := by omega
    have e4 : 0 ≤ q := by omega
    simp [val, tr, h, e1, e2, e3, e4]
theorem infoInt : (Try.prog.info? 3).map (fun i => (i.zero, i.size, i.bytes)) = some (some (.int .i64 0), 1, 8) := by kernel_rfl
set_option maxRecDepth 100000 in
set_option maxHeartbeats 8000000 in
theorem walk_no (fa na : Int) (ta : ByteArray) (fb nb : Int) (tb : ByteArray) (w : World) (r1 r2 r3 : Int) (hr : r3 ≠ 0) (hlg : (decide (ta.size > 5000) || decide (tb.size > 5000)) = false)
    (I1 : ∀ W, Calls Try.prog 12 #[.string (ByteArray.mk #[60]), V fa na ta, V fb nb tb] W fun e w' => e = .returned (VR (r1, r2, r3)) ∧ Below W.heap.size W w')
    (I2 : ∀ W, Calls Try.prog 13 #[.string (ByteArray.mk #[60]), V fa na ta, V fb nb tb] W fun e w' => e = .returned (VR (r1, r2, r3)) ∧ Below W.heap.size W w') :
    Calls Try.prog 6 #[V fa na ta, V fb nb tb] w fun e w' => e = .returned (.bool true) ∧ Below w.heap.size w w' := by
  have Wk := Aside0.mk wakes_any
  have LG := Aside0.mk (fun b W h => large2 fa na ta fb nb tb b W h)
  rw [hlg] at LG
  have J1 := Aside0.mk I1
  have J2 := Aside0.mk I2
  have n1 : (r3 != 0) = true := bne_iff_ne.2 hr
  have n2 : (r3 == r3) = true := beq_self_eq_true r3
  clear hlg I1 I2 hr
  go_enter Try.func6, Try.ntmps6
  have J := (Fb.nil w).push2 fa na ta fb nb tb
  go_upto_region 1 with (fail)
  refine wp_of_world (fun W => Fb w [(w.heap.size + 1, fb, nb, tb), (w.heap.size, fa, na, ta)] W) J ?_
  clear J
  rintro W1 H
  obtain ⟨l00, l01, l02⟩ := H.get w.heap.size fa na ta (by simp)
  obtain ⟨l10, l11, l12⟩ := H.get (w.heap.size + 1) fb nb tb (by simp)
  have HH := Aside0.mk H
  clear H
  have hq := Aside0.mk (MapKept.heap_alloc W1 (.cells #[.int .i64 fa, .int .i64 na, .string ta, .int .i64 fb, .int .i64 nb, .string tb] 23)).1
  go_wp2_with fail
  refine (LG.out _ _ hq.out).mono ?_
  rintro e v1 ⟨rfl, nd, rfl⟩
  have H := (HH.out.alloc (.cells #[.int .i64 fa, .int .i64 na, .string ta, .int .i64 fb, .int .i64 nb, .string tb] 23)).drewN nd
  generalize (W1.alloc (.cells #[.int .i64 fa, .int .i64 na, .string ta, .int .i64 fb, .int .i64 nb, .string tb] 23)).drewN nd = W2 at *
  clear HH hq l00 l01 l02 l10 l11 l12
  have hpl : w.heap.size + 1 < W2.heap.size := blk_lt (H.1 (w.heap.size + 1, fb, nb, tb) (by simp))
  have R : Ro w W2.heap.size fa na ta fb nb tb 0 (.slice none 0 0) 0 (W2.alloc strs) := by
    refine ⟨H.alloc _, ?_, World.ownsRow_nil _ _ _ _, ?_⟩
    · exact (MapKept.heap_alloc W2 strs).1
    · exact blk_lt (H.1 (w.heap.size + 1, fb, nb, tb) (by simp))
  have R := Aside0.mk R
  clear H
  go_upto_region 4 with (fail)
  refine wp_of_world (fun W => Ro w W2.heap.size fa na ta fb nb tb 0 (.slice none 0 0) 0 W) R.out ?_
  clear R hpl
  generalize W2.heap.size = pl at *
  rintro W4 R
  have R := Aside0.mk R
  go_wp2_with fail
  refine wp_loop_rounds 1 ?_
  rw [rounds_succ]
  go_upto_region 8 with (fail)
  have Rd8 := R.out.drew
  go_cut [8, 9] (fun va vb wc => ∃ p, va = .pointer (some ⟨p, 0, none⟩) ∧ vb = .int .i64 r3 ∧ Ro w pl fa na ta fb nb tb 0 (.slice none 0 0) 0 wc)
  case first =>
    go_region_held3 (fun w' => Ro w pl fa na ta fb nb tb 0 (.slice none 0 0) 0 w' ∧ w'.cell? ⟨pl, 0, none⟩ = some (.string (ByteArray.mk #[60])) ∧ w'.cell? ⟨w.heap.size, 0, none⟩ = some (.int .i64 fa) ∧ w'.cell? ⟨w.heap.size, 1, none⟩ = some (.int .i64 na) ∧ w'.cell? ⟨w.heap.size, 2, none⟩ = some (.string ta) ∧
        w'.cell? ⟨w.heap.size + 1, 0, none⟩ = some (.int .i64 fb) ∧ w'.cell? ⟨w.heap.size + 1, 1, none⟩ = some (.int .i64 nb) ∧ w'.cell? ⟨w.heap.size + 1, 2, none⟩ = some (.string tb))
      (first
        | (exact ⟨Rd8, Rd8.loads 0 (by decide)⟩)
        | (exact ⟨Rd8.alloc _, (Rd8.alloc _).loads 0 (by decide)⟩)
        | (exact ⟨R9, R9.loads 0 (by decide)⟩)
        | (exact ⟨R9.alloc _, (R9.alloc _).loads 0 (by decide)⟩)
        | (exact ⟨K9.out _ _ _, (K9.out _ _ _).loads 0 (by decide)⟩))
      (first
      | (go_at_call 12; refine (J1.out _).mono ?_; rintro e w9 ⟨rfl, hb9⟩; have R9 := Ro.step (by first | exact Rd8 | exact Ro.alloc Rd8 _) hb9; (try (have B9 : w9.heap[W4.heap.size]? = some (.cells #[.int .i64 0, .int .i64 0, .string E0] 23 (0, 0)) := mid (w := W4.drew) _ hb9; obtain ⟨m0, m1, m2, mf0, mf1, mf2⟩ := cells3 B9; have K9 := Aside0.mk (R9.set R.out B9); clear B9)); clear hb9))
    all_goals
      go_wp2_with fail
      go_meet
      first
      | exact ⟨_, rfl, rfl, R9.alloc _⟩
      | exact ⟨_, rfl, rfl, K9.out _ _ _⟩
  case rest =>
  obtain ⟨p8, rfl, rfl, R2⟩ := hcut
  clear Rd8
  generalize wc = W6 at *
  go_upto_region 10 with (fail)
  have Rd10 := R2.drew
  go_cut [10, 11] (fun va vb wc => ∃ p, va = .pointer (some ⟨p, 0, none⟩) ∧ vb = .int .i64 r3 ∧ Ro w pl fa na ta fb nb tb 0 (.slice none 0 0) 0 wc)
  case first =>
    go_region_held3 (fun w' => Ro w pl fa na ta fb nb tb 0 (.slice none 0 0) 0 w' ∧ w'.cell? ⟨pl, 0, none⟩ = some (.string (ByteArray.mk #[60])) ∧ w'.cell? ⟨w.heap.size, 0, none⟩ = some (.int .i64 fa) ∧ w'.cell? ⟨w.heap.size, 1, none⟩ = some (.int .i64 na) ∧ w'.cell? ⟨w.heap.size, 2, none⟩ = some (.string ta) ∧
        w'.cell? ⟨w.heap.size + 1, 0, none⟩ = some (.int .i64 fb) ∧ w'.cell? ⟨w.heap.size + 1, 1, none⟩ = some (.int .i64 nb) ∧ w'.cell? ⟨w.heap.size + 1, 2, none⟩ = some (.string tb))
      (first
        | (exact ⟨Rd10, Rd10.loads 0 (by decide)⟩)
        | (exact ⟨Rd10.alloc _, (Rd10.alloc _).loads 0 (by decide)⟩)
        | (exact ⟨R9, R9.loads 0 (by decide)⟩)
        | (exact ⟨R9.alloc _, (R9.alloc _).loads 0 (by decide)⟩)
        | (exact ⟨K9.out _ _ _, (K9.out _ _ _).loads 0 (by decide)⟩))
      (first
      | (go_at_call 13; refine (J2.out _).mono ?_; rintro e w9 ⟨rfl, hb9⟩; have R9 := Ro.step (by first | exact Rd10 | exact Ro.alloc Rd10 _) hb9; (try (have B9 : w9.heap[W6.heap.size]? = some (.cells #[.int .i64 0, .int .i64 0, .string E0] 23 (0, 0)) := mid (w := W6.drew) _ hb9; obtain ⟨m0, m1, m2, mf0, mf1, mf2⟩ := cells3 B9; have K9 := Aside0.mk (R9.set R2 B9); clear B9)); clear hb9))
    all_goals
      go_wp2_with fail
      go_meet
      first
      | exact ⟨_, rfl, rfl, R9.alloc _⟩
      | exact ⟨_, rfl, rfl, K9.out _ _ _⟩
  case rest =>
  obtain ⟨p10, rfl, rfl, R3⟩ := hcut
  clear Rd10
  clear R2 R
  have R3 := Aside0.mk R3
  go_wp2_with fail
  refine (Wk.out _).mono ?_
  rintro e w8 ⟨rfl, hb8⟩
  have G := Aside0.mk (below_step R3.out.fb.2 hb8)
  clear hb8
  go_wp2_with fail
  go_ret
  exact ⟨rfl, G.out⟩
set_option maxRecDepth 100000 in
set_option maxHeartbeats 8000000 in
theorem walk_six (fa na : Int) (ta : ByteArray) (fb nb : Int) (tb : ByteArray) (w : World) (q : Int) (hlg : (decide (ta.size > 5000) || decide (tb.size > 5000)) = false)
    (I : ∀ i, i < 6 → ∀ W, Calls Try.prog 12 #[.string (sgn i), V fa na ta, V fb nb tb] W fun e w' => e = .returned (VR (2, val q i, 0)) ∧ Below W.heap.size W w') :
    Calls Try.prog 6 #[V fa na ta, V fb nb tb] w fun e w' => e = .returned (.bool true) ∧ Below w.heap.size w w' := by
  have Wk := Aside0.mk wakes_any
  have LG := Aside0.mk (fun b W h => large2 fa na ta fb nb tb b W h)
  rw [hlg] at LG
  have IA := Aside0.mk I
  clear hlg I
  obtain ⟨i0, hi, hz0, hz1, hz2⟩ := info_parts infoInt
  go_enter Try.func6, Try.ntmps6
  have J := (Fb.nil w).push2 fa na ta fb nb tb
  go_upto_region 1 with (fail)
  refine wp_of_world (fun W => Fb w [(w.heap.size + 1, fb, nb, tb), (w.heap.size, fa, na, ta)] W) J ?_
  clear J
  rintro W1 H
  obtain ⟨l00, l01, l02⟩ := H.get w.heap.size fa na ta (by simp)
  obtain ⟨l10, l11, l12⟩ := H.get (w.heap.size + 1) fb nb tb (by simp)
  have HH := Aside0.mk H
  clear H
  have hq := Aside0.mk (MapKept.heap_alloc W1 (.cells #[.int .i64 fa, .int .i64 na, .string ta, .int .i64 fb, .int .i64 nb, .string tb] 23)).1
  go_wp2_with fail
  refine (LG.out _ _ hq.out).mono ?_
  rintro e v1 ⟨rfl, nd, rfl⟩
  have H := (HH.out.alloc (.cells #[.int .i64 fa, .int .i64 na, .string ta, .int .i64 fb, .int .i64 nb, .string tb] 23)).drewN nd
  generalize (W1.alloc (.cells #[.int .i64 fa, .int .i64 na, .string ta, .int .i64 fb, .int .i64 nb, .string tb] 23)).drewN nd = W2 at *
  clear HH hq l00 l01 l02 l10 l11 l12
  have hpl : w.heap.size + 1 < W2.heap.size := blk_lt (H.1 (w.heap.size + 1, fb, nb, tb) (by simp))
  have R : Ro w W2.heap.size fa na ta fb nb tb q (.slice none 0 0) 0 (W2.alloc strs) := by
    refine ⟨H.alloc _, ?_, World.ownsRow_nil _ _ _ _, ?_⟩
    · exact (MapKept.heap_alloc W2 strs).1
    · exact blk_lt (H.1 (w.heap.size + 1, fb, nb, tb) (by simp))
  have R := Aside0.mk R
  clear H
  go_upto_region 4 with (fail)
  refine wp_of_world (fun W => Ro w W2.heap.size fa na ta fb nb tb q (.slice none 0 0) 0 W) R.out ?_
  clear R hpl
  generalize W2.heap.size = pl at *
  rintro W4 R
  have R := Aside0.mk R
  go_wp2_with fail
  go_loopg [6, 7] 7 (fun kq v6 v7 wr => ∃ i : Nat, v7 = .int .i64 i ∧ i + kq = 7 ∧ 0 < kq ∧ Aside0 (Ro w pl fa na ta fb nb tb q v6 i wr))
  case atStart => exact ⟨0, rfl, by omega, by omega, R⟩
  case round =>
    obtain ⟨i, rfl, hik, hk0, R⟩ := hrel
    by_cases hlt : i < 6
    · have d1 : decide ((i : Int) < 6) = true := decide_eq_true (by omega)
      have hgs := Aside0.mk (IA.out i hlt)
      go_upto_region 8 with (fail)
      have Rd := R.out.drew
      have hlt' := Aside0.mk hlt
      have p1 := eq_true (show (0 : Int) ≤ (i : Int) by omega)
      have q1 := eq_true (show (i : Int) < 6 by omega)
      go_cut [8, 9] (fun v8 v9 wc => ∃ p, v8 = .pointer (some ⟨p, 0, none⟩) ∧ v9 = .int .i64 0 ∧ wc.cell? ⟨p, 1, none⟩ = some (.int .i64 (val q i)) ∧ Ro w pl fa na ta fb nb tb q u6 i wc)
      case first =>
        go_region_held3 (fun w' => Ro w pl fa na ta fb nb tb q u6 i w' ∧ w'.cell? ⟨pl, i, none⟩ = some (.string (sgn i)) ∧ w'.cell? ⟨w.heap.size, 0, none⟩ = some (.int .i64 fa) ∧ w'.cell? ⟨w.heap.size, 1, none⟩ = some (.int .i64 na) ∧ w'.cell? ⟨w.heap.size, 2, none⟩ = some (.string ta) ∧
            w'.cell? ⟨w.heap.size + 1, 0, none⟩ = some (.int .i64 fb) ∧ w'.cell? ⟨w.heap.size + 1, 1, none⟩ = some (.int .i64 nb) ∧ w'.cell? ⟨w.heap.size + 1, 2, none⟩ = some (.string tb))
          (first
            | (exact ⟨Rd, Rd.loads i hlt'.out⟩)
            | (exact ⟨Rd.alloc _, (Rd.alloc _).loads i hlt'.out⟩)
            | (exact ⟨R9, R9.loads i hlt'.out⟩)
            | (exact ⟨R9.alloc _, (R9.alloc _).loads i hlt'.out⟩)
            | (exact ⟨K9.out _ _ _, (K9.out _ _ _).loads i hlt'.out⟩))
          (first
          | (go_at_call 12; refine (hgs.out _).mono ?_; rintro e w9 ⟨rfl, hb9⟩; have R9 := Ro.step (by first | exact Rd | exact Ro.alloc Rd _) hb9; (try (have B9 : w9.heap[wr.heap.size]? = some (.cells #[.int .i64 0, .int .i64 0, .string E0] 23 (0, 0)) := mid (w := wr.drew) _ hb9; obtain ⟨m0, m1, m2, mf0, mf1, mf2⟩ := cells3 B9; have K9 := Aside0.mk (R9.set R.out B9); have P9 := Aside0.mk B9; clear B9)); clear hb9))
        all_goals
          go_wp2_with fail
          go_meet
          first
          | exact ⟨_, rfl, rfl, (cells3 (MapKept.heap_alloc w9 _).1).2.1, R9.alloc _⟩
          | exact ⟨_, rfl, rfl, (cells3 (put3 P9.out)).2.1, K9.out _ _ _⟩
      case rest =>
      obtain ⟨p, rfl, rfl, hc, R2⟩ := hcut
      clear p1 q1
      clear Rd hgs R
      go_wp2_with (at_builtin; refine wpList_append_own _ rfl _ _ 40 rfl (pl + 1) 3 i0 (.int .i64 0) 1 8 Try.underlying40 hi hz0 hz1 hz2 rfl (by decide) _ _ _ rfl (R2.alloc _).own ⟨wc.heap.size, 0, none⟩ 1 1 [.int .i64 (val q i)] rfl rfl ?c1 ?c2 ?c3 ?c4 ?c5 ?_)
      case c1 =>
        intro j u hj
        match j, hj with
        | 0, hj => simp at hj; subst hj; simp [Addr.add]
        | j + 1, hj => simp at hj
      case c2 => intro u hu; simp at hu; subst hu; rfl
      case c3 => unfold maxLen; omega
      case c4 => omega
      case c5 =>
        have := blk_lt R2.l
        simp
        omega
      intro v' w1 hown' hgrow _
      have R3 := Aside0.mk ((R2.alloc _).grown hgrow hown')
      clear hown' hgrow hc R2
      go_wp2_with fail
      go_roundg (gk - 1)
      case rel => exact ⟨i + 1, by go_num, by omega, by omega, R3⟩
      case measure => omega
    · obtain rfl : i = 6 := by omega
      have d1 : decide ((6 : Int) < 6) = false := by decide
      obtain ⟨g, cap, hv, hg1, hg2⟩ := R.out.own.form (by decide)
      subst hv
      have hcell := fun j u hu => R.out.own.cells (g := g) rfl j u hu
      have hB := Aside0.mk R.out.fb.2
      have c0 : wr.cell? ⟨g, 0, none⟩ = some (.int .i64 (val q 0)) := hcell 0 (.int .i64 (val q 0)) rfl
      have c1 : wr.cell? ⟨g, 1, none⟩ = some (.int .i64 (val q 1)) := hcell 1 (.int .i64 (val q 1)) rfl
      have c2 : wr.cell? ⟨g, 2, none⟩ = some (.int .i64 (val q 2)) := hcell 2 (.int .i64 (val q 2)) rfl
      have c3 : wr.cell? ⟨g, 3, none⟩ = some (.int .i64 (val q 3)) := hcell 3 (.int .i64 (val q 3)) rfl
      have c4 : wr.cell? ⟨g, 4, none⟩ = some (.int .i64 (val q 4)) := hcell 4 (.int .i64 (val q 4)) rfl
      have c5 : wr.cell? ⟨g, 5, none⟩ = some (.int .i64 (val q 5)) := hcell 5 (.int .i64 (val q 5)) rfl
      clear hcell R hg1 hg2
      clear IA hik hk0 hlt LG
      rcases lits q with ⟨e0, e1, e2, e3, e4, e5⟩ | ⟨e0, e1, e2, e3, e4, e5⟩ | ⟨e0, e1, e2, e3, e4, e5⟩
      · rw [e0] at c0
        rw [e1] at c1
        rw [e2] at c2
        rw [e3] at c3
        rw [e4] at c4
        rw [e5] at c5
        clear e0 e1 e2 e3 e4 e5
        have hBd := Aside0.mk (Below.drew hB.out)
        go_upto_region 13 with (fail)
        clear R hi hz0 hz1 hz2
        go_still_tail 49, (by kernel_rfl)
        change wpList _ _ _ _ _ wr.drew
        generalize wr.drew = w2 at *
        go_wp2_with fail
        refine (Wk.out _).mono ?_
        rintro e w9 ⟨rfl, hb9⟩
        have G9 := Aside0.mk (below_step hBd.out hb9)
        clear hb9 hBd hB
        go_wp2_with fail
        go_ret
        exact ⟨rfl, G9.out⟩
      · rw [e0] at c0
        rw [e1] at c1
        rw [e2] at c2
        rw [e3] at c3
        rw [e4] at c4
        rw [e5] at c5
        clear e0 e1 e2 e3 e4 e5
        have hBd := Aside0.mk (Below.drew hB.out)
        go_upto_region 13 with (fail)
        clear R hi hz0 hz1 hz2
        go_still_tail 49, (by kernel_rfl)
        change wpList _ _ _ _ _ wr.drew
        generalize wr.drew = w2 at *
        go_wp2_with fail
        refine (Wk.out _).mono ?_
        rintro e w9 ⟨rfl, hb9⟩
        have G9 := Aside0.mk (below_step hBd.out hb9)
        clear hb9 hBd hB
        go_wp2_with fail
        go_ret
        exact ⟨rfl, G9.out⟩
      · rw [e0] at c0
        rw [e1] at c1
        rw [e2] at c2
        rw [e3] at c3
        rw [e4] at c4
        rw [e5] at c5
        clear e0 e1 e2 e3 e4 e5
        have hBd := Aside0.mk (Below.drew hB.out)
        go_upto_region 13 with (fail)
        clear R hi hz0 hz1 hz2
        go_still_tail 49, (by kernel_rfl)
        change wpList _ _ _ _ _ wr.drew
        generalize wr.drew = w2 at *
        go_wp2_with fail
        refine (Wk.out _).mono ?_
        rintro e w9 ⟨rfl, hb9⟩
        have G9 := Aside0.mk (below_step hBd.out hb9)
        clear hb9 hBd hB
        go_wp2_with fail
        go_ret
        exact ⟨rfl, G9.out⟩
set_option maxRecDepth 100000 in
set_option maxHeartbeats 8000000 in
theorem walk_big (fa na : Int) (ta : ByteArray) (fb nb : Int) (tb : ByteArray) (w : World) (hlg : (decide (ta.size > 5000) || decide (tb.size > 5000)) = true) :
    Calls Try.prog 6 #[V fa na ta, V fb nb tb] w fun e w' => e = .returned (.bool true) ∧ Below w.heap.size w w' := by
  have Wk := Aside0.mk wakes_any
  have LG := Aside0.mk (fun b W h => large2 fa na ta fb nb tb b W h)
  rw [hlg] at LG
  clear hlg
  go_enter Try.func6, Try.ntmps6
  have J := (Fb.nil w).push2 fa na ta fb nb tb
  go_upto_region 1 with (fail)
  refine wp_of_world (fun W => Fb w [(w.heap.size + 1, fb, nb, tb), (w.heap.size, fa, na, ta)] W) J ?_
  clear J
  rintro W1 H
  obtain ⟨l00, l01, l02⟩ := H.get w.heap.size fa na ta (by simp)
  obtain ⟨l10, l11, l12⟩ := H.get (w.heap.size + 1) fb nb tb (by simp)
  have HH := Aside0.mk H
  clear H
  have hq := Aside0.mk (MapKept.heap_alloc W1 (.cells #[.int .i64 fa, .int .i64 na, .string ta, .int .i64 fb, .int .i64 nb, .string tb] 23)).1
  go_wp2_with fail
  refine (LG.out _ _ hq.out).mono ?_
  rintro e v1 ⟨rfl, nd, rfl⟩
  have H := Aside0.mk ((HH.out.alloc (.cells #[.int .i64 fa, .int .i64 na, .string ta, .int .i64 fb, .int .i64 nb, .string tb] 23)).drewN nd)
  clear HH hq l00 l01 l02 l10 l11 l12
  go_wp2_with fail
  refine (Wk.out _).mono ?_
  rintro e v3 ⟨rfl, hb⟩
  have G := Aside0.mk (Fb.step hb H.out).2
  clear hb H
  go_wp2_with fail
  go_ret
  exact ⟨rfl, G.out⟩
theorem walk (fa na : Int) (ta : ByteArray) (fb nb : Int) (tb : ByteArray) (w : World)
    (fa0 : -9223372036854775808 ≤ fa) (fa9 : fa ≤ 9223372036854775807) (na0 : -9223372036854775808 ≤ na) (na9 : na ≤ 9223372036854775807) (hta : ta.size ≤ 9223372036854775807)
    (fb0 : -9223372036854775808 ≤ fb) (fb9 : fb ≤ 9223372036854775807) (nb0 : -9223372036854775808 ≤ nb) (nb9 : nb ≤ 9223372036854775807) (htb : tb.size ≤ 9223372036854775807) :
    Calls Try.prog 6 #[V fa na ta, V fb nb tb] w fun e w' => e = .returned (.bool true) ∧ Below w.heap.size w w' := by
  by_cases hl : (decide (ta.size > 5000) || decide (tb.size > 5000)) = true
  · exact walk_big fa na ta fb nb tb w hl
  · have hl : (decide (ta.size > 5000) || decide (tb.size > 5000)) = false := by simpa using hl
    rcases OrderPure.ways fa na fb nb ta tb fa0 fa9 na0 na9 hta fb0 fb9 nb0 nb9 htb with ⟨⟨r1, r2, r3⟩, hr, I1, I2⟩ | ⟨q, I⟩
    · exact walk_no fa na ta fb nb tb w r1 r2 r3 hr hl I1 I2
    · exact walk_six fa na ta fb nb tb w q hl I
end Go.Proofs.Ytjimcgmefpienaa.LawOrder
