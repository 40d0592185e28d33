/- The relations' closures of consts.Two, walked. -/
import Derived.Test.YtkkgocbecnefnaaConstsClo
namespace Go.Proofs.Ytkkgocbecnefnaa.Clo
open Go.RowKit Go.Maps Go.Proofs.Ytkkgocbecnefnaa.Tab Go.Proofs.Ytkkgocbecnefnaa.Plain Go.Proofs.Ytkkgocbecnefnaa.Small Go.Proofs.YtkkgocbecnefnaaW.PrintWords Go.Proofs.YtkkgocbecnefnaaW.PrintLast Go.Proofs.YtkkgocbecnefnaaW.PrintMore
set_option linter.unusedVariables false
set_option linter.unusedSimpArgs false

set_option maxRecDepth 100000 in
set_option maxHeartbeats 4000000 in
/-- A relation. -/
theorem clo_rel_eq (fa na fb nb : Int) (ta tb : ByteArray) (b : Nat) (w : World) (hc : w.cell? ⟨b, 0, none⟩ = some (.func (.func 90) #[] #[])) (r : Int → Bool)
    (F : ∀ n W, Calls Try.prog 90 #[.int .i64 n] W fun e w' => e = .returned (.bool (r n)) ∧ W = w') :
    Calls Try.prog 96 #[V fa na ta, V fb nb tb, .pointer (some ⟨b, 0, none⟩)] w fun e w' => e = .returned (VE 2 (tr (r (if fa = 6 then Lib.compareBytes ta.data.toList tb.data.toList else wrap64 (na - nb)))) E0 0) ∧ Below w.heap.size w w' := by
  have F := Aside0.mk F
  have lb := World.block_lt_of_cell? w _ hc
  have hc3 := cell3 hc
  clear hc
  by_cases h6 : fa = 6
  · rw [if_pos h6]
    have d1 : (fa == 6) = true := beq_iff_eq.2 h6
    clear h6
    have S := Aside0.mk (truth_any (r (Lib.compareBytes ta.data.toList tb.data.toList)))
    generalize tr (r (Lib.compareBytes ta.data.toList tb.data.toList)) = q at *
    go_enter Try.func96, Try.ntmps96
    go_wp2_with fail
    have hx : ∀ x y z : Obj, (((w.alloc x).alloc y).alloc z).drew.cell? ⟨b, 0, none⟩ = some (.func (.func 90) #[] #[]) := hc3
    have q0 : b ≠ w.heap.size := by omega
    have q1 : b ≠ w.heap.size + 1 := by omega
    have q2 : b ≠ w.heap.size + 1 + 1 := by omega
    have q3 : w.heap.size + 1 + 1 ≠ b := by omega
    have q4 : w.heap.size ≠ w.heap.size + 1 + 1 := by omega
    have q5 : w.heap.size + 1 + 1 ≠ w.heap.size := by omega
    have q6 : w.heap.size + 1 ≠ w.heap.size + 1 + 1 := by omega
    have q7 : w.heap.size + 1 + 1 ≠ w.heap.size + 1 := by omega
    go_region_held3 (fun w' => w'.cell? ⟨b, 0, none⟩ = some (.func (.func 90) #[] #[]) ∧ w'.cell? ⟨w.heap.size, 2, none⟩ = some (.string ta) ∧ w'.cell? ⟨w.heap.size + 1, 2, none⟩ = some (.string tb))
      (first
        | (exact ⟨hx _ _ _, by simp [go_sem], by simp [go_sem]⟩)
        | (exact ⟨pw_cell_below hb1 (hx _ _ _), pw_cell_below hb1 (by simp [go_sem]), pw_cell_below hb1 (by simp [go_sem])⟩)
        | (exact ⟨by simp [*, World.cell?_setCell_far], by simp [*, World.cell?_setCell_far], by simp [*, World.cell?_setCell_far]⟩)
        | (refine ⟨?_, ?_, ?_⟩ <;> (rw [World.cell?_setCell_far, World.cell?_setCell_far, World.cell?_setCell_far] <;> first | (simp [*]; done) | assumption | (exact pw_cell_below hb1 (hx _ _ _)) | (exact pw_cell_below hb1 (by simp [go_sem])))))
      (first
      | (go_at_call 27; refine (Try.strings_Compare _ _ _).mono ?_; rintro e w1 ⟨rfl, rfl⟩)
      | (go_at_call 90; refine (F.out _ _).mono ?_; rintro e w1 ⟨rfl, rfl⟩)
      | (go_at_call 61; refine (S.out _).mono ?_; rintro e w1 ⟨rfl, hb1⟩; obtain ⟨c0, c1, c2, f0, f1, f2⟩ := cells3 (mid3D hb1); have G1 := Aside0.mk (below3D hb1)))
    all_goals
      go_wp2_with fail
      refine bodyPost_ret (v := _) (by first | (simp [results, Try.results96, go_sem, *]; done) | (simp [results, Try.results96, go_sem, *]; rfl)) rfl ⟨rfl, ?_⟩
      (repeat (first | (with_reducible exact Below.refl _ _) | (with_reducible exact Aside0.out (by assumption)) | (with_reducible apply below_alloc) | (with_reducible apply pw_below_drewN) | (with_reducible apply Below.drew) | ((with_reducible refine Below.setCell ?_ ?_ _); rotate_left; (first | (simp; done) | (simp; omega) | exact Nat.le_refl _))))
  · rw [if_neg h6]
    have d1 : (fa == 6) = false := beq_eq_false_iff_ne.2 h6
    clear h6
    have S := Aside0.mk (truth_any (r (wrap64 (na - nb))))
    generalize tr (r (wrap64 (na - nb))) = q at *
    go_enter Try.func96, Try.ntmps96
    go_wp2_with fail
    refine (F.out _ _).mono ?_
    rintro e w1 ⟨rfl, rfl⟩
    go_wp2_with fail
    refine (S.out _).mono ?_
    rintro e w1 ⟨rfl, hb1⟩
    obtain ⟨c0, c1, c2, f0, f1, f2⟩ := cells3 (mid3 hb1)
    have G1 := Aside0.mk (below3 hb1)
    clear hb1
    go_wp2_with fail
    refine bodyPost_ret (v := _) (by first | (simp [results, Try.results96, go_sem, *]; done) | (simp [results, Try.results96, go_sem, *]; rfl)) rfl ⟨rfl, ?_⟩
    (repeat (first | (with_reducible exact Below.refl _ _) | (with_reducible exact Aside0.out (by assumption)) | (with_reducible apply below_alloc) | (with_reducible apply pw_below_drewN) | (with_reducible apply Below.drew) | ((with_reducible refine Below.setCell ?_ ?_ _); rotate_left; (first | (simp; done) | (simp; omega) | exact Nat.le_refl _))))

set_option maxRecDepth 100000 in
set_option maxHeartbeats 4000000 in
/-- A relation. -/
theorem clo_rel_ne (fa na fb nb : Int) (ta tb : ByteArray) (b : Nat) (w : World) (hc : w.cell? ⟨b, 0, none⟩ = some (.func (.func 91) #[] #[])) (r : Int → Bool)
    (F : ∀ n W, Calls Try.prog 91 #[.int .i64 n] W fun e w' => e = .returned (.bool (r n)) ∧ W = w') :
    Calls Try.prog 96 #[V fa na ta, V fb nb tb, .pointer (some ⟨b, 0, none⟩)] w fun e w' => e = .returned (VE 2 (tr (r (if fa = 6 then Lib.compareBytes ta.data.toList tb.data.toList else wrap64 (na - nb)))) E0 0) ∧ Below w.heap.size w w' := by
  have F := Aside0.mk F
  have lb := World.block_lt_of_cell? w _ hc
  have hc3 := cell3 hc
  clear hc
  by_cases h6 : fa = 6
  · rw [if_pos h6]
    have d1 : (fa == 6) = true := beq_iff_eq.2 h6
    clear h6
    have S := Aside0.mk (truth_any (r (Lib.compareBytes ta.data.toList tb.data.toList)))
    generalize tr (r (Lib.compareBytes ta.data.toList tb.data.toList)) = q at *
    go_enter Try.func96, Try.ntmps96
    go_wp2_with fail
    have hx : ∀ x y z : Obj, (((w.alloc x).alloc y).alloc z).drew.cell? ⟨b, 0, none⟩ = some (.func (.func 91) #[] #[]) := hc3
    have q0 : b ≠ w.heap.size := by omega
    have q1 : b ≠ w.heap.size + 1 := by omega
    have q2 : b ≠ w.heap.size + 1 + 1 := by omega
    have q3 : w.heap.size + 1 + 1 ≠ b := by omega
    have q4 : w.heap.size ≠ w.heap.size + 1 + 1 := by omega
    have q5 : w.heap.size + 1 + 1 ≠ w.heap.size := by omega
    have q6 : w.heap.size + 1 ≠ w.heap.size + 1 + 1 := by omega
    have q7 : w.heap.size + 1 + 1 ≠ w.heap.size + 1 := by omega
    go_region_held3 (fun w' => w'.cell? ⟨b, 0, none⟩ = some (.func (.func 91) #[] #[]) ∧ w'.cell? ⟨w.heap.size, 2, none⟩ = some (.string ta) ∧ w'.cell? ⟨w.heap.size + 1, 2, none⟩ = some (.string tb))
      (first
        | (exact ⟨hx _ _ _, by simp [go_sem], by simp [go_sem]⟩)
        | (exact ⟨pw_cell_below hb1 (hx _ _ _), pw_cell_below hb1 (by simp [go_sem]), pw_cell_below hb1 (by simp [go_sem])⟩)
        | (exact ⟨by simp [*, World.cell?_setCell_far], by simp [*, World.cell?_setCell_far], by simp [*, World.cell?_setCell_far]⟩)
        | (refine ⟨?_, ?_, ?_⟩ <;> (rw [World.cell?_setCell_far, World.cell?_setCell_far, World.cell?_setCell_far] <;> first | (simp [*]; done) | assumption | (exact pw_cell_below hb1 (hx _ _ _)) | (exact pw_cell_below hb1 (by simp [go_sem])))))
      (first
      | (go_at_call 27; refine (Try.strings_Compare _ _ _).mono ?_; rintro e w1 ⟨rfl, rfl⟩)
      | (go_at_call 91; refine (F.out _ _).mono ?_; rintro e w1 ⟨rfl, rfl⟩)
      | (go_at_call 61; refine (S.out _).mono ?_; rintro e w1 ⟨rfl, hb1⟩; obtain ⟨c0, c1, c2, f0, f1, f2⟩ := cells3 (mid3D hb1); have G1 := Aside0.mk (below3D hb1)))
    all_goals
      go_wp2_with fail
      refine bodyPost_ret (v := _) (by first | (simp [results, Try.results96, go_sem, *]; done) | (simp [results, Try.results96, go_sem, *]; rfl)) rfl ⟨rfl, ?_⟩
      (repeat (first | (with_reducible exact Below.refl _ _) | (with_reducible exact Aside0.out (by assumption)) | (with_reducible apply below_alloc) | (with_reducible apply pw_below_drewN) | (with_reducible apply Below.drew) | ((with_reducible refine Below.setCell ?_ ?_ _); rotate_left; (first | (simp; done) | (simp; omega) | exact Nat.le_refl _))))
  · rw [if_neg h6]
    have d1 : (fa == 6) = false := beq_eq_false_iff_ne.2 h6
    clear h6
    have S := Aside0.mk (truth_any (r (wrap64 (na - nb))))
    generalize tr (r (wrap64 (na - nb))) = q at *
    go_enter Try.func96, Try.ntmps96
    go_wp2_with fail
    refine (F.out _ _).mono ?_
    rintro e w1 ⟨rfl, rfl⟩
    go_wp2_with fail
    refine (S.out _).mono ?_
    rintro e w1 ⟨rfl, hb1⟩
    obtain ⟨c0, c1, c2, f0, f1, f2⟩ := cells3 (mid3 hb1)
    have G1 := Aside0.mk (below3 hb1)
    clear hb1
    go_wp2_with fail
    refine bodyPost_ret (v := _) (by first | (simp [results, Try.results96, go_sem, *]; done) | (simp [results, Try.results96, go_sem, *]; rfl)) rfl ⟨rfl, ?_⟩
    (repeat (first | (with_reducible exact Below.refl _ _) | (with_reducible exact Aside0.out (by assumption)) | (with_reducible apply below_alloc) | (with_reducible apply pw_below_drewN) | (with_reducible apply Below.drew) | ((with_reducible refine Below.setCell ?_ ?_ _); rotate_left; (first | (simp; done) | (simp; omega) | exact Nat.le_refl _))))

set_option maxRecDepth 100000 in
set_option maxHeartbeats 4000000 in
/-- A relation. -/
theorem clo_rel_lt (fa na fb nb : Int) (ta tb : ByteArray) (b : Nat) (w : World) (hc : w.cell? ⟨b, 0, none⟩ = some (.func (.func 92) #[] #[])) (r : Int → Bool)
    (F : ∀ n W, Calls Try.prog 92 #[.int .i64 n] W fun e w' => e = .returned (.bool (r n)) ∧ W = w') :
    Calls Try.prog 96 #[V fa na ta, V fb nb tb, .pointer (some ⟨b, 0, none⟩)] w fun e w' => e = .returned (VE 2 (tr (r (if fa = 6 then Lib.compareBytes ta.data.toList tb.data.toList else wrap64 (na - nb)))) E0 0) ∧ Below w.heap.size w w' := by
  have F := Aside0.mk F
  have lb := World.block_lt_of_cell? w _ hc
  have hc3 := cell3 hc
  clear hc
  by_cases h6 : fa = 6
  · rw [if_pos h6]
    have d1 : (fa == 6) = true := beq_iff_eq.2 h6
    clear h6
    have S := Aside0.mk (truth_any (r (Lib.compareBytes ta.data.toList tb.data.toList)))
    generalize tr (r (Lib.compareBytes ta.data.toList tb.data.toList)) = q at *
    go_enter Try.func96, Try.ntmps96
    go_wp2_with fail
    have hx : ∀ x y z : Obj, (((w.alloc x).alloc y).alloc z).drew.cell? ⟨b, 0, none⟩ = some (.func (.func 92) #[] #[]) := hc3
    have q0 : b ≠ w.heap.size := by omega
    have q1 : b ≠ w.heap.size + 1 := by omega
    have q2 : b ≠ w.heap.size + 1 + 1 := by omega
    have q3 : w.heap.size + 1 + 1 ≠ b := by omega
    have q4 : w.heap.size ≠ w.heap.size + 1 + 1 := by omega
    have q5 : w.heap.size + 1 + 1 ≠ w.heap.size := by omega
    have q6 : w.heap.size + 1 ≠ w.heap.size + 1 + 1 := by omega
    have q7 : w.heap.size + 1 + 1 ≠ w.heap.size + 1 := by omega
    go_region_held3 (fun w' => w'.cell? ⟨b, 0, none⟩ = some (.func (.func 92) #[] #[]) ∧ w'.cell? ⟨w.heap.size, 2, none⟩ = some (.string ta) ∧ w'.cell? ⟨w.heap.size + 1, 2, none⟩ = some (.string tb))
      (first
        | (exact ⟨hx _ _ _, by simp [go_sem], by simp [go_sem]⟩)
        | (exact ⟨pw_cell_below hb1 (hx _ _ _), pw_cell_below hb1 (by simp [go_sem]), pw_cell_below hb1 (by simp [go_sem])⟩)
        | (exact ⟨by simp [*, World.cell?_setCell_far], by simp [*, World.cell?_setCell_far], by simp [*, World.cell?_setCell_far]⟩)
        | (refine ⟨?_, ?_, ?_⟩ <;> (rw [World.cell?_setCell_far, World.cell?_setCell_far, World.cell?_setCell_far] <;> first | (simp [*]; done) | assumption | (exact pw_cell_below hb1 (hx _ _ _)) | (exact pw_cell_below hb1 (by simp [go_sem])))))
      (first
      | (go_at_call 27; refine (Try.strings_Compare _ _ _).mono ?_; rintro e w1 ⟨rfl, rfl⟩)
      | (go_at_call 92; refine (F.out _ _).mono ?_; rintro e w1 ⟨rfl, rfl⟩)
      | (go_at_call 61; refine (S.out _).mono ?_; rintro e w1 ⟨rfl, hb1⟩; obtain ⟨c0, c1, c2, f0, f1, f2⟩ := cells3 (mid3D hb1); have G1 := Aside0.mk (below3D hb1)))
    all_goals
      go_wp2_with fail
      refine bodyPost_ret (v := _) (by first | (simp [results, Try.results96, go_sem, *]; done) | (simp [results, Try.results96, go_sem, *]; rfl)) rfl ⟨rfl, ?_⟩
      (repeat (first | (with_reducible exact Below.refl _ _) | (with_reducible exact Aside0.out (by assumption)) | (with_reducible apply below_alloc) | (with_reducible apply pw_below_drewN) | (with_reducible apply Below.drew) | ((with_reducible refine Below.setCell ?_ ?_ _); rotate_left; (first | (simp; done) | (simp; omega) | exact Nat.le_refl _))))
  · rw [if_neg h6]
    have d1 : (fa == 6) = false := beq_eq_false_iff_ne.2 h6
    clear h6
    have S := Aside0.mk (truth_any (r (wrap64 (na - nb))))
    generalize tr (r (wrap64 (na - nb))) = q at *
    go_enter Try.func96, Try.ntmps96
    go_wp2_with fail
    refine (F.out _ _).mono ?_
    rintro e w1 ⟨rfl, rfl⟩
    go_wp2_with fail
    refine (S.out _).mono ?_
    rintro e w1 ⟨rfl, hb1⟩
    obtain ⟨c0, c1, c2, f0, f1, f2⟩ := cells3 (mid3 hb1)
    have G1 := Aside0.mk (below3 hb1)
    clear hb1
    go_wp2_with fail
    refine bodyPost_ret (v := _) (by first | (simp [results, Try.results96, go_sem, *]; done) | (simp [results, Try.results96, go_sem, *]; rfl)) rfl ⟨rfl, ?_⟩
    (repeat (first | (with_reducible exact Below.refl _ _) | (with_reducible exact Aside0.out (by assumption)) | (with_reducible apply below_alloc) | (with_reducible apply pw_below_drewN) | (with_reducible apply Below.drew) | ((with_reducible refine Below.setCell ?_ ?_ _); rotate_left; (first | (simp; done) | (simp; omega) | exact Nat.le_refl _))))

set_option maxRecDepth 100000 in
set_option maxHeartbeats 4000000 in
/-- A relation. -/
theorem clo_rel_le (fa na fb nb : Int) (ta tb : ByteArray) (b : Nat) (w : World) (hc : w.cell? ⟨b, 0, none⟩ = some (.func (.func 93) #[] #[])) (r : Int → Bool)
    (F : ∀ n W, Calls Try.prog 93 #[.int .i64 n] W fun e w' => e = .returned (.bool (r n)) ∧ W = w') :
    Calls Try.prog 96 #[V fa na ta, V fb nb tb, .pointer (some ⟨b, 0, none⟩)] w fun e w' => e = .returned (VE 2 (tr (r (if fa = 6 then Lib.compareBytes ta.data.toList tb.data.toList else wrap64 (na - nb)))) E0 0) ∧ Below w.heap.size w w' := by
  have F := Aside0.mk F
  have lb := World.block_lt_of_cell? w _ hc
  have hc3 := cell3 hc
  clear hc
  by_cases h6 : fa = 6
  · rw [if_pos h6]
    have d1 : (fa == 6) = true := beq_iff_eq.2 h6
    clear h6
    have S := Aside0.mk (truth_any (r (Lib.compareBytes ta.data.toList tb.data.toList)))
    generalize tr (r (Lib.compareBytes ta.data.toList tb.data.toList)) = q at *
    go_enter Try.func96, Try.ntmps96
    go_wp2_with fail
    have hx : ∀ x y z : Obj, (((w.alloc x).alloc y).alloc z).drew.cell? ⟨b, 0, none⟩ = some (.func (.func 93) #[] #[]) := hc3
    have q0 : b ≠ w.heap.size := by omega
    have q1 : b ≠ w.heap.size + 1 := by omega
    have q2 : b ≠ w.heap.size + 1 + 1 := by omega
    have q3 : w.heap.size + 1 + 1 ≠ b := by omega
    have q4 : w.heap.size ≠ w.heap.size + 1 + 1 := by omega
    have q5 : w.heap.size + 1 + 1 ≠ w.heap.size := by omega
    have q6 : w.heap.size + 1 ≠ w.heap.size + 1 + 1 := by omega
    have q7 : w.heap.size + 1 + 1 ≠ w.heap.size + 1 := by omega
    go_region_held3 (fun w' => w'.cell? ⟨b, 0, none⟩ = some (.func (.func 93) #[] #[]) ∧ w'.cell? ⟨w.heap.size, 2, none⟩ = some (.string ta) ∧ w'.cell? ⟨w.heap.size + 1, 2, none⟩ = some (.string tb))
      (first
        | (exact ⟨hx _ _ _, by simp [go_sem], by simp [go_sem]⟩)
        | (exact ⟨pw_cell_below hb1 (hx _ _ _), pw_cell_below hb1 (by simp [go_sem]), pw_cell_below hb1 (by simp [go_sem])⟩)
        | (exact ⟨by simp [*, World.cell?_setCell_far], by simp [*, World.cell?_setCell_far], by simp [*, World.cell?_setCell_far]⟩)
        | (refine ⟨?_, ?_, ?_⟩ <;> (rw [World.cell?_setCell_far, World.cell?_setCell_far, World.cell?_setCell_far] <;> first | (simp [*]; done) | assumption | (exact pw_cell_below hb1 (hx _ _ _)) | (exact pw_cell_below hb1 (by simp [go_sem])))))
      (first
      | (go_at_call 27; refine (Try.strings_Compare _ _ _).mono ?_; rintro e w1 ⟨rfl, rfl⟩)
      | (go_at_call 93; refine (F.out _ _).mono ?_; rintro e w1 ⟨rfl, rfl⟩)
      | (go_at_call 61; refine (S.out _).mono ?_; rintro e w1 ⟨rfl, hb1⟩; obtain ⟨c0, c1, c2, f0, f1, f2⟩ := cells3 (mid3D hb1); have G1 := Aside0.mk (below3D hb1)))
    all_goals
      go_wp2_with fail
      refine bodyPost_ret (v := _) (by first | (simp [results, Try.results96, go_sem, *]; done) | (simp [results, Try.results96, go_sem, *]; rfl)) rfl ⟨rfl, ?_⟩
      (repeat (first | (with_reducible exact Below.refl _ _) | (with_reducible exact Aside0.out (by assumption)) | (with_reducible apply below_alloc) | (with_reducible apply pw_below_drewN) | (with_reducible apply Below.drew) | ((with_reducible refine Below.setCell ?_ ?_ _); rotate_left; (first | (simp; done) | (simp; omega) | exact Nat.le_refl _))))
  · rw [if_neg h6]
    have d1 : (fa == 6) = false := beq_eq_false_iff_ne.2 h6
    clear h6
    have S := Aside0.mk (truth_any (r (wrap64 (na - nb))))
    generalize tr (r (wrap64 (na - nb))) = q at *
    go_enter Try.func96, Try.ntmps96
    go_wp2_with fail
    refine (F.out _ _).mono ?_
    rintro e w1 ⟨rfl, rfl⟩
    go_wp2_with fail
    refine (S.out _).mono ?_
    rintro e w1 ⟨rfl, hb1⟩
    obtain ⟨c0, c1, c2, f0, f1, f2⟩ := cells3 (mid3 hb1)
    have G1 := Aside0.mk (below3 hb1)
    clear hb1
    go_wp2_with fail
    refine bodyPost_ret (v := _) (by first | (simp [results, Try.results96, go_sem, *]; done) | (simp [results, Try.results96, go_sem, *]; rfl)) rfl ⟨rfl, ?_⟩
    (repeat (first | (with_reducible exact Below.refl _ _) | (with_reducible exact Aside0.out (by assumption)) | (with_reducible apply below_alloc) | (with_reducible apply pw_below_drewN) | (with_reducible apply Below.drew) | ((with_reducible refine Below.setCell ?_ ?_ _); rotate_left; (first | (simp; done) | (simp; omega) | exact Nat.le_refl _))))

set_option maxRecDepth 100000 in
set_option maxHeartbeats 4000000 in
/-- A relation. -/
theorem clo_rel_gt (fa na fb nb : Int) (ta tb : ByteArray) (b : Nat) (w : World) (hc : w.cell? ⟨b, 0, none⟩ = some (.func (.func 94) #[] #[])) (r : Int → Bool)
    (F : ∀ n W, Calls Try.prog 94 #[.int .i64 n] W fun e w' => e = .returned (.bool (r n)) ∧ W = w') :
    Calls Try.prog 96 #[V fa na ta, V fb nb tb, .pointer (some ⟨b, 0, none⟩)] w fun e w' => e = .returned (VE 2 (tr (r (if fa = 6 then Lib.compareBytes ta.data.toList tb.data.toList else wrap64 (na - nb)))) E0 0) ∧ Below w.heap.size w w' := by
  have F := Aside0.mk F
  have lb := World.block_lt_of_cell? w _ hc
  have hc3 := cell3 hc
  clear hc
  by_cases h6 : fa = 6
  · rw [if_pos h6]
    have d1 : (fa == 6) = true := beq_iff_eq.2 h6
    clear h6
    have S := Aside0.mk (truth_any (r (Lib.compareBytes ta.data.toList tb.data.toList)))
    generalize tr (r (Lib.compareBytes ta.data.toList tb.data.toList)) = q at *
    go_enter Try.func96, Try.ntmps96
    go_wp2_with fail
    have hx : ∀ x y z : Obj, (((w.alloc x).alloc y).alloc z).drew.cell? ⟨b, 0, none⟩ = some (.func (.func 94) #[] #[]) := hc3
    have q0 : b ≠ w.heap.size := by omega
    have q1 : b ≠ w.heap.size + 1 := by omega
    have q2 : b ≠ w.heap.size + 1 + 1 := by omega
    have q3 : w.heap.size + 1 + 1 ≠ b := by omega
    have q4 : w.heap.size ≠ w.heap.size + 1 + 1 := by omega
    have q5 : w.heap.size + 1 + 1 ≠ w.heap.size := by omega
    have q6 : w.heap.size + 1 ≠ w.heap.size + 1 + 1 := by omega
    have q7 : w.heap.size + 1 + 1 ≠ w.heap.size + 1 := by omega
    go_region_held3 (fun w' => w'.cell? ⟨b, 0, none⟩ = some (.func (.func 94) #[] #[]) ∧ w'.cell? ⟨w.heap.size, 2, none⟩ = some (.string ta) ∧ w'.cell? ⟨w.heap.size + 1, 2, none⟩ = some (.string tb))
      (first
        | (exact ⟨hx _ _ _, by simp [go_sem], by simp [go_sem]⟩)
        | (exact ⟨pw_cell_below hb1 (hx _ _ _), pw_cell_below hb1 (by simp [go_sem]), pw_cell_below hb1 (by simp [go_sem])⟩)
        | (exact ⟨by simp [*, World.cell?_setCell_far], by simp [*, World.cell?_setCell_far], by simp [*, World.cell?_setCell_far]⟩)
        | (refine ⟨?_, ?_, ?_⟩ <;> (rw [World.cell?_setCell_far, World.cell?_setCell_far, World.cell?_setCell_far] <;> first | (simp [*]; done) | assumption | (exact pw_cell_below hb1 (hx _ _ _)) | (exact pw_cell_below hb1 (by simp [go_sem])))))
      (first
      | (go_at_call 27; refine (Try.strings_Compare _ _ _).mono ?_; rintro e w1 ⟨rfl, rfl⟩)
      | (go_at_call 94; refine (F.out _ _).mono ?_; rintro e w1 ⟨rfl, rfl⟩)
      | (go_at_call 61; refine (S.out _).mono ?_; rintro e w1 ⟨rfl, hb1⟩; obtain ⟨c0, c1, c2, f0, f1, f2⟩ := cells3 (mid3D hb1); have G1 := Aside0.mk (below3D hb1)))
    all_goals
      go_wp2_with fail
      refine bodyPost_ret (v := _) (by first | (simp [results, Try.results96, go_sem, *]; done) | (simp [results, Try.results96, go_sem, *]; rfl)) rfl ⟨rfl, ?_⟩
      (repeat (first | (with_reducible exact Below.refl _ _) | (with_reducible exact Aside0.out (by assumption)) | (with_reducible apply below_alloc) | (with_reducible apply pw_below_drewN) | (with_reducible apply Below.drew) | ((with_reducible refine Below.setCell ?_ ?_ _); rotate_left; (first | (simp; done) | (simp; omega) | exact Nat.le_refl _))))
  · rw [if_neg h6]
    have d1 : (fa == 6) = false := beq_eq_false_iff_ne.2 h6
    clear h6
    have S := Aside0.mk (truth_any (r (wrap64 (na - nb))))
    generalize tr (r (wrap64 (na - nb))) = q at *
    go_enter Try.func96, Try.ntmps96
    go_wp2_with fail
    refine (F.out _ _).mono ?_
    rintro e w1 ⟨rfl, rfl⟩
    go_wp2_with fail
    refine (S.out _).mono ?_
    rintro e w1 ⟨rfl, hb1⟩
    obtain ⟨c0, c1, c2, f0, f1, f2⟩ := cells3 (mid3 hb1)
    have G1 := Aside0.mk (below3 hb1)
    clear hb1
    go_wp2_with fail
    refine bodyPost_ret (v := _) (by first | (simp [results, Try.results96, go_sem, *]; done) | (simp [results, Try.results96, go_sem, *]; rfl)) rfl ⟨rfl, ?_⟩
    (repeat (first | (with_reducible exact Below.refl _ _) | (with_reducible exact Aside0.out (by assumption)) | (with_reducible apply below_alloc) | (with_reducible apply pw_below_drewN) | (with_reducible apply Below.drew) | ((with_reducible refine Below.setCell ?_ ?_ _); rotate_left; (first | (simp; done) | (simp; omega) | exact Nat.le_refl _))))

set_option maxRecDepth 100000 in
set_option maxHeartbeats 4000000 in
/-- A relation. -/
theorem clo_rel_ge (fa na fb nb : Int) (ta tb : ByteArray) (b : Nat) (w : World) (hc : w.cell? ⟨b, 0, none⟩ = some (.func (.func 95) #[] #[])) (r : Int → Bool)
    (F : ∀ n W, Calls Try.prog 95 #[.int .i64 n] W fun e w' => e = .returned (.bool (r n)) ∧ W = w') :
    Calls Try.prog 96 #[V fa na ta, V fb nb tb, .pointer (some ⟨b, 0, none⟩)] w fun e w' => e = .returned (VE 2 (tr (r (if fa = 6 then Lib.compareBytes ta.data.toList tb.data.toList else wrap64 (na - nb)))) E0 0) ∧ Below w.heap.size w w' := by
  have F := Aside0.mk F
  have lb := World.block_lt_of_cell? w _ hc
  have hc3 := cell3 hc
  clear hc
  by_cases h6 : fa = 6
  · rw [if_pos h6]
    have d1 : (fa == 6) = true := beq_iff_eq.2 h6
    clear h6
    have S := Aside0.mk (truth_any (r (Lib.compareBytes ta.data.toList tb.data.toList)))
    generalize tr (r (Lib.compareBytes ta.data.toList tb.data.toList)) = q at *
    go_enter Try.func96, Try.ntmps96
    go_wp2_with fail
    have hx : ∀ x y z : Obj, (((w.alloc x).alloc y).alloc z).drew.cell? ⟨b, 0, none⟩ = some (.func (.func 95) #[] #[]) := hc3
    have q0 : b ≠ w.heap.size := by omega
    have q1 : b ≠ w.heap.size + 1 := by omega
    have q2 : b ≠ w.heap.size + 1 + 1 := by omega
    have q3 : w.heap.size + 1 + 1 ≠ b := by omega
    have q4 : w.heap.size ≠ w.heap.size + 1 + 1 := by omega
    have q5 : w.heap.size + 1 + 1 ≠ w.heap.size := by omega
    have q6 : w.heap.size + 1 ≠ w.heap.size + 1 + 1 := by omega
    have q7 : w.heap.size + 1 + 1 ≠ w.heap.size + 1 := by omega
    go_region_held3 (fun w' => w'.cell? ⟨b, 0, none⟩ = some (.func (.func 95) #[] #[]) ∧ w'.cell? ⟨w.heap.size, 2, none⟩ = some (.string ta) ∧ w'.cell? ⟨w.heap.size + 1, 2, none⟩ = some (.string tb))
      (first
        | (exact ⟨hx _ _ _, by simp [go_sem], by simp [go_sem]⟩)
        | (exact ⟨pw_cell_below hb1 (hx _ _ _), pw_cell_below hb1 (by simp [go_sem]), pw_cell_below hb1 (by simp [go_sem])⟩)
        | (exact ⟨by simp [*, World.cell?_setCell_far], by simp [*, World.cell?_setCell_far], by simp [*, World.cell?_setCell_far]⟩)
        | (refine ⟨?_, ?_, ?_⟩ <;> (rw [World.cell?_setCell_far, World.cell?_setCell_far, World.cell?_setCell_far] <;> first | (simp [*]; done) | assumption | (exact pw_cell_below hb1 (hx _ _ _)) | (exact pw_cell_below hb1 (by simp [go_sem])))))
      (first
      | (go_at_call 27; refine (Try.strings_Compare _ _ _).mono ?_; rintro e w1 ⟨rfl, rfl⟩)
      | (go_at_call 95; refine (F.out _ _).mono ?_; rintro e w1 ⟨rfl, rfl⟩)
      | (go_at_call 61; refine (S.out _).mono ?_; rintro e w1 ⟨rfl, hb1⟩; obtain ⟨c0, c1, c2, f0, f1, f2⟩ := cells3 (mid3D hb1); have G1 := Aside0.mk (below3D hb1)))
    all_goals
      go_wp2_with fail
      refine bodyPost_ret (v := _) (by first | (simp [results, Try.results96, go_sem, *]; done) | (simp [results, Try.results96, go_sem, *]; rfl)) rfl ⟨rfl, ?_⟩
      (repeat (first | (with_reducible exact Below.refl _ _) | (with_reducible exact Aside0.out (by assumption)) | (with_reducible apply below_alloc) | (with_reducible apply pw_below_drewN) | (with_reducible apply Below.drew) | ((with_reducible refine Below.setCell ?_ ?_ _); rotate_left; (first | (simp; done) | (simp; omega) | exact Nat.le_refl _))))
  · rw [if_neg h6]
    have d1 : (fa == 6) = false := beq_eq_false_iff_ne.2 h6
    clear h6
    have S := Aside0.mk (truth_any (r (wrap64 (na - nb))))
    generalize tr (r (wrap64 (na - nb))) = q at *
    go_enter Try.func96, Try.ntmps96
    go_wp2_with fail
    refine (F.out _ _).mono ?_
    rintro e w1 ⟨rfl, rfl⟩
    go_wp2_with fail
    refine (S.out _).mono ?_
    rintro e w1 ⟨rfl, hb1⟩
    obtain ⟨c0, c1, c2, f0, f1, f2⟩ := cells3 (mid3 hb1)
    have G1 := Aside0.mk (below3 hb1)
    clear hb1
    go_wp2_with fail
    refine bodyPost_ret (v := _) (by first | (simp [results, Try.results96, go_sem, *]; done) | (simp [results, Try.results96, go_sem, *]; rfl)) rfl ⟨rfl, ?_⟩
    (repeat (first | (with_reducible exact Below.refl _ _) | (with_reducible exact Aside0.out (by assumption)) | (with_reducible apply below_alloc) | (with_reducible apply pw_below_drewN) | (with_reducible apply Below.drew) | ((with_reducible refine Below.setCell ?_ ?_ _); rotate_left; (first | (simp; done) | (simp; omega) | exact Nat.le_refl _))))

end Go.Proofs.Ytkkgocbecnefnaa.Clo
