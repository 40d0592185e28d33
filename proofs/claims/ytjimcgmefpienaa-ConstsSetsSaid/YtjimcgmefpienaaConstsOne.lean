/- consts.One, walked. -/
import Derived.Test.YtjimcgmefpienaaBits12
namespace Go.Proofs.Ytjimcgmefpienaa.One
open Go.RowKit Go.Maps Go.Proofs.Ytjimcgmefpienaa.Tab Go.Proofs.Ytjimcgmefpienaa.Plain Go.Proofs.Ytjimcgmefpienaa.Small Go.Proofs.YtjimcgmefpienaaW.PrintWords Go.Proofs.YtjimcgmefpienaaW.PrintLast Go.Proofs.YtjimcgmefpienaaW.PrintMore
set_option linter.unusedVariables false
set_option linter.unusedSimpArgs false

/-- What stands in two boxes that were just made. -/
theorem two_boxes {w w1 : World} {o1 o2 : Obj} (h : Below ((w.alloc o1).alloc o2).heap.size ((w.alloc o1).alloc o2) w1) : w1.heap[w.heap.size]? = some o1 ∧ w1.heap[w.heap.size + 1]? = some o2 ∧ Below w.heap.size w w1 := by
  have e : (w.alloc o1).heap.size = w.heap.size + 1 := by simp
  refine ⟨blk_below (blk_alloc (MapKept.heap_alloc w o1).1 o2) h, ?_, below_step (below_alloc (below_alloc (Below.refl _ _) _) _) h⟩
  have := blk_below (MapKept.heap_alloc (w.alloc o1) o2).1 h
  rwa [e] at this
theorem set3 {w W : World} (h : Below w.heap.size w W) (x y z : Value) : Below w.heap.size w (((W.setCell ⟨w.heap.size + 1, 0, none⟩ x).setCell ⟨w.heap.size + 1, 1, none⟩ y).setCell ⟨w.heap.size + 1, 2, none⟩ z) :=
  ((h.setCell (Nat.le_succ _) _).setCell (Nat.le_succ _) _).setCell (Nat.le_succ _) _
/-- What an operation tells of one constant. -/
def oneR (op : ByteArray) (f n : Int) (t : ByteArray) : Int × Int × ByteArray × Int :=
  if op.data.toList = [43] then (if f = 1 then (1, n, t, 0) else (0, 0, E0, 120))
  else if op.data.toList = [45] then (if f = 1 then ((fitsR (wrap64 (-n))).1, (fitsR (wrap64 (-n))).2.1, E0, (fitsR (wrap64 (-n))).2.2) else if f = 4 then (4, 4294967295 - n, E0, 0) else (0, 0, E0, 120))
  else if op.data.toList = [126] then (if f = 2 then (2, tr (n == 0), E0, 0) else (0, 0, E0, 120))
  else (0, 0, E0, 120)

set_option maxRecDepth 100000 in
set_option maxHeartbeats 4000000 in
theorem one_none (op : ByteArray) (f n : Int) (t : ByteArray) (w : World)
    (A : ∀ W, Calls Try.prog 20 #[V f n t] W fun e w' => e = .returned (.bool false) ∧ Below W.heap.size W w') :
    Calls Try.prog 18 #[.string op, V f n t] w fun e w' => e = .returned (VE 0 0 E0 120) ∧ Below w.heap.size w w' := by
  have A := Aside0.mk A
  go_enter Try.func18, Try.ntmps18
  go_wp2_with fail
  refine (A.out _).mono ?_
  rintro e w1 ⟨rfl, hb1⟩
  obtain ⟨C, B, G⟩ := two_boxes hb1
  have G1 := Aside0.mk G
  clear hb1 G
  obtain ⟨c0, c1, c2, f0, f1, f2⟩ := cells3 B
  clear B C
  go_wp2_with fail
  refine bodyPost_ret (v := _) (by first | (simp [results, Try.results18, go_sem, *]; done) | (simp [results, Try.results18, go_sem, *]; rfl)) rfl ⟨rfl, ?_⟩
  first | exact set3 G1.out _ _ _ | exact G1.out | exact set3 (by assumption) _ _ _
set_option maxRecDepth 100000 in
set_option maxHeartbeats 4000000 in
theorem one_plus (n : Int) (t : ByteArray) (w : World)
    (A : ∀ W, Calls Try.prog 20 #[V 1 n t] W fun e w' => e = .returned (.bool true) ∧ Below W.heap.size W w') :
    Calls Try.prog 18 #[.string (ByteArray.mk #[43]), V 1 n t] w fun e w' => e = .returned (VE 1 n t 0) ∧ Below w.heap.size w w' := by
  have A := Aside0.mk A
  go_enter Try.func18, Try.ntmps18
  go_wp2_with fail
  refine (A.out _).mono ?_
  rintro e w1 ⟨rfl, hb1⟩
  obtain ⟨C, B, G⟩ := two_boxes hb1
  have G1 := Aside0.mk G
  clear hb1 G
  obtain ⟨c0, c1, c2, f0, f1, f2⟩ := cells3 B
  obtain ⟨e0, e1, e2, g0, g1, g2⟩ := cells3 C
  clear B C
  go_wp2_with fail
  refine bodyPost_ret (v := _) (by first | (simp [results, Try.results18, go_sem, *]; done) | (simp [results, Try.results18, go_sem, *]; rfl)) rfl ⟨rfl, ?_⟩
  first | exact set3 G1.out _ _ _ | exact G1.out | exact set3 (by assumption) _ _ _
theorem neg_is (n : Int) : IntKind.i64.wrap (-n) = wrap64 (-n) := i64_w _
set_option maxRecDepth 100000 in
set_option maxHeartbeats 4000000 in
theorem one_minus (n : Int) (t : ByteArray) (w : World)
    (A : ∀ W, Calls Try.prog 20 #[V 1 n t] W fun e w' => e = .returned (.bool true) ∧ Below W.heap.size W w') :
    Calls Try.prog 18 #[.string (ByteArray.mk #[45]), V 1 n t] w fun e w' => e = .returned (VE (fitsR (wrap64 (-n))).1 (fitsR (wrap64 (-n))).2.1 E0 (fitsR (wrap64 (-n))).2.2) ∧ Below w.heap.size w w' := by
  have A := Aside0.mk A
  have S := Aside0.mk (fun W => fits_any (wrap64 (-n)) W)
  generalize fitsR (wrap64 (-n)) = r at *
  obtain ⟨r1, r2, r3⟩ := r
  go_enter Try.func18, Try.ntmps18
  go_wp2_with fail
  refine (A.out _).mono ?_
  rintro e w1 ⟨rfl, hb1⟩
  obtain ⟨C, B, G⟩ := two_boxes hb1
  have G1 := Aside0.mk G
  clear hb1 G
  obtain ⟨c0, c1, c2, f0, f1, f2⟩ := cells3 C
  have B := Aside0.mk B
  clear C
  go_wp2_with fail
  refine (S.out _).mono ?_
  rintro e w2 ⟨rfl, hb2⟩
  have G1 := Aside0.mk (below_step G1.out hb2)
  have B := blk_below B.out hb2
  clear c0 c1 c2 f0 f1 f2 hb2
  obtain ⟨c0, c1, c2, f0, f1, f2⟩ := cells3 B
  clear B
  go_wp2_with fail
  refine bodyPost_ret (v := _) (by first | (simp [results, Try.results18, go_sem, *]; done) | (simp [results, Try.results18, go_sem, *]; rfl)) rfl ⟨rfl, ?_⟩
  first | exact set3 G1.out _ _ _ | exact G1.out | exact set3 (by assumption) _ _ _
set_option maxRecDepth 100000 in
set_option maxHeartbeats 4000000 in
theorem one_set (n : Int) (t : ByteArray) (w : World) (h0 : 0 ≤ n) (h1 : n < 4294967296)
    (A : ∀ W, Calls Try.prog 20 #[V 4 n t] W fun e w' => e = .returned (.bool true) ∧ Below W.heap.size W w') :
    Calls Try.prog 18 #[.string (ByteArray.mk #[45]), V 4 n t] w fun e w' => e = .returned (VE 4 (4294967295 - n) E0 0) ∧ Below w.heap.size w w' := by
  have A := Aside0.mk A
  have hn : n % 4294967296 = n := by omega
  have hsg : IntKind.u32.signed = false := rfl
  have S := Aside0.mk (fun W => set_any (4294967295 - n) W (by omega) (by omega))
  rw [← Bits12.xor_all n h0 h1] at S ⊢
  go_enter Try.func18, Try.ntmps18
  go_wp2_with fail
  refine (A.out _).mono ?_
  rintro e w1 ⟨rfl, hb1⟩
  obtain ⟨C, B, G⟩ := two_boxes hb1
  have G1 := Aside0.mk G
  clear hb1 G
  obtain ⟨c0, c1, c2, f0, f1, f2⟩ := cells3 C
  have B := Aside0.mk B
  clear C
  go_wp2_with fail
  refine (S.out _).mono ?_
  rintro e w2 ⟨rfl, hb2⟩
  have G1 := Aside0.mk (below_step G1.out hb2)
  have B := blk_below B.out hb2
  clear c0 c1 c2 f0 f1 f2 hb2
  obtain ⟨c0, c1, c2, f0, f1, f2⟩ := cells3 B
  clear B
  go_wp2_with fail
  refine bodyPost_ret (v := _) (by first | (simp [results, Try.results18, go_sem, *]; done) | (simp [results, Try.results18, go_sem, *]; rfl)) rfl ⟨rfl, ?_⟩
  first | exact set3 G1.out _ _ _ | exact G1.out | exact set3 (by assumption) _ _ _
set_option maxRecDepth 100000 in
set_option maxHeartbeats 4000000 in
theorem one_not (n : Int) (t : ByteArray) (w : World)
    (A : ∀ W, Calls Try.prog 20 #[V 2 n t] W fun e w' => e = .returned (.bool true) ∧ Below W.heap.size W w') :
    Calls Try.prog 18 #[.string (ByteArray.mk #[126]), V 2 n t] w fun e w' => e = .returned (VE 2 (tr (n == 0)) E0 0) ∧ Below w.heap.size w w' := by
  have A := Aside0.mk A
  have S := Aside0.mk (fun W => truth_any (n == 0) W)
  go_enter Try.func18, Try.ntmps18
  go_wp2_with fail
  refine (A.out _).mono ?_
  rintro e w1 ⟨rfl, hb1⟩
  obtain ⟨C, B, G⟩ := two_boxes hb1
  have G1 := Aside0.mk G
  clear hb1 G
  obtain ⟨c0, c1, c2, f0, f1, f2⟩ := cells3 C
  have B := Aside0.mk B
  clear C
  go_wp2_with fail
  refine (S.out _).mono ?_
  rintro e w2 ⟨rfl, hb2⟩
  have G1 := Aside0.mk (below_step G1.out hb2)
  have B := blk_below B.out hb2
  clear c0 c1 c2 f0 f1 f2 hb2
  obtain ⟨c0, c1, c2, f0, f1, f2⟩ := cells3 B
  clear B
  go_wp2_with fail
  refine bodyPost_ret (v := _) (by first | (simp [results, Try.results18, go_sem, *]; done) | (simp [results, Try.results18, go_sem, *]; rfl)) rfl ⟨rfl, ?_⟩
  first | exact set3 G1.out _ _ _ | exact G1.out | exact set3 (by assumption) _ _ _
set_option maxRecDepth 100000 in
set_option maxHeartbeats 4000000 in
theorem one_plus_no (f n : Int) (t : ByteArray) (w : World) (hf : f ≠ 1)
    (A : ∀ W, Calls Try.prog 20 #[V f n t] W fun e w' => e = .returned (.bool true) ∧ Below W.heap.size W w') :
    Calls Try.prog 18 #[.string (ByteArray.mk #[43]), V f n t] w fun e w' => e = .returned (VE 0 0 E0 120) ∧ Below w.heap.size w w' := by
  have A := Aside0.mk A
  have d1 : (f == 1) = false := beq_eq_false_iff_ne.2 hf
  clear hf
  go_enter Try.func18, Try.ntmps18
  go_wp2_with fail
  refine (A.out _).mono ?_
  rintro e w1 ⟨rfl, hb1⟩
  obtain ⟨C, B, G⟩ := two_boxes hb1
  have G1 := Aside0.mk G
  clear hb1 G
  obtain ⟨c0, c1, c2, f0, f1, f2⟩ := cells3 B
  obtain ⟨e0, e1, e2, g0, g1, g2⟩ := cells3 C
  clear B C
  go_wp2_with fail
  refine bodyPost_ret (v := _) (by first | (simp [results, Try.results18, go_sem, *]; done) | (simp [results, Try.results18, go_sem, *]; rfl)) rfl ⟨rfl, ?_⟩
  first | exact set3 G1.out _ _ _ | exact G1.out | exact set3 (by assumption) _ _ _
set_option maxRecDepth 100000 in
set_option maxHeartbeats 4000000 in
theorem one_minus_no (f n : Int) (t : ByteArray) (w : World) (hf : f ≠ 1) (hf4 : f ≠ 4)
    (A : ∀ W, Calls Try.prog 20 #[V f n t] W fun e w' => e = .returned (.bool true) ∧ Below W.heap.size W w') :
    Calls Try.prog 18 #[.string (ByteArray.mk #[45]), V f n t] w fun e w' => e = .returned (VE 0 0 E0 120) ∧ Below w.heap.size w w' := by
  have A := Aside0.mk A
  have d1 : (f == 1) = false := beq_eq_false_iff_ne.2 hf
  have d4 : (f == 4) = false := beq_eq_false_iff_ne.2 hf4
  clear hf hf4
  go_enter Try.func18, Try.ntmps18
  go_wp2_with fail
  refine (A.out _).mono ?_
  rintro e w1 ⟨rfl, hb1⟩
  obtain ⟨C, B, G⟩ := two_boxes hb1
  have G1 := Aside0.mk G
  clear hb1 G
  obtain ⟨c0, c1, c2, f0, f1, f2⟩ := cells3 B
  obtain ⟨e0, e1, e2, g0, g1, g2⟩ := cells3 C
  clear B C
  go_wp2_with fail
  refine bodyPost_ret (v := _) (by first | (simp [results, Try.results18, go_sem, *]; done) | (simp [results, Try.results18, go_sem, *]; rfl)) rfl ⟨rfl, ?_⟩
  first | exact set3 G1.out _ _ _ | exact G1.out | exact set3 (by assumption) _ _ _
set_option maxRecDepth 100000 in
set_option maxHeartbeats 4000000 in
theorem one_not_no (f n : Int) (t : ByteArray) (w : World) (hf : f ≠ 2)
    (A : ∀ W, Calls Try.prog 20 #[V f n t] W fun e w' => e = .returned (.bool true) ∧ Below W.heap.size W w') :
    Calls Try.prog 18 #[.string (ByteArray.mk #[126]), V f n t] w fun e w' => e = .returned (VE 0 0 E0 120) ∧ Below w.heap.size w w' := by
  have A := Aside0.mk A
  have d2 : (f == 2) = false := beq_eq_false_iff_ne.2 hf
  clear hf
  go_enter Try.func18, Try.ntmps18
  go_wp2_with fail
  refine (A.out _).mono ?_
  rintro e w1 ⟨rfl, hb1⟩
  obtain ⟨C, B, G⟩ := two_boxes hb1
  have G1 := Aside0.mk G
  clear hb1 G
  obtain ⟨c0, c1, c2, f0, f1, f2⟩ := cells3 B
  obtain ⟨e0, e1, e2, g0, g1, g2⟩ := cells3 C
  clear B C
  go_wp2_with fail
  refine bodyPost_ret (v := _) (by first | (simp [results, Try.results18, go_sem, *]; done) | (simp [results, Try.results18, go_sem, *]; rfl)) rfl ⟨rfl, ?_⟩
  first | exact set3 G1.out _ _ _ | exact G1.out | exact set3 (by assumption) _ _ _
set_option maxRecDepth 100000 in
set_option maxHeartbeats 4000000 in
theorem one_other (op : ByteArray) (f n : Int) (t : ByteArray) (w : World) (d1 : (op.toList == [43]) = false) (d2 : (op.toList == [45]) = false) (d3 : (op.toList == [126]) = false)
    (A : ∀ W, Calls Try.prog 20 #[V f n t] W fun e w' => e = .returned (.bool true) ∧ Below W.heap.size W w') :
    Calls Try.prog 18 #[.string op, V f n t] w fun e w' => e = .returned (VE 0 0 E0 120) ∧ Below w.heap.size w w' := by
  have A := Aside0.mk A
  go_enter Try.func18, Try.ntmps18
  go_wp2_with fail
  refine (A.out _).mono ?_
  rintro e w1 ⟨rfl, hb1⟩
  obtain ⟨C, B, G⟩ := two_boxes hb1
  have G1 := Aside0.mk G
  clear hb1 G
  obtain ⟨c0, c1, c2, f0, f1, f2⟩ := cells3 B
  obtain ⟨e0, e1, e2, g0, g1, g2⟩ := cells3 C
  clear B C
  go_wp2_with fail
  refine bodyPost_ret (v := _) (by first | (simp [results, Try.results18, go_sem, *]; done) | (simp [results, Try.results18, go_sem, *]; rfl)) rfl ⟨rfl, ?_⟩
  first | exact set3 G1.out _ _ _ | exact G1.out | exact set3 (by assumption) _ _ _
end Go.Proofs.Ytjimcgmefpienaa.One
