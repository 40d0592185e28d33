/- The document's operation of one constant, walked; it tells what consts.One tells. -/
import Derived.Test.YtjimcgmefpienaaConstsOne
import Derived.Test.YtjimcgmefpienaaGood12
namespace Go.Proofs.Ytjimcgmefpienaa.RefOne
open Go.RowKit Go.Maps Go.Proofs.Ytjimcgmefpienaa.Tab Go.Proofs.Ytjimcgmefpienaa.Plain Go.Proofs.Ytjimcgmefpienaa.Small Go.Proofs.Ytjimcgmefpienaa.One Go.Proofs.Ytjimcgmefpienaa.Good12 Go.Proofs.Ytjimcgmefpienaa.PConstsCalls Go.Proofs.Ytjimcgmefpienaa.Pure12 Go.Proofs.YtjimcgmefpienaaW.PrintWords Go.Proofs.YtjimcgmefpienaaW.PrintLast Go.Proofs.YtjimcgmefpienaaW.PrintMore
set_option linter.unusedVariables false
set_option linter.unusedSimpArgs false

theorem rnone_any (w : World) : Calls Try.prog 33 #[] w fun e w' => e = .returned (VE 0 0 E0 120) ∧ Below w.heap.size w w' :=
  spinetref12_none.calls 0 0 E0 120 w rfl
theorem rtruth_any (b : Bool) (w : World) : Calls Try.prog 35 #[.bool b] w fun e w' => e = .returned (VE 2 (tr b) E0 0) ∧ Below w.heap.size w w' :=
  spinetref12_truth.calls b 2 (tr b) E0 0 w (by cases b <;> rfl)
theorem rset_any (n : Int) (w : World) (h0 : 0 ≤ n) (h1 : n < 4294967296) : Calls Try.prog 41 #[.int .u32 n] w fun e w' => e = .returned (VE 4 n E0 0) ∧ Below w.heap.size w w' :=
  spinetref12_set.calls n 4 n E0 0 w (by unfold spinetref12_set.f; rw [w64 (by omega) (by omega)])
theorem rint_any (n : Int) (w : World) : Calls Try.prog 45 #[.int .i64 n] w fun e w' => e = .returned (VE (fitsR n).1 (fitsR n).2.1 E0 (fitsR n).2.2) ∧ Below w.heap.size w w' :=
  spinetref12_integer.calls 39 n (fitsR n).1 (fitsR n).2.1 E0 (fitsR n).2.2 w (by
    unfold spinetref12_integer.f fitsR
    rw [fits_of]
    by_cases h1 : -2147483648 ≤ n <;> by_cases h2 : n < 2147483648 <;> simp [h1, h2])

set_option maxRecDepth 100000 in
set_option maxHeartbeats 4000000 in
theorem rone_none (op : ByteArray) (f n : Int) (t : ByteArray) (w : World)
    (A : ∀ W, Calls Try.prog 21 #[V f n t] W fun e w' => e = .returned (.bool false) ∧ Below W.heap.size W w') :
    Calls Try.prog 19 #[.string op, V f n t] w fun e w' => e = .returned (VE 0 0 E0 120) ∧ Below w.heap.size w w' := by
  have A := Aside0.mk A
  go_enter Try.func19, Try.ntmps19
  go_wp2_with fail
  refine (A.out _).mono ?_
  rintro e w1 ⟨rfl, hb1⟩
  obtain ⟨C, B, G⟩ := two_boxes hb1
  have G1 := Aside0.mk G
  clear hb1 G
  obtain ⟨c0, c1, c2, f0, f1, f2⟩ := cells3 C
  have B := Aside0.mk B
  clear C
  go_wp2_with fail
  refine (rnone_any _).mono ?_
  rintro e w2 ⟨rfl, hb2⟩
  have G1 := Aside0.mk (below_step G1.out hb2)
  have B := blk_below B.out hb2
  clear c0 c1 c2 f0 f1 f2 hb2
  obtain ⟨c0, c1, c2, f0, f1, f2⟩ := cells3 B
  clear B
  go_wp2_with fail
  refine bodyPost_ret (v := _) (by first | (simp [results, Try.results19, go_sem, *]; done) | (simp [results, Try.results19, go_sem, *]; rfl)) rfl ⟨rfl, ?_⟩
  first | exact set3 G1.out _ _ _ | exact G1.out
set_option maxRecDepth 100000 in
set_option maxHeartbeats 4000000 in
theorem rone_plus (n : Int) (t : ByteArray) (w : World)
    (A : ∀ W, Calls Try.prog 21 #[V 1 n t] W fun e w' => e = .returned (.bool true) ∧ Below W.heap.size W w') :
    Calls Try.prog 19 #[.string (ByteArray.mk #[43]), V 1 n t] w fun e w' => e = .returned (VE 1 n t 0) ∧ Below w.heap.size w w' := by
  have A := Aside0.mk A
  go_enter Try.func19, Try.ntmps19
  go_wp2_with fail
  refine (A.out _).mono ?_
  rintro e w1 ⟨rfl, hb1⟩
  obtain ⟨C, B, G⟩ := two_boxes hb1
  have G1 := Aside0.mk G
  clear hb1 G
  obtain ⟨c0, c1, c2, f0, f1, f2⟩ := cells3 C
  obtain ⟨e0, e1, e2, g0, g1, g2⟩ := cells3 B
  clear B C
  go_wp2_with fail
  refine bodyPost_ret (v := _) (by first | (simp [results, Try.results19, go_sem, *]; done) | (simp [results, Try.results19, go_sem, *]; rfl)) rfl ⟨rfl, ?_⟩
  first | exact set3 G1.out _ _ _ | exact G1.out
set_option maxRecDepth 100000 in
set_option maxHeartbeats 4000000 in
theorem rone_minus (n : Int) (t : ByteArray) (w : World)
    (A : ∀ W, Calls Try.prog 21 #[V 1 n t] W fun e w' => e = .returned (.bool true) ∧ Below W.heap.size W w') :
    Calls Try.prog 19 #[.string (ByteArray.mk #[45]), V 1 n t] w fun e w' => e = .returned (VE (fitsR (wrap64 (-n))).1 (fitsR (wrap64 (-n))).2.1 E0 (fitsR (wrap64 (-n))).2.2) ∧ Below w.heap.size w w' := by
  have A := Aside0.mk A
  have S := Aside0.mk (fun W => rint_any (wrap64 (-n)) W)
  generalize fitsR (wrap64 (-n)) = r at *
  obtain ⟨r1, r2, r3⟩ := r
  go_enter Try.func19, Try.ntmps19
  go_wp2_with fail
  refine (A.out _).mono ?_
  rintro e w1 ⟨rfl, hb1⟩
  obtain ⟨C, B, G⟩ := two_boxes hb1
  have G1 := Aside0.mk G
  clear hb1 G
  obtain ⟨c0, c1, c2, f0, f1, f2⟩ := cells3 C
  have B := Aside0.mk B
  clear C
  go_wp2_with fail
  refine (S.out _).mono ?_
  rintro e w2 ⟨rfl, hb2⟩
  have G1 := Aside0.mk (below_step G1.out hb2)
  have B := blk_below B.out hb2
  clear c0 c1 c2 f0 f1 f2 hb2
  obtain ⟨c0, c1, c2, f0, f1, f2⟩ := cells3 B
  clear B
  go_wp2_with fail
  refine bodyPost_ret (v := _) (by first | (simp [results, Try.results19, go_sem, *]; done) | (simp [results, Try.results19, go_sem, *]; rfl)) rfl ⟨rfl, ?_⟩
  first | exact set3 G1.out _ _ _ | exact G1.out
set_option maxRecDepth 100000 in
set_option maxHeartbeats 4000000 in
theorem rone_set (n : Int) (t : ByteArray) (w : World) (h0 : 0 ≤ n) (h1 : n < 4294967296)
    (A : ∀ W, Calls Try.prog 21 #[V 4 n t] W fun e w' => e = .returned (.bool true) ∧ Below W.heap.size W w') :
    Calls Try.prog 19 #[.string (ByteArray.mk #[45]), V 4 n t] w fun e w' => e = .returned (VE 4 (4294967295 - n) E0 0) ∧ Below w.heap.size w w' := by
  have A := Aside0.mk A
  have hn : n % 4294967296 = n := by omega
  have hsg : IntKind.u32.signed = false := rfl
  have S := Aside0.mk (fun W => rset_any (4294967295 - n) W (by omega) (by omega))
  rw [← Bits12.xor_all n h0 h1] at S ⊢
  go_enter Try.func19, Try.ntmps19
  go_wp2_with fail
  refine (A.out _).mono ?_
  rintro e w1 ⟨rfl, hb1⟩
  obtain ⟨C, B, G⟩ := two_boxes hb1
  have G1 := Aside0.mk G
  clear hb1 G
  obtain ⟨c0, c1, c2, f0, f1, f2⟩ := cells3 C
  have B := Aside0.mk B
  clear C
  go_wp2_with fail
  refine (S.out _).mono ?_
  rintro e w2 ⟨rfl, hb2⟩
  have G1 := Aside0.mk (below_step G1.out hb2)
  have B := blk_below B.out hb2
  clear c0 c1 c2 f0 f1 f2 hb2
  obtain ⟨c0, c1, c2, f0, f1, f2⟩ := cells3 B
  clear B
  go_wp2_with fail
  refine bodyPost_ret (v := _) (by first | (simp [results, Try.results19, go_sem, *]; done) | (simp [results, Try.results19, go_sem, *]; rfl)) rfl ⟨rfl, ?_⟩
  first | exact set3 G1.out _ _ _ | exact G1.out
set_option maxRecDepth 100000 in
set_option maxHeartbeats 4000000 in
theorem rone_not (n : Int) (t : ByteArray) (w : World)
    (A : ∀ W, Calls Try.prog 21 #[V 2 n t] W fun e w' => e = .returned (.bool true) ∧ Below W.heap.size W w') :
    Calls Try.prog 19 #[.string (ByteArray.mk #[126]), V 2 n t] w fun e w' => e = .returned (VE 2 (tr (n == 0)) E0 0) ∧ Below w.heap.size w w' := by
  have A := Aside0.mk A
  have S := Aside0.mk (fun W => rtruth_any (n == 0) W)
  go_enter Try.func19, Try.ntmps19
  go_wp2_with fail
  refine (A.out _).mono ?_
  rintro e w1 ⟨rfl, hb1⟩
  obtain ⟨C, B, G⟩ := two_boxes hb1
  have G1 := Aside0.mk G
  clear hb1 G
  obtain ⟨c0, c1, c2, f0, f1, f2⟩ := cells3 C
  have B := Aside0.mk B
  clear C
  go_wp2_with fail
  refine (S.out _).mono ?_
  rintro e w2 ⟨rfl, hb2⟩
  have G1 := Aside0.mk (below_step G1.out hb2)
  have B := blk_below B.out hb2
  clear c0 c1 c2 f0 f1 f2 hb2
  obtain ⟨c0, c1, c2, f0, f1, f2⟩ := cells3 B
  clear B
  go_wp2_with fail
  refine bodyPost_ret (v := _) (by first | (simp [results, Try.results19, go_sem, *]; done) | (simp [results, Try.results19, go_sem, *]; rfl)) rfl ⟨rfl, ?_⟩
  first | exact set3 G1.out _ _ _ | exact G1.out
set_option maxRecDepth 100000 in
set_option maxHeartbeats 4000000 in
theorem rone_plus_no2 (n : Int) (t : ByteArray) (w : World)
    (A : ∀ W, Calls Try.prog 21 #[V 2 n t] W fun e w' => e = .returned (.bool true) ∧ Below W.heap.size W w') :
    Calls Try.prog 19 #[.string (ByteArray.mk #[43]), V 2 n t] w fun e w' => e = .returned (VE 0 0 E0 120) ∧ Below w.heap.size w w' := by
  have A := Aside0.mk A
  go_enter Try.func19, Try.ntmps19
  go_wp2_with fail
  refine (A.out _).mono ?_
  rintro e w1 ⟨rfl, hb1⟩
  obtain ⟨C, B, G⟩ := two_boxes hb1
  have G1 := Aside0.mk G
  clear hb1 G
  obtain ⟨c0, c1, c2, f0, f1, f2⟩ := cells3 C
  have B := Aside0.mk B
  clear C
  go_wp2_with fail
  refine (rnone_any _).mono ?_
  rintro e w2 ⟨rfl, hb2⟩
  have G1 := Aside0.mk (below_step G1.out hb2)
  have B := blk_below B.out hb2
  clear c0 c1 c2 f0 f1 f2 hb2
  obtain ⟨c0, c1, c2, f0, f1, f2⟩ := cells3 B
  clear B
  go_wp2_with fail
  refine bodyPost_ret (v := _) (by first | (simp [results, Try.results19, go_sem, *]; done) | (simp [results, Try.results19, go_sem, *]; rfl)) rfl ⟨rfl, ?_⟩
  first | exact set3 G1.out _ _ _ | exact G1.out
set_option maxRecDepth 100000 in
set_option maxHeartbeats 4000000 in
theorem rone_plus_no4 (n : Int) (t : ByteArray) (w : World)
    (A : ∀ W, Calls Try.prog 21 #[V 4 n t] W fun e w' => e = .returned (.bool true) ∧ Below W.heap.size W w') :
    Calls Try.prog 19 #[.string (ByteArray.mk #[43]), V 4 n t] w fun e w' => e = .returned (VE 0 0 E0 120) ∧ Below w.heap.size w w' := by
  have A := Aside0.mk A
  go_enter Try.func19, Try.ntmps19
  go_wp2_with fail
  refine (A.out _).mono ?_
  rintro e w1 ⟨rfl, hb1⟩
  obtain ⟨C, B, G⟩ := two_boxes hb1
  have G1 := Aside0.mk G
  clear hb1 G
  obtain ⟨c0, c1, c2, f0, f1, f2⟩ := cells3 C
  have B := Aside0.mk B
  clear C
  go_wp2_with fail
  refine (rnone_any _).mono ?_
  rintro e w2 ⟨rfl, hb2⟩
  have G1 := Aside0.mk (below_step G1.out hb2)
  have B := blk_below B.out hb2
  clear c0 c1 c2 f0 f1 f2 hb2
  obtain ⟨c0, c1, c2, f0, f1, f2⟩ := cells3 B
  clear B
  go_wp2_with fail
  refine bodyPost_ret (v := _) (by first | (simp [results, Try.results19, go_sem, *]; done) | (simp [results, Try.results19, go_sem, *]; rfl)) rfl ⟨rfl, ?_⟩
  first | exact set3 G1.out _ _ _ | exact G1.out
set_option maxRecDepth 100000 in
set_option maxHeartbeats 4000000 in
theorem rone_plus_no (f n : Int) (t : ByteArray) (w : World) (hf1 : f ≠ 1) (hf2 : f ≠ 2) (hf4 : f ≠ 4)
    (A : ∀ W, Calls Try.prog 21 #[V f n t] W fun e w' => e = .returned (.bool true) ∧ Below W.heap.size W w') :
    Calls Try.prog 19 #[.string (ByteArray.mk #[43]), V f n t] w fun e w' => e = .returned (VE 0 0 E0 120) ∧ Below w.heap.size w w' := by
  have A := Aside0.mk A
  have d1 : (f == 1) = false := beq_eq_false_iff_ne.2 hf1
  have d2 : (f == 2) = false := beq_eq_false_iff_ne.2 hf2
  have d4 : (f == 4) = false := beq_eq_false_iff_ne.2 hf4
  clear hf1 hf2 hf4
  go_enter Try.func19, Try.ntmps19
  go_wp2_with fail
  refine (A.out _).mono ?_
  rintro e w1 ⟨rfl, hb1⟩
  obtain ⟨C, B, G⟩ := two_boxes hb1
  have G1 := Aside0.mk G
  clear hb1 G
  obtain ⟨c0, c1, c2, f0, f1, f2⟩ := cells3 C
  have B := Aside0.mk B
  clear C
  go_wp2_with fail
  refine (rnone_any _).mono ?_
  rintro e w2 ⟨rfl, hb2⟩
  have G1 := Aside0.mk (below_step G1.out hb2)
  have B := blk_below B.out hb2
  clear c0 c1 c2 f0 f1 f2 hb2
  obtain ⟨c0, c1, c2, f0, f1, f2⟩ := cells3 B
  clear B
  go_wp2_with fail
  refine bodyPost_ret (v := _) (by first | (simp [results, Try.results19, go_sem, *]; done) | (simp [results, Try.results19, go_sem, *]; rfl)) rfl ⟨rfl, ?_⟩
  first | exact set3 G1.out _ _ _ | exact G1.out
set_option maxRecDepth 100000 in
set_option maxHeartbeats 4000000 in
theorem rone_minus_no2 (n : Int) (t : ByteArray) (w : World)
    (A : ∀ W, Calls Try.prog 21 #[V 2 n t] W fun e w' => e = .returned (.bool true) ∧ Below W.heap.size W w') :
    Calls Try.prog 19 #[.string (ByteArray.mk #[45]), V 2 n t] w fun e w' => e = .returned (VE 0 0 E0 120) ∧ Below w.heap.size w w' := by
  have A := Aside0.mk A
  go_enter Try.func19, Try.ntmps19
  go_wp2_with fail
  refine (A.out _).mono ?_
  rintro e w1 ⟨rfl, hb1⟩
  obtain ⟨C, B, G⟩ := two_boxes hb1
  have G1 := Aside0.mk G
  clear hb1 G
  obtain ⟨c0, c1, c2, f0, f1, f2⟩ := cells3 C
  have B := Aside0.mk B
  clear C
  go_wp2_with fail
  refine (rnone_any _).mono ?_
  rintro e w2 ⟨rfl, hb2⟩
  have G1 := Aside0.mk (below_step G1.out hb2)
  have B := blk_below B.out hb2
  clear c0 c1 c2 f0 f1 f2 hb2
  obtain ⟨c0, c1, c2, f0, f1, f2⟩ := cells3 B
  clear B
  go_wp2_with fail
  refine bodyPost_ret (v := _) (by first | (simp [results, Try.results19, go_sem, *]; done) | (simp [results, Try.results19, go_sem, *]; rfl)) rfl ⟨rfl, ?_⟩
  first | exact set3 G1.out _ _ _ | exact G1.out
set_option maxRecDepth 100000 in
set_option maxHeartbeats 4000000 in
theorem rone_minus_no (f n : Int) (t : ByteArray) (w : World) (hf1 : f ≠ 1) (hf2 : f ≠ 2) (hf4 : f ≠ 4)
    (A : ∀ W, Calls Try.prog 21 #[V f n t] W fun e w' => e = .returned (.bool true) ∧ Below W.heap.size W w') :
    Calls Try.prog 19 #[.string (ByteArray.mk #[45]), V f n t] w fun e w' => e = .returned (VE 0 0 E0 120) ∧ Below w.heap.size w w' := by
  have A := Aside0.mk A
  have d1 : (f == 1) = false := beq_eq_false_iff_ne.2 hf1
  have d2 : (f == 2) = false := beq_eq_false_iff_ne.2 hf2
  have d4 : (f == 4) = false := beq_eq_false_iff_ne.2 hf4
  clear hf1 hf2 hf4
  go_enter Try.func19, Try.ntmps19
  go_wp2_with fail
  refine (A.out _).mono ?_
  rintro e w1 ⟨rfl, hb1⟩
  obtain ⟨C, B, G⟩ := two_boxes hb1
  have G1 := Aside0.mk G
  clear hb1 G
  obtain ⟨c0, c1, c2, f0, f1, f2⟩ := cells3 C
  have B := Aside0.mk B
  clear C
  go_wp2_with fail
  refine (rnone_any _).mono ?_
  rintro e w2 ⟨rfl, hb2⟩
  have G1 := Aside0.mk (below_step G1.out hb2)
  have B := blk_below B.out hb2
  clear c0 c1 c2 f0 f1 f2 hb2
  obtain ⟨c0, c1, c2, f0, f1, f2⟩ := cells3 B
  clear B
  go_wp2_with fail
  refine bodyPost_ret (v := _) (by first | (simp [results, Try.results19, go_sem, *]; done) | (simp [results, Try.results19, go_sem, *]; rfl)) rfl ⟨rfl, ?_⟩
  first | exact set3 G1.out _ _ _ | exact G1.out
set_option maxRecDepth 100000 in
set_option maxHeartbeats 4000000 in
theorem rone_not_no1 (n : Int) (t : ByteArray) (w : World)
    (A : ∀ W, Calls Try.prog 21 #[V 1 n t] W fun e w' => e = .returned (.bool true) ∧ Below W.heap.size W w') :
    Calls Try.prog 19 #[.string (ByteArray.mk #[126]), V 1 n t] w fun e w' => e = .returned (VE 0 0 E0 120) ∧ Below w.heap.size w w' := by
  have A := Aside0.mk A
  go_enter Try.func19, Try.ntmps19
  go_wp2_with fail
  refine (A.out _).mono ?_
  rintro e w1 ⟨rfl, hb1⟩
  obtain ⟨C, B, G⟩ := two_boxes hb1
  have G1 := Aside0.mk G
  clear hb1 G
  obtain ⟨c0, c1, c2, f0, f1, f2⟩ := cells3 C
  have B := Aside0.mk B
  clear C
  go_wp2_with fail
  refine (rnone_any _).mono ?_
  rintro e w2 ⟨rfl, hb2⟩
  have G1 := Aside0.mk (below_step G1.out hb2)
  have B := blk_below B.out hb2
  clear c0 c1 c2 f0 f1 f2 hb2
  obtain ⟨c0, c1, c2, f0, f1, f2⟩ := cells3 B
  clear B
  go_wp2_with fail
  refine bodyPost_ret (v := _) (by first | (simp [results, Try.results19, go_sem, *]; done) | (simp [results, Try.results19, go_sem, *]; rfl)) rfl ⟨rfl, ?_⟩
  first | exact set3 G1.out _ _ _ | exact G1.out
set_option maxRecDepth 100000 in
set_option maxHeartbeats 4000000 in
theorem rone_not_no4 (n : Int) (t : ByteArray) (w : World)
    (A : ∀ W, Calls Try.prog 21 #[V 4 n t] W fun e w' => e = .returned (.bool true) ∧ Below W.heap.size W w') :
    Calls Try.prog 19 #[.string (ByteArray.mk #[126]), V 4 n t] w fun e w' => e = .returned (VE 0 0 E0 120) ∧ Below w.heap.size w w' := by
  have A := Aside0.mk A
  go_enter Try.func19, Try.ntmps19
  go_wp2_with fail
  refine (A.out _).mono ?_
  rintro e w1 ⟨rfl, hb1⟩
  obtain ⟨C, B, G⟩ := two_boxes hb1
  have G1 := Aside0.mk G
  clear hb1 G
  obtain ⟨c0, c1, c2, f0, f1, f2⟩ := cells3 C
  have B := Aside0.mk B
  clear C
  go_wp2_with fail
  refine (rnone_any _).mono ?_
  rintro e w2 ⟨rfl, hb2⟩
  have G1 := Aside0.mk (below_step G1.out hb2)
  have B := blk_below B.out hb2
  clear c0 c1 c2 f0 f1 f2 hb2
  obtain ⟨c0, c1, c2, f0, f1, f2⟩ := cells3 B
  clear B
  go_wp2_with fail
  refine bodyPost_ret (v := _) (by first | (simp [results, Try.results19, go_sem, *]; done) | (simp [results, Try.results19, go_sem, *]; rfl)) rfl ⟨rfl, ?_⟩
  first | exact set3 G1.out _ _ _ | exact G1.out
set_option maxRecDepth 100000 in
set_option maxHeartbeats 4000000 in
theorem rone_not_no (f n : Int) (t : ByteArray) (w : World) (hf1 : f ≠ 1) (hf2 : f ≠ 2) (hf4 : f ≠ 4)
    (A : ∀ W, Calls Try.prog 21 #[V f n t] W fun e w' => e = .returned (.bool true) ∧ Below W.heap.size W w') :
    Calls Try.prog 19 #[.string (ByteArray.mk #[126]), V f n t] w fun e w' => e = .returned (VE 0 0 E0 120) ∧ Below w.heap.size w w' := by
  have A := Aside0.mk A
  have d1 : (f == 1) = false := beq_eq_false_iff_ne.2 hf1
  have d2 : (f == 2) = false := beq_eq_false_iff_ne.2 hf2
  have d4 : (f == 4) = false := beq_eq_false_iff_ne.2 hf4
  clear hf1 hf2 hf4
  go_enter Try.func19, Try.ntmps19
  go_wp2_with fail
  refine (A.out _).mono ?_
  rintro e w1 ⟨rfl, hb1⟩
  obtain ⟨C, B, G⟩ := two_boxes hb1
  have G1 := Aside0.mk G
  clear hb1 G
  obtain ⟨c0, c1, c2, f0, f1, f2⟩ := cells3 C
  have B := Aside0.mk B
  clear C
  go_wp2_with fail
  refine (rnone_any _).mono ?_
  rintro e w2 ⟨rfl, hb2⟩
  have G1 := Aside0.mk (below_step G1.out hb2)
  have B := blk_below B.out hb2
  clear c0 c1 c2 f0 f1 f2 hb2
  obtain ⟨c0, c1, c2, f0, f1, f2⟩ := cells3 B
  clear B
  go_wp2_with fail
  refine bodyPost_ret (v := _) (by first | (simp [results, Try.results19, go_sem, *]; done) | (simp [results, Try.results19, go_sem, *]; rfl)) rfl ⟨rfl, ?_⟩
  first | exact set3 G1.out _ _ _ | exact G1.out
set_option maxRecDepth 100000 in
set_option maxHeartbeats 4000000 in
theorem rone_other1 (op : ByteArray) (n : Int) (t : ByteArray) (w : World) (d1 : (op.toList == [43]) = false) (d2 : (op.toList == [45]) = false) (d3 : (op.toList == [126]) = false)
    (A : ∀ W, Calls Try.prog 21 #[V 1 n t] W fun e w' => e = .returned (.bool true) ∧ Below W.heap.size W w') :
    Calls Try.prog 19 #[.string op, V 1 n t] w fun e w' => e = .returned (VE 0 0 E0 120) ∧ Below w.heap.size w w' := by
  have A := Aside0.mk A
  go_enter Try.func19, Try.ntmps19
  go_wp2_with fail
  refine (A.out _).mono ?_
  rintro e w1 ⟨rfl, hb1⟩
  obtain ⟨C, B, G⟩ := two_boxes hb1
  have G1 := Aside0.mk G
  clear hb1 G
  obtain ⟨c0, c1, c2, f0, f1, f2⟩ := cells3 C
  have B := Aside0.mk B
  clear C
  go_wp2_with fail
  refine (rnone_any _).mono ?_
  rintro e w2 ⟨rfl, hb2⟩
  have G1 := Aside0.mk (below_step G1.out hb2)
  have B := blk_below B.out hb2
  clear c0 c1 c2 f0 f1 f2 hb2
  obtain ⟨c0, c1, c2, f0, f1, f2⟩ := cells3 B
  clear B
  go_wp2_with fail
  refine bodyPost_ret (v := _) (by first | (simp [results, Try.results19, go_sem, *]; done) | (simp [results, Try.results19, go_sem, *]; rfl)) rfl ⟨rfl, ?_⟩
  first | exact set3 G1.out _ _ _ | exact G1.out
set_option maxRecDepth 100000 in
set_option maxHeartbeats 4000000 in
theorem rone_other2 (op : ByteArray) (n : Int) (t : ByteArray) (w : World) (d1 : (op.toList == [43]) = false) (d2 : (op.toList == [45]) = false) (d3 : (op.toList == [126]) = false)
    (A : ∀ W, Calls Try.prog 21 #[V 2 n t] W fun e w' => e = .returned (.bool true) ∧ Below W.heap.size W w') :
    Calls Try.prog 19 #[.string op, V 2 n t] w fun e w' => e = .returned (VE 0 0 E0 120) ∧ Below w.heap.size w w' := by
  have A := Aside0.mk A
  go_enter Try.func19, Try.ntmps19
  go_wp2_with fail
  refine (A.out _).mono ?_
  rintro e w1 ⟨rfl, hb1⟩
  obtain ⟨C, B, G⟩ := two_boxes hb1
  have G1 := Aside0.mk G
  clear hb1 G
  obtain ⟨c0, c1, c2, f0, f1, f2⟩ := cells3 C
  have B := Aside0.mk B
  clear C
  go_wp2_with fail
  refine (rnone_any _).mono ?_
  rintro e w2 ⟨rfl, hb2⟩
  have G1 := Aside0.mk (below_step G1.out hb2)
  have B := blk_below B.out hb2
  clear c0 c1 c2 f0 f1 f2 hb2
  obtain ⟨c0, c1, c2, f0, f1, f2⟩ := cells3 B
  clear B
  go_wp2_with fail
  refine bodyPost_ret (v := _) (by first | (simp [results, Try.results19, go_sem, *]; done) | (simp [results, Try.results19, go_sem, *]; rfl)) rfl ⟨rfl, ?_⟩
  first | exact set3 G1.out _ _ _ | exact G1.out
set_option maxRecDepth 100000 in
set_option maxHeartbeats 4000000 in
theorem rone_other4 (op : ByteArray) (n : Int) (t : ByteArray) (w : World) (d1 : (op.toList == [43]) = false) (d2 : (op.toList == [45]) = false) (d3 : (op.toList == [126]) = false)
    (A : ∀ W, Calls Try.prog 21 #[V 4 n t] W fun e w' => e = .returned (.bool true) ∧ Below W.heap.size W w') :
    Calls Try.prog 19 #[.string op, V 4 n t] w fun e w' => e = .returned (VE 0 0 E0 120) ∧ Below w.heap.size w w' := by
  have A := Aside0.mk A
  go_enter Try.func19, Try.ntmps19
  go_wp2_with fail
  refine (A.out _).mono ?_
  rintro e w1 ⟨rfl, hb1⟩
  obtain ⟨C, B, G⟩ := two_boxes hb1
  have G1 := Aside0.mk G
  clear hb1 G
  obtain ⟨c0, c1, c2, f0, f1, f2⟩ := cells3 C
  have B := Aside0.mk B
  clear C
  go_wp2_with fail
  refine (rnone_any _).mono ?_
  rintro e w2 ⟨rfl, hb2⟩
  have G1 := Aside0.mk (below_step G1.out hb2)
  have B := blk_below B.out hb2
  clear c0 c1 c2 f0 f1 f2 hb2
  obtain ⟨c0, c1, c2, f0, f1, f2⟩ := cells3 B
  clear B
  go_wp2_with fail
  refine bodyPost_ret (v := _) (by first | (simp [results, Try.results19, go_sem, *]; done) | (simp [results, Try.results19, go_sem, *]; rfl)) rfl ⟨rfl, ?_⟩
  first | exact set3 G1.out _ _ _ | exact G1.out
set_option maxRecDepth 100000 in
set_option maxHeartbeats 4000000 in
theorem rone_other (op : ByteArray) (f n : Int) (t : ByteArray) (w : World) (d1 : (op.toList == [43]) = false) (d2 : (op.toList == [45]) = false) (d3 : (op.toList == [126]) = false) (hf1 : f ≠ 1) (hf2 : f ≠ 2) (hf4 : f ≠ 4)
    (A : ∀ W, Calls Try.prog 21 #[V f n t] W fun e w' => e = .returned (.bool true) ∧ Below W.heap.size W w') :
    Calls Try.prog 19 #[.string op, V f n t] w fun e w' => e = .returned (VE 0 0 E0 120) ∧ Below w.heap.size w w' := by
  have A := Aside0.mk A
  have k1 : (f == 1) = false := beq_eq_false_iff_ne.2 hf1
  have k2 : (f == 2) = false := beq_eq_false_iff_ne.2 hf2
  have k4 : (f == 4) = false := beq_eq_false_iff_ne.2 hf4
  clear hf1 hf2 hf4
  go_enter Try.func19, Try.ntmps19
  go_wp2_with fail
  refine (A.out _).mono ?_
  rintro e w1 ⟨rfl, hb1⟩
  obtain ⟨C, B, G⟩ := two_boxes hb1
  have G1 := Aside0.mk G
  clear hb1 G
  obtain ⟨c0, c1, c2, f0, f1, f2⟩ := cells3 C
  have B := Aside0.mk B
  clear C
  go_wp2_with fail
  refine (rnone_any _).mono ?_
  rintro e w2 ⟨rfl, hb2⟩
  have G1 := Aside0.mk (below_step G1.out hb2)
  have B := blk_below B.out hb2
  clear c0 c1 c2 f0 f1 f2 hb2
  obtain ⟨c0, c1, c2, f0, f1, f2⟩ := cells3 B
  clear B
  go_wp2_with fail
  refine bodyPost_ret (v := _) (by first | (simp [results, Try.results19, go_sem, *]; done) | (simp [results, Try.results19, go_sem, *]; rfl)) rfl ⟨rfl, ?_⟩
  first | exact set3 G1.out _ _ _ | exact G1.out
theorem mk_of {t : ByteArray} {l : List UInt8} (h : t.data.toList = l) : t = ⟨⟨l⟩⟩ := by
  cases t with
  | mk d => cases d with
    | mk m => simp at h; subst h; rfl
theorem beq_no {op : ByteArray} {l : List UInt8} (h : op.data.toList ≠ l) : (op.toList == l) = false := by
  rw [Lib.toList_data]; simpa using h
/-- Both tell the same of one constant. -/
theorem one_both (op : ByteArray) (f n : Int) (t : ByteArray) (g : Bool)
    (A : ∀ W, Calls Try.prog 20 #[V f n t] W fun e w' => e = .returned (.bool g) ∧ Below W.heap.size W w')
    (B : ∀ W, Calls Try.prog 21 #[V f n t] W fun e w' => e = .returned (.bool g) ∧ Below W.heap.size W w') (F : g = true → Facts f n t) :
    ∃ (r : Int × Int × ByteArray × Int), (∀ W, Calls Try.prog 18 #[.string op, V f n t] W fun e w' => e = .returned (VE r.1 r.2.1 r.2.2.1 r.2.2.2) ∧ Below W.heap.size W w') ∧
      (∀ W, Calls Try.prog 19 #[.string op, V f n t] W fun e w' => e = .returned (VE r.1 r.2.1 r.2.2.1 r.2.2.2) ∧ Below W.heap.size W w') := by
  cases g
  · exact ⟨(0, 0, E0, 120), fun W => one_none op f n t W A, fun W => rone_none op f n t W B⟩
  · have F := F rfl
    by_cases h43 : op.data.toList = [43]
    · obtain rfl := mk_of h43
      by_cases h1 : f = 1
      · subst h1; exact ⟨(1, n, t, 0), fun W => one_plus n t W A, fun W => rone_plus n t W B⟩
      · refine ⟨(0, 0, E0, 120), fun W => one_plus_no f n t W h1 A, fun W => ?_⟩
        by_cases h2 : f = 2
        · subst h2; exact rone_plus_no2 n t W B
        · by_cases h4 : f = 4
          · subst h4; exact rone_plus_no4 n t W B
          · exact rone_plus_no f n t W h1 h2 h4 B
    · by_cases h45 : op.data.toList = [45]
      · obtain rfl := mk_of h45
        by_cases h1 : f = 1
        · subst h1; exact ⟨((fitsR (wrap64 (-n))).1, (fitsR (wrap64 (-n))).2.1, E0, (fitsR (wrap64 (-n))).2.2), fun W => one_minus n t W A, fun W => rone_minus n t W B⟩
        · by_cases h4 : f = 4
          · subst h4
            have hs := F.set rfl
            exact ⟨(4, 4294967295 - n, E0, 0), fun W => one_set n t W hs.1 hs.2 A, fun W => rone_set n t W hs.1 hs.2 B⟩
          · refine ⟨(0, 0, E0, 120), fun W => one_minus_no f n t W h1 h4 A, fun W => ?_⟩
            by_cases h2 : f = 2
            · subst h2; exact rone_minus_no2 n t W B
            · exact rone_minus_no f n t W h1 h2 h4 B
      · by_cases h126 : op.data.toList = [126]
        · obtain rfl := mk_of h126
          by_cases h2 : f = 2
          · subst h2; exact ⟨(2, tr (n == 0), E0, 0), fun W => one_not n t W A, fun W => rone_not n t W B⟩
          · refine ⟨(0, 0, E0, 120), fun W => one_not_no f n t W h2 A, fun W => ?_⟩
            by_cases h1 : f = 1
            · subst h1; exact rone_not_no1 n t W B
            · by_cases h4 : f = 4
              · subst h4; exact rone_not_no4 n t W B
              · exact rone_not_no f n t W h1 h2 h4 B
        · have d1 := beq_no h43
          have d2 := beq_no h45
          have d3 := beq_no h126
          refine ⟨(0, 0, E0, 120), fun W => one_other op f n t W d1 d2 d3 A, fun W => ?_⟩
          by_cases h1 : f = 1
          · subst h1; exact rone_other1 op n t W d1 d2 d3 B
          · by_cases h2 : f = 2
            · subst h2; exact rone_other2 op n t W d1 d2 d3 B
            · by_cases h4 : f = 4
              · subst h4; exact rone_other4 op n t W d1 d2 d3 B
              · exact rone_other op f n t W d1 d2 d3 h1 h2 h4 B
end Go.Proofs.Ytjimcgmefpienaa.RefOne
