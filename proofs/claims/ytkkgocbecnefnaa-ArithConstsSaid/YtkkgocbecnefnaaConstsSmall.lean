/- The small functions of package consts and the closures of its Two, walked. -/
import Derived.Test.YtkkgocbecnefnaaConstsTab
import Derived.Test.YtkkgocbecnefnaaPlain
import Derived.Test.YtkkgocbecnefnaaWLast
import Derived.Test.YtkkgocbecnefnaaWMore
namespace Go.Proofs.Ytkkgocbecnefnaa.Small
open Go.RowKit Go.Maps Go.Proofs.Ytkkgocbecnefnaa.Tab Go.Proofs.Ytkkgocbecnefnaa.Plain Go.Proofs.YtkkgocbecnefnaaW.PrintWords Go.Proofs.YtkkgocbecnefnaaW.PrintLast Go.Proofs.YtkkgocbecnefnaaW.PrintMore
set_option linter.unusedVariables false
set_option linter.unusedSimpArgs false

/-- A constant's value. -/
abbrev V (f n : Int) (t : ByteArray) : Value := .agg #[.int .i64 f, .int .i64 n, .string t]
abbrev E0 : ByteArray := ⟨#[]⟩
/-- A value and an error. -/
abbrev VE (f n : Int) (t : ByteArray) (e : Int) : Value := .tuple #[V f n t, .int .i64 e]

/-- A truth, as a number. -/
def tr (b : Bool) : Int := if b then 1 else 0
set_option maxRecDepth 100000 in
set_option maxHeartbeats 2000000 in
theorem truth_any (b : Bool) (w : World) : Calls Try.prog 61 #[.bool b] w fun e w' => e = .returned (V 2 (tr b) E0) ∧ Below w.heap.size w w' := by
  cases b
  all_goals
    go_enter Try.func61, Try.ntmps61
    go_wp2_with fail
    refine bodyPost_ret (v := _) (by first | (simp [results, Try.results61, go_sem]; done) | (simp [results, Try.results61, go_sem]; rfl)) rfl ⟨?_, ?_⟩
    · rfl
    · (repeat (first | (with_reducible exact Below.refl _ _) | (with_reducible exact Aside0.out (by assumption)) | (with_reducible apply below_alloc) | (with_reducible apply pw_below_drewN) | (with_reducible apply Below.drew) | ((with_reducible refine Below.setCell ?_ ?_ _); rotate_left; (first | (simp; done) | (simp; omega) | exact Nat.le_refl _))))
set_option maxRecDepth 100000 in
set_option maxHeartbeats 2000000 in
theorem number_any (n : Int) (w : World) : Calls Try.prog 97 #[.int .i64 n] w fun e w' => e = .returned (V 1 n E0) ∧ Below w.heap.size w w' := by
  go_enter Try.func97, Try.ntmps97
  go_wp2_with fail
  refine bodyPost_ret (v := _) (by first | (simp [results, Try.results97, go_sem]; done) | (simp [results, Try.results97, go_sem]; rfl)) rfl ⟨?_, ?_⟩
  · rfl
  · (repeat (first | (with_reducible exact Below.refl _ _) | (with_reducible exact Aside0.out (by assumption)) | (with_reducible apply below_alloc) | (with_reducible apply pw_below_drewN) | (with_reducible apply Below.drew) | ((with_reducible refine Below.setCell ?_ ?_ _); rotate_left; (first | (simp; done) | (simp; omega) | exact Nat.le_refl _))))
set_option maxRecDepth 100000 in
set_option maxHeartbeats 2000000 in
theorem set_any (n : Int) (w : World) (h0 : 0 ≤ n) (h1 : n < 4294967296) : Calls Try.prog 84 #[.int .u32 n] w fun e w' => e = .returned (V 4 n E0) ∧ Below w.heap.size w w' := by
  have hn : wrap64 n = n := w64 (by omega) (by omega)
  go_enter Try.func84, Try.ntmps84
  go_wp2_with fail
  refine bodyPost_ret (v := _) (by first | (simp [results, Try.results84, go_sem]; done) | (simp [results, Try.results84, go_sem]; rfl)) rfl ⟨?_, ?_⟩
  · first | rfl | (show Ending.returned (V 4 (wrap64 n) E0) = _; rw [hn]) | (simp [hn]; done)
  · (repeat (first | (with_reducible exact Below.refl _ _) | (with_reducible exact Aside0.out (by assumption)) | (with_reducible apply below_alloc) | (with_reducible apply pw_below_drewN) | (with_reducible apply Below.drew) | ((with_reducible refine Below.setCell ?_ ?_ _); rotate_left; (first | (simp; done) | (simp; omega) | exact Nat.le_refl _))))
set_option maxRecDepth 100000 in
set_option maxHeartbeats 2000000 in
theorem fits32 (n : Int) (w : World) : Calls Try.prog 72 #[.int .i64 n, .int .i64 32] w fun e w' => e = .returned (.bool (decide (-2147483648 ≤ n) && decide (n < 2147483648))) ∧ w = w' := by
  by_cases h1 : -2147483648 ≤ n
  · have c1 : decide (-2147483648 ≤ n) = true := decide_eq_true h1
    by_cases h2 : n < 2147483648
    · have c2 : decide (n < 2147483648) = true := decide_eq_true h2
      clear h1 h2
      rw [c1, c2]
      go_enter Try.func72, Try.ntmps72
      go_wp2_with fail
      go_ret
      exact ⟨rfl, rfl⟩
    · have c2 : decide (n < 2147483648) = false := decide_eq_false h2
      clear h1 h2
      rw [c1, c2]
      go_enter Try.func72, Try.ntmps72
      go_wp2_with fail
      go_ret
      exact ⟨rfl, rfl⟩
  · have c1 : decide (-2147483648 ≤ n) = false := decide_eq_false h1
    clear h1
    rw [c1]
    go_enter Try.func72, Try.ntmps72
    go_wp2_with fail
    go_ret
    exact ⟨rfl, rfl⟩
/-- What a number is that is to fit. -/
def fitsR (n : Int) : Int × Int × Int := if -2147483648 ≤ n ∧ n < 2147483648 then (1, n, 0) else (0, 0, 91)
abbrev VR (r : Int × Int × Int) : Value := VE r.1 r.2.1 E0 r.2.2
theorem mid {w w1 : World} (o : Obj) (h : Below (w.alloc o).heap.size (w.alloc o) w1) : w1.heap[w.heap.size]? = some o :=
  blk_below (MapKept.heap_alloc w o).1 h
/-- The cells of a value in a block. -/
theorem cells3 {w : World} {g : Nat} {f n : Int} {t : ByteArray} (h : w.heap[g]? = some (.cells #[.int .i64 f, .int .i64 n, .string t] 42 (0, 0))) :
    w.cell? ⟨g, 0, none⟩ = some (.int .i64 f) ∧ w.cell? ⟨g, 1, none⟩ = some (.int .i64 n) ∧ w.cell? ⟨g, 2, none⟩ = some (.string t) ∧
    w.frozen? ⟨g, 0, none⟩ = false ∧ w.frozen? ⟨g, 1, none⟩ = false ∧ w.frozen? ⟨g, 2, none⟩ = false :=
  ⟨(blk_cell h 0).trans rfl, (blk_cell h 1).trans rfl, (blk_cell h 2).trans rfl, blk_frozen h 0, blk_frozen h 1, blk_frozen h 2⟩
set_option maxRecDepth 100000 in
set_option maxHeartbeats 2000000 in
theorem fits_any (n : Int) (w : World) : Calls Try.prog 76 #[.int .i64 n] w fun e w' => e = .returned (VR (fitsR n)) ∧ Below w.heap.size w w' := by
  have F := Aside0.mk (fits32 n)
  unfold fitsR
  by_cases h : -2147483648 ≤ n ∧ n < 2147483648
  · rw [if_pos h]
    rw [decide_eq_true h.1, decide_eq_true h.2] at F
    clear h
    go_enter Try.func76, Try.ntmps76
    go_wp2_with fail
    refine (F.out _).mono ?_
    rintro e w1 ⟨rfl, rfl⟩
    go_wp2_with fail
    refine (number_any _ _).mono ?_
    rintro e w1 ⟨rfl, hb1⟩
    obtain ⟨c0, c1, c2, f0, f1, f2⟩ := cells3 (mid _ hb1)
    have G1 : Aside0 (Below w.heap.size w w1) := ⟨below_step (by (repeat (first | (with_reducible exact Below.refl _ _) | (with_reducible exact Aside0.out (by assumption)) | (with_reducible apply below_alloc) | (with_reducible apply pw_below_drewN) | (with_reducible apply Below.drew) | ((with_reducible refine Below.setCell ?_ ?_ _); rotate_left; (first | (simp; done) | (simp; omega) | exact Nat.le_refl _))))) hb1⟩
    clear hb1
    go_wp2_with fail
    refine bodyPost_ret (v := _) (by first | (simp [results, Try.results76, go_sem, *]; done) | (simp [results, Try.results76, go_sem, *]; rfl)) rfl ⟨rfl, ?_⟩
    (repeat (first | (with_reducible exact Below.refl _ _) | (with_reducible exact Aside0.out (by assumption)) | (with_reducible apply below_alloc) | (with_reducible apply pw_below_drewN) | (with_reducible apply Below.drew) | ((with_reducible refine Below.setCell ?_ ?_ _); rotate_left; (first | (simp; done) | (simp; omega) | exact Nat.le_refl _))))
  · rw [if_neg h]
    have hd : (decide (-2147483648 ≤ n) && decide (n < 2147483648)) = false := by simpa using h
    rw [hd] at F
    clear h hd
    go_enter Try.func76, Try.ntmps76
    go_wp2_with fail
    refine (F.out _).mono ?_
    rintro e w1 ⟨rfl, rfl⟩
    go_wp2_with fail
    refine bodyPost_ret (v := _) (by first | (simp [results, Try.results76, go_sem, *]; done) | (simp [results, Try.results76, go_sem, *]; rfl)) rfl ⟨rfl, ?_⟩
    (repeat (first | (with_reducible exact Below.refl _ _) | (with_reducible exact Aside0.out (by assumption)) | (with_reducible apply below_alloc) | (with_reducible apply pw_below_drewN) | (with_reducible apply Below.drew) | ((with_reducible refine Below.setCell ?_ ?_ _); rotate_left; (first | (simp; done) | (simp; omega) | exact Nat.le_refl _))))
theorem midN {w w1 : World} (o : Obj) (n : Nat) (h : Below ((w.alloc o).drewN n).heap.size ((w.alloc o).drewN n) w1) : w1.heap[w.heap.size]? = some o :=
  blk_below (w := (w.alloc o).drewN n) (MapKept.heap_alloc w o).1 h
set_option maxRecDepth 100000 in
set_option maxHeartbeats 2000000 in
theorem iadd (a b : Int) (w : World) : Calls Try.prog 75 #[.int .i64 a, .int .i64 b] w fun e w' => e = .returned (VR (fitsR (wrap64 (a + b)))) ∧ Below w.heap.size w w' := by
  have F := Aside0.mk (fits_any (wrap64 (a + b)))
  generalize fitsR (wrap64 (a + b)) = r at *
  obtain ⟨r1, r2, r3⟩ := r
  go_enter Try.func75, Try.ntmps75
  go_wp2_with fail
  refine (F.out _).mono ?_
  rintro e w1 ⟨rfl, hb1⟩
  obtain ⟨c0, c1, c2, f0, f1, f2⟩ := cells3 (mid _ hb1)
  have G1 : Aside0 (Below w.heap.size w w1) := ⟨below_step (by (repeat (first | (with_reducible exact Below.refl _ _) | (with_reducible exact Aside0.out (by assumption)) | (with_reducible apply below_alloc) | (with_reducible apply pw_below_drewN) | (with_reducible apply Below.drew) | ((with_reducible refine Below.setCell ?_ ?_ _); rotate_left; (first | (simp; done) | (simp; omega) | exact Nat.le_refl _))))) hb1⟩
  clear hb1
  go_wp2_with fail
  refine bodyPost_ret (v := _) (by first | (simp [results, Try.results75, go_sem, *]; done) | (simp [results, Try.results75, go_sem, *]; rfl)) rfl ⟨rfl, ?_⟩
  (repeat (first | (with_reducible exact Below.refl _ _) | (with_reducible exact Aside0.out (by assumption)) | (with_reducible apply below_alloc) | (with_reducible apply pw_below_drewN) | (with_reducible apply Below.drew) | ((with_reducible refine Below.setCell ?_ ?_ _); rotate_left; (first | (simp; done) | (simp; omega) | exact Nat.le_refl _))))
set_option maxRecDepth 100000 in
set_option maxHeartbeats 2000000 in
theorem isub (a b : Int) (w : World) : Calls Try.prog 77 #[.int .i64 a, .int .i64 b] w fun e w' => e = .returned (VR (fitsR (wrap64 (a - b)))) ∧ Below w.heap.size w w' := by
  have F := Aside0.mk (fits_any (wrap64 (a - b)))
  generalize fitsR (wrap64 (a - b)) = r at *
  obtain ⟨r1, r2, r3⟩ := r
  go_enter Try.func77, Try.ntmps77
  go_wp2_with fail
  refine (F.out _).mono ?_
  rintro e w1 ⟨rfl, hb1⟩
  obtain ⟨c0, c1, c2, f0, f1, f2⟩ := cells3 (mid _ hb1)
  have G1 : Aside0 (Below w.heap.size w w1) := ⟨below_step (by (repeat (first | (with_reducible exact Below.refl _ _) | (with_reducible exact Aside0.out (by assumption)) | (with_reducible apply below_alloc) | (with_reducible apply pw_below_drewN) | (with_reducible apply Below.drew) | ((with_reducible refine Below.setCell ?_ ?_ _); rotate_left; (first | (simp; done) | (simp; omega) | exact Nat.le_refl _))))) hb1⟩
  clear hb1
  go_wp2_with fail
  refine bodyPost_ret (v := _) (by first | (simp [results, Try.results77, go_sem, *]; done) | (simp [results, Try.results77, go_sem, *]; rfl)) rfl ⟨rfl, ?_⟩
  (repeat (first | (with_reducible exact Below.refl _ _) | (with_reducible exact Aside0.out (by assumption)) | (with_reducible apply below_alloc) | (with_reducible apply pw_below_drewN) | (with_reducible apply Below.drew) | ((with_reducible refine Below.setCell ?_ ?_ _); rotate_left; (first | (simp; done) | (simp; omega) | exact Nat.le_refl _))))
set_option maxRecDepth 100000 in
set_option maxHeartbeats 2000000 in
theorem imul (a b : Int) (w : World) : Calls Try.prog 78 #[.int .i64 a, .int .i64 b] w fun e w' => e = .returned (VR (fitsR (wrap64 (a * b)))) ∧ Below w.heap.size w w' := by
  have F := Aside0.mk (fits_any (wrap64 (a * b)))
  generalize fitsR (wrap64 (a * b)) = r at *
  obtain ⟨r1, r2, r3⟩ := r
  go_enter Try.func78, Try.ntmps78
  go_wp2_with fail
  refine (F.out _).mono ?_
  rintro e w1 ⟨rfl, hb1⟩
  obtain ⟨c0, c1, c2, f0, f1, f2⟩ := cells3 (mid _ hb1)
  have G1 : Aside0 (Below w.heap.size w w1) := ⟨below_step (by (repeat (first | (with_reducible exact Below.refl _ _) | (with_reducible exact Aside0.out (by assumption)) | (with_reducible apply below_alloc) | (with_reducible apply pw_below_drewN) | (with_reducible apply Below.drew) | ((with_reducible refine Below.setCell ?_ ?_ _); rotate_left; (first | (simp; done) | (simp; omega) | exact Nat.le_refl _))))) hb1⟩
  clear hb1
  go_wp2_with fail
  refine bodyPost_ret (v := _) (by first | (simp [results, Try.results78, go_sem, *]; done) | (simp [results, Try.results78, go_sem, *]; rfl)) rfl ⟨rfl, ?_⟩
  (repeat (first | (with_reducible exact Below.refl _ _) | (with_reducible exact Aside0.out (by assumption)) | (with_reducible apply below_alloc) | (with_reducible apply pw_below_drewN) | (with_reducible apply Below.drew) | ((with_reducible refine Below.setCell ?_ ?_ _); rotate_left; (first | (simp; done) | (simp; omega) | exact Nat.le_refl _))))
/-- What a quotient and a rest are. -/
def divR (q : Bool) (a b : Int) : Int × Int × Int := if b ≤ 0 then (0, 0, 121) else (1, if q then a / b else a % b, 0)
set_option maxRecDepth 100000 in
set_option maxHeartbeats 4000000 in
theorem divides_any (q : Bool) (a b : Int) (w : World) (a0 : -2147483648 ≤ a) (a1 : a < 2147483648) (b1 : b < 2147483648) : Calls Try.prog 80 #[.int .i64 a, .int .i64 b, .bool q] w fun e w' => e = .returned (VR (divR q a b)) ∧ Below w.heap.size w w' := by
  unfold divR
  by_cases h : b ≤ 0
  · rw [if_pos h]
    have c1 : decide (b ≤ 0) = true := decide_eq_true h
    clear h
    go_enter Try.func80, Try.ntmps80
    go_wp2_with fail
    refine bodyPost_ret (v := _) (by first | (simp [results, Try.results80, go_sem, *]; done) | (simp [results, Try.results80, go_sem, *]; rfl)) rfl ⟨rfl, ?_⟩
    (repeat (first | (with_reducible exact Below.refl _ _) | (with_reducible exact Aside0.out (by assumption)) | (with_reducible apply below_alloc) | (with_reducible apply pw_below_drewN) | (with_reducible apply Below.drew) | ((with_reducible refine Below.setCell ?_ ?_ _); rotate_left; (first | (simp; done) | (simp; omega) | exact Nat.le_refl _))))
  · rw [if_neg h]
    have cb : decide (b ≤ 0) = false := decide_eq_false h
    have hb : b ≠ 0 := by omega
    have hz : (b == 0) = false := beq_eq_false_iff_ne.2 hb
    have hfl := floor_of a b (by omega)
    have htb := tdiv_bound a b 2147483648 (by omega) (by omega) (by omega)
    have hrb := tmod_bound a b (by omega)
    have e1 : wrap64 (a.tdiv b) = a.tdiv b := w64 (by omega) (by omega)
    have e2 : wrap64 (a.tmod b) = a.tmod b := w64 (by omega) (by omega)
    have e3 : wrap64 (a.tdiv b - 1) = a.tdiv b - 1 := w64 (by omega) (by omega)
    have e4 : wrap64 (a.tmod b + b) = a.tmod b + b := w64 (by omega) (by omega)
    by_cases hr : a.tmod b < 0
    · have c2 : decide (a.tmod b < 0) = true := decide_eq_true hr
      have q1 := (hfl.1 hr).1
      have q2 := (hfl.1 hr).2
      rw [q1, q2]
      clear hr hfl htb hrb q1 q2 a0 a1 b1 h
      cases q
      all_goals
        go_enter Try.func80, Try.ntmps80
        go_wp2_with fail
        go_quiet (fail)
        go_wp2_with fail
        refine (number_any _ _).mono ?_
        rintro e w1 ⟨rfl, hb1⟩
        obtain ⟨c0, c1, c2, f0, f1, f2⟩ := cells3 (midN _ _ hb1)
        have G1 : Aside0 (Below w.heap.size w w1) := ⟨below_step (by (repeat (first | (with_reducible exact Below.refl _ _) | (with_reducible exact Aside0.out (by assumption)) | (with_reducible apply below_alloc) | (with_reducible apply pw_below_drewN) | (with_reducible apply Below.drew) | ((with_reducible refine Below.setCell ?_ ?_ _); rotate_left; (first | (simp; done) | (simp; omega) | exact Nat.le_refl _))))) hb1⟩
        clear hb1
        go_wp2_with fail
        refine bodyPost_ret (v := _) (by first | (simp [results, Try.results80, go_sem, *]; done) | (simp [results, Try.results80, go_sem, *]; rfl)) rfl ⟨by first | rfl | (simp [*]; done), ?_⟩
        (repeat (first | (with_reducible exact Below.refl _ _) | (with_reducible exact Aside0.out (by assumption)) | (with_reducible apply below_alloc) | (with_reducible apply pw_below_drewN) | (with_reducible apply Below.drew) | ((with_reducible refine Below.setCell ?_ ?_ _); rotate_left; (first | (simp; done) | (simp; omega) | exact Nat.le_refl _))))
    · have c2 : decide (a.tmod b < 0) = false := decide_eq_false hr
      have q1 := (hfl.2 hr).1
      have q2 := (hfl.2 hr).2
      rw [q1, q2]
      clear hr hfl htb hrb q1 q2 a0 a1 b1 h
      cases q
      all_goals
        go_enter Try.func80, Try.ntmps80
        go_wp2_with fail
        go_quiet (fail)
        go_wp2_with fail
        refine (number_any _ _).mono ?_
        rintro e w1 ⟨rfl, hb1⟩
        obtain ⟨c0, c1, c2, f0, f1, f2⟩ := cells3 (midN _ _ hb1)
        have G1 : Aside0 (Below w.heap.size w w1) := ⟨below_step (by (repeat (first | (with_reducible exact Below.refl _ _) | (with_reducible exact Aside0.out (by assumption)) | (with_reducible apply below_alloc) | (with_reducible apply pw_below_drewN) | (with_reducible apply Below.drew) | ((with_reducible refine Below.setCell ?_ ?_ _); rotate_left; (first | (simp; done) | (simp; omega) | exact Nat.le_refl _))))) hb1⟩
        clear hb1
        go_wp2_with fail
        refine bodyPost_ret (v := _) (by first | (simp [results, Try.results80, go_sem, *]; done) | (simp [results, Try.results80, go_sem, *]; rfl)) rfl ⟨by first | rfl | (simp [*]; done), ?_⟩
        (repeat (first | (with_reducible exact Below.refl _ _) | (with_reducible exact Aside0.out (by assumption)) | (with_reducible apply below_alloc) | (with_reducible apply pw_below_drewN) | (with_reducible apply Below.drew) | ((with_reducible refine Below.setCell ?_ ?_ _); rotate_left; (first | (simp; done) | (simp; omega) | exact Nat.le_refl _))))
set_option maxRecDepth 100000 in
set_option maxHeartbeats 2000000 in
theorem idiv (a b : Int) (w : World) (a0 : -2147483648 ≤ a) (a1 : a < 2147483648) (b1 : b < 2147483648) : Calls Try.prog 79 #[.int .i64 a, .int .i64 b] w fun e w' => e = .returned (VR (divR true a b)) ∧ Below w.heap.size w w' := by
  have F := Aside0.mk (fun W => divides_any true a b W a0 a1 b1)
  clear a0 a1 b1
  generalize divR true a b = r at *
  obtain ⟨r1, r2, r3⟩ := r
  go_enter Try.func79, Try.ntmps79
  go_wp2_with fail
  refine (F.out _).mono ?_
  rintro e w1 ⟨rfl, hb1⟩
  obtain ⟨c0, c1, c2, f0, f1, f2⟩ := cells3 (mid _ hb1)
  have G1 : Aside0 (Below w.heap.size w w1) := ⟨below_step (by (repeat (first | (with_reducible exact Below.refl _ _) | (with_reducible exact Aside0.out (by assumption)) | (with_reducible apply below_alloc) | (with_reducible apply pw_below_drewN) | (with_reducible apply Below.drew) | ((with_reducible refine Below.setCell ?_ ?_ _); rotate_left; (first | (simp; done) | (simp; omega) | exact Nat.le_refl _))))) hb1⟩
  clear hb1
  go_wp2_with fail
  refine bodyPost_ret (v := _) (by first | (simp [results, Try.results79, go_sem, *]; done) | (simp [results, Try.results79, go_sem, *]; rfl)) rfl ⟨rfl, ?_⟩
  (repeat (first | (with_reducible exact Below.refl _ _) | (with_reducible exact Aside0.out (by assumption)) | (with_reducible apply below_alloc) | (with_reducible apply pw_below_drewN) | (with_reducible apply Below.drew) | ((with_reducible refine Below.setCell ?_ ?_ _); rotate_left; (first | (simp; done) | (simp; omega) | exact Nat.le_refl _))))
set_option maxRecDepth 100000 in
set_option maxHeartbeats 2000000 in
theorem imod (a b : Int) (w : World) (a0 : -2147483648 ≤ a) (a1 : a < 2147483648) (b1 : b < 2147483648) : Calls Try.prog 81 #[.int .i64 a, .int .i64 b] w fun e w' => e = .returned (VR (divR false a b)) ∧ Below w.heap.size w w' := by
  have F := Aside0.mk (fun W => divides_any false a b W a0 a1 b1)
  clear a0 a1 b1
  generalize divR false a b = r at *
  obtain ⟨r1, r2, r3⟩ := r
  go_enter Try.func81, Try.ntmps81
  go_wp2_with fail
  refine (F.out _).mono ?_
  rintro e w1 ⟨rfl, hb1⟩
  obtain ⟨c0, c1, c2, f0, f1, f2⟩ := cells3 (mid _ hb1)
  have G1 : Aside0 (Below w.heap.size w w1) := ⟨below_step (by (repeat (first | (with_reducible exact Below.refl _ _) | (with_reducible exact Aside0.out (by assumption)) | (with_reducible apply below_alloc) | (with_reducible apply pw_below_drewN) | (with_reducible apply Below.drew) | ((with_reducible refine Below.setCell ?_ ?_ _); rotate_left; (first | (simp; done) | (simp; omega) | exact Nat.le_refl _))))) hb1⟩
  clear hb1
  go_wp2_with fail
  refine bodyPost_ret (v := _) (by first | (simp [results, Try.results81, go_sem, *]; done) | (simp [results, Try.results81, go_sem, *]; rfl)) rfl ⟨rfl, ?_⟩
  (repeat (first | (with_reducible exact Below.refl _ _) | (with_reducible exact Aside0.out (by assumption)) | (with_reducible apply below_alloc) | (with_reducible apply pw_below_drewN) | (with_reducible apply Below.drew) | ((with_reducible refine Below.setCell ?_ ?_ _); rotate_left; (first | (simp; done) | (simp; omega) | exact Nat.le_refl _))))
set_option maxRecDepth 100000 in
theorem sor (a b : Int) (w : World) : Calls Try.prog 85 #[.int .u32 a, .int .u32 b] w fun e w' => e = .returned (.int .u32 (Go.bits .or .u32 a b)) ∧ w = w' := by
  go_enter Try.func85, Try.ntmps85
  go_wp2_with fail
  go_ret
  exact ⟨rfl, rfl⟩
set_option maxRecDepth 100000 in
theorem sless (a b : Int) (w : World) : Calls Try.prog 86 #[.int .u32 a, .int .u32 b] w fun e w' => e = .returned (.int .u32 (Go.bits .andNot .u32 a b)) ∧ w = w' := by
  go_enter Try.func86, Try.ntmps86
  go_wp2_with fail
  go_ret
  exact ⟨rfl, rfl⟩
set_option maxRecDepth 100000 in
theorem sand (a b : Int) (w : World) : Calls Try.prog 87 #[.int .u32 a, .int .u32 b] w fun e w' => e = .returned (.int .u32 (Go.bits .and .u32 a b)) ∧ w = w' := by
  go_enter Try.func87, Try.ntmps87
  go_wp2_with fail
  go_ret
  exact ⟨rfl, rfl⟩
set_option maxRecDepth 100000 in
theorem sxor (a b : Int) (w : World) : Calls Try.prog 88 #[.int .u32 a, .int .u32 b] w fun e w' => e = .returned (.int .u32 (Go.bits .xor .u32 a b)) ∧ w = w' := by
  go_enter Try.func88, Try.ntmps88
  go_wp2_with fail
  go_ret
  exact ⟨rfl, rfl⟩
set_option maxRecDepth 100000 in
theorem req (n : Int) (w : World) : Calls Try.prog 90 #[.int .i64 n] w fun e w' => e = .returned (.bool (n == 0)) ∧ w = w' := by
  go_enter Try.func90, Try.ntmps90
  go_wp2_with fail
  go_ret
  exact ⟨by first | rfl | simp [*], rfl⟩
set_option maxRecDepth 100000 in
theorem rne (n : Int) (w : World) : Calls Try.prog 91 #[.int .i64 n] w fun e w' => e = .returned (.bool (n != 0)) ∧ w = w' := by
  go_enter Try.func91, Try.ntmps91
  go_wp2_with fail
  go_ret
  exact ⟨by first | rfl | simp [*], rfl⟩
set_option maxRecDepth 100000 in
theorem rlt (n : Int) (w : World) : Calls Try.prog 92 #[.int .i64 n] w fun e w' => e = .returned (.bool (decide (n < 0))) ∧ w = w' := by
  go_enter Try.func92, Try.ntmps92
  go_wp2_with fail
  go_ret
  exact ⟨by first | rfl | simp [*], rfl⟩
set_option maxRecDepth 100000 in
theorem rle (n : Int) (w : World) : Calls Try.prog 93 #[.int .i64 n] w fun e w' => e = .returned (.bool (decide (n ≤ 0))) ∧ w = w' := by
  go_enter Try.func93, Try.ntmps93
  go_wp2_with fail
  go_ret
  exact ⟨by first | rfl | simp [*], rfl⟩
set_option maxRecDepth 100000 in
theorem rgt (n : Int) (w : World) : Calls Try.prog 94 #[.int .i64 n] w fun e w' => e = .returned (.bool (decide (0 < n))) ∧ w = w' := by
  go_enter Try.func94, Try.ntmps94
  go_wp2_with fail
  go_ret
  exact ⟨by first | rfl | simp [*], rfl⟩
set_option maxRecDepth 100000 in
theorem rge (n : Int) (w : World) : Calls Try.prog 95 #[.int .i64 n] w fun e w' => e = .returned (.bool (decide (0 ≤ n))) ∧ w = w' := by
  go_enter Try.func95, Try.ntmps95
  go_wp2_with fail
  go_ret
  exact ⟨by first | rfl | simp [*], rfl⟩
set_option maxRecDepth 100000 in
theorem band (a b : Int) (w : World) : Calls Try.prog 58 #[.int .i64 a, .int .i64 b] w fun e w' => e = .returned (.int .i64 (Go.bits .and .i64 a b)) ∧ w = w' := by
  go_enter Try.func58, Try.ntmps58
  go_wp2_with fail
  go_ret
  exact ⟨rfl, rfl⟩
set_option maxRecDepth 100000 in
theorem bor (a b : Int) (w : World) : Calls Try.prog 59 #[.int .i64 a, .int .i64 b] w fun e w' => e = .returned (.int .i64 (Go.bits .or .i64 a b)) ∧ w = w' := by
  go_enter Try.func59, Try.ntmps59
  go_wp2_with fail
  go_ret
  exact ⟨rfl, rfl⟩
end Go.Proofs.Ytkkgocbecnefnaa.Small
