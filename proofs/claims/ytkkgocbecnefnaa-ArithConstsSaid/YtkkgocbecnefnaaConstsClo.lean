/- The closures of consts.Two, walked: each over a function in a box. -/
import Derived.Test.YtkkgocbecnefnaaConstsSmall
import Derived.Test.YtkkgocbecnefnaaShelf
import Derived.Deep.RegionHeld3
namespace Go.Proofs.Ytkkgocbecnefnaa.Clo
open Go.RowKit Go.Maps Go.Proofs.Ytkkgocbecnefnaa.Tab Go.Proofs.Ytkkgocbecnefnaa.Plain Go.Proofs.Ytkkgocbecnefnaa.Small Go.Proofs.YtkkgocbecnefnaaW.PrintWords Go.Proofs.YtkkgocbecnefnaaW.PrintLast Go.Proofs.YtkkgocbecnefnaaW.PrintMore
set_option linter.unusedVariables false
set_option linter.unusedSimpArgs false

theorem cell3 {w : World} {a : Addr} {v : Value} (h : w.cell? a = some v) (x y z : Obj) : (((w.alloc x).alloc y).alloc z).cell? a = some v :=
  pw_cell_below (Below.trans ((Below.refl _ _).alloc (Nat.le_refl _) _) (((Below.refl _ _).alloc (by simp) _ |>.trans ((Below.refl _ _).alloc (by simp; omega) _)))) h
theorem mid3 {w w1 : World} {x y z : Obj} (h : Below (((w.alloc x).alloc y).alloc z).heap.size (((w.alloc x).alloc y).alloc z) w1) : w1.heap[w.heap.size + 1 + 1]? = some z := by
  have := mid z h
  rwa [show ((w.alloc x).alloc y).heap.size = w.heap.size + 1 + 1 by simp] at this
theorem below3 {w w1 : World} {x y z : Obj} (h : Below (((w.alloc x).alloc y).alloc z).heap.size (((w.alloc x).alloc y).alloc z) w1) : Below w.heap.size w w1 :=
  below_step (by (repeat (first | (with_reducible exact Below.refl _ _) | (with_reducible exact Aside0.out (by assumption)) | (with_reducible apply below_alloc) | (with_reducible apply pw_below_drewN) | (with_reducible apply Below.drew) | ((with_reducible refine Below.setCell ?_ ?_ _); rotate_left; (first | (simp; done) | (simp; omega) | exact Nat.le_refl _))))) h
theorem mid3D {w w1 : World} {x y z : Obj} (h : Below ((((w.alloc x).alloc y).alloc z).drew).heap.size ((((w.alloc x).alloc y).alloc z).drew) w1) : w1.heap[w.heap.size + 1 + 1]? = some z := by
  have : w1.heap[((w.alloc x).alloc y).heap.size]? = some z := blk_below (w := (((w.alloc x).alloc y).alloc z).drew) (MapKept.heap_alloc ((w.alloc x).alloc y) z).1 h
  rwa [show ((w.alloc x).alloc y).heap.size = w.heap.size + 1 + 1 by simp] at this
theorem below3D {w w1 : World} {x y z : Obj} (h : Below ((((w.alloc x).alloc y).alloc z).drew).heap.size ((((w.alloc x).alloc y).alloc z).drew) w1) : Below w.heap.size w w1 :=
  below_step (by (repeat (first | (with_reducible exact Below.refl _ _) | (with_reducible exact Aside0.out (by assumption)) | (with_reducible apply below_alloc) | (with_reducible apply pw_below_drewN) | (with_reducible apply Below.drew) | ((with_reducible refine Below.setCell ?_ ?_ _); rotate_left; (first | (simp; done) | (simp; omega) | exact Nat.le_refl _))))) h
theorem mid3N {w w1 : World} {x y z : Obj} {n : Nat} (h : Below ((((w.alloc x).alloc y).alloc z).drewN n).heap.size ((((w.alloc x).alloc y).alloc z).drewN n) w1) : w1.heap[w.heap.size + 1 + 1]? = some z := by
  have := midN z n h
  rwa [show ((w.alloc x).alloc y).heap.size = w.heap.size + 1 + 1 by simp] at this
theorem below3N {w w1 : World} {x y z : Obj} {n : Nat} (h : Below ((((w.alloc x).alloc y).alloc z).drewN n).heap.size ((((w.alloc x).alloc y).alloc z).drewN n) w1) : Below w.heap.size w w1 :=
  below_step (by (repeat (first | (with_reducible exact Below.refl _ _) | (with_reducible exact Aside0.out (by assumption)) | (with_reducible apply below_alloc) | (with_reducible apply pw_below_drewN) | (with_reducible apply Below.drew) | ((with_reducible refine Below.setCell ?_ ?_ _); rotate_left; (first | (simp; done) | (simp; omega) | exact Nat.le_refl _))))) h

set_option maxRecDepth 100000 in
set_option maxHeartbeats 4000000 in
/-- A closure over an operation of numbers. -/
theorem clo_int_add (fa na fb nb : Int) (ta tb : ByteArray) (b : Nat) (w : World) (hc : w.cell? ⟨b, 0, none⟩ = some (.func (.func 75) #[] #[])) (r : Int × Int × Int)
    (F : ∀ W, Calls Try.prog 75 #[.int .i64 na, .int .i64 nb] W fun e w' => e = .returned (VR r) ∧ Below W.heap.size W w') :
    Calls Try.prog 74 #[V fa na ta, V fb nb tb, .pointer (some ⟨b, 0, none⟩)] w fun e w' => e = .returned (VR r) ∧ Below w.heap.size w w' := by
  have F := Aside0.mk F
  obtain ⟨r1, r2, r3⟩ := r
  have hc3 := cell3 hc
  clear hc
  go_enter Try.func74, Try.ntmps74
  go_wp2_with fail
  refine (F.out _).mono ?_
  rintro e w1 ⟨rfl, hb1⟩
  obtain ⟨c0, c1, c2, f0, f1, f2⟩ := cells3 (mid3 hb1)
  have G1 := Aside0.mk (below3 hb1)
  clear hb1
  go_wp2_with fail
  refine bodyPost_ret (v := _) (by first | (simp [results, Try.results74, go_sem, *]; done) | (simp [results, Try.results74, go_sem, *]; rfl)) rfl ⟨rfl, ?_⟩
  (repeat (first | (with_reducible exact Below.refl _ _) | (with_reducible exact Aside0.out (by assumption)) | (with_reducible apply below_alloc) | (with_reducible apply pw_below_drewN) | (with_reducible apply Below.drew) | ((with_reducible refine Below.setCell ?_ ?_ _); rotate_left; (first | (simp; done) | (simp; omega) | exact Nat.le_refl _))))

set_option maxRecDepth 100000 in
set_option maxHeartbeats 4000000 in
/-- A closure over an operation of numbers. -/
theorem clo_int_sub (fa na fb nb : Int) (ta tb : ByteArray) (b : Nat) (w : World) (hc : w.cell? ⟨b, 0, none⟩ = some (.func (.func 77) #[] #[])) (r : Int × Int × Int)
    (F : ∀ W, Calls Try.prog 77 #[.int .i64 na, .int .i64 nb] W fun e w' => e = .returned (VR r) ∧ Below W.heap.size W w') :
    Calls Try.prog 74 #[V fa na ta, V fb nb tb, .pointer (some ⟨b, 0, none⟩)] w fun e w' => e = .returned (VR r) ∧ Below w.heap.size w w' := by
  have F := Aside0.mk F
  obtain ⟨r1, r2, r3⟩ := r
  have hc3 := cell3 hc
  clear hc
  go_enter Try.func74, Try.ntmps74
  go_wp2_with fail
  refine (F.out _).mono ?_
  rintro e w1 ⟨rfl, hb1⟩
  obtain ⟨c0, c1, c2, f0, f1, f2⟩ := cells3 (mid3 hb1)
  have G1 := Aside0.mk (below3 hb1)
  clear hb1
  go_wp2_with fail
  refine bodyPost_ret (v := _) (by first | (simp [results, Try.results74, go_sem, *]; done) | (simp [results, Try.results74, go_sem, *]; rfl)) rfl ⟨rfl, ?_⟩
  (repeat (first | (with_reducible exact Below.refl _ _) | (with_reducible exact Aside0.out (by assumption)) | (with_reducible apply below_alloc) | (with_reducible apply pw_below_drewN) | (with_reducible apply Below.drew) | ((with_reducible refine Below.setCell ?_ ?_ _); rotate_left; (first | (simp; done) | (simp; omega) | exact Nat.le_refl _))))

set_option maxRecDepth 100000 in
set_option maxHeartbeats 4000000 in
/-- A closure over an operation of numbers. -/
theorem clo_int_mul (fa na fb nb : Int) (ta tb : ByteArray) (b : Nat) (w : World) (hc : w.cell? ⟨b, 0, none⟩ = some (.func (.func 78) #[] #[])) (r : Int × Int × Int)
    (F : ∀ W, Calls Try.prog 78 #[.int .i64 na, .int .i64 nb] W fun e w' => e = .returned (VR r) ∧ Below W.heap.size W w') :
    Calls Try.prog 74 #[V fa na ta, V fb nb tb, .pointer (some ⟨b, 0, none⟩)] w fun e w' => e = .returned (VR r) ∧ Below w.heap.size w w' := by
  have F := Aside0.mk F
  obtain ⟨r1, r2, r3⟩ := r
  have hc3 := cell3 hc
  clear hc
  go_enter Try.func74, Try.ntmps74
  go_wp2_with fail
  refine (F.out _).mono ?_
  rintro e w1 ⟨rfl, hb1⟩
  obtain ⟨c0, c1, c2, f0, f1, f2⟩ := cells3 (mid3 hb1)
  have G1 := Aside0.mk (below3 hb1)
  clear hb1
  go_wp2_with fail
  refine bodyPost_ret (v := _) (by first | (simp [results, Try.results74, go_sem, *]; done) | (simp [results, Try.results74, go_sem, *]; rfl)) rfl ⟨rfl, ?_⟩
  (repeat (first | (with_reducible exact Below.refl _ _) | (with_reducible exact Aside0.out (by assumption)) | (with_reducible apply below_alloc) | (with_reducible apply pw_below_drewN) | (with_reducible apply Below.drew) | ((with_reducible refine Below.setCell ?_ ?_ _); rotate_left; (first | (simp; done) | (simp; omega) | exact Nat.le_refl _))))

set_option maxRecDepth 100000 in
set_option maxHeartbeats 4000000 in
/-- A closure over an operation of numbers. -/
theorem clo_int_div (fa na fb nb : Int) (ta tb : ByteArray) (b : Nat) (w : World) (hc : w.cell? ⟨b, 0, none⟩ = some (.func (.func 79) #[] #[])) (r : Int × Int × Int)
    (F : ∀ W, Calls Try.prog 79 #[.int .i64 na, .int .i64 nb] W fun e w' => e = .returned (VR r) ∧ Below W.heap.size W w') :
    Calls Try.prog 74 #[V fa na ta, V fb nb tb, .pointer (some ⟨b, 0, none⟩)] w fun e w' => e = .returned (VR r) ∧ Below w.heap.size w w' := by
  have F := Aside0.mk F
  obtain ⟨r1, r2, r3⟩ := r
  have hc3 := cell3 hc
  clear hc
  go_enter Try.func74, Try.ntmps74
  go_wp2_with fail
  refine (F.out _).mono ?_
  rintro e w1 ⟨rfl, hb1⟩
  obtain ⟨c0, c1, c2, f0, f1, f2⟩ := cells3 (mid3 hb1)
  have G1 := Aside0.mk (below3 hb1)
  clear hb1
  go_wp2_with fail
  refine bodyPost_ret (v := _) (by first | (simp [results, Try.results74, go_sem, *]; done) | (simp [results, Try.results74, go_sem, *]; rfl)) rfl ⟨rfl, ?_⟩
  (repeat (first | (with_reducible exact Below.refl _ _) | (with_reducible exact Aside0.out (by assumption)) | (with_reducible apply below_alloc) | (with_reducible apply pw_below_drewN) | (with_reducible apply Below.drew) | ((with_reducible refine Below.setCell ?_ ?_ _); rotate_left; (first | (simp; done) | (simp; omega) | exact Nat.le_refl _))))

set_option maxRecDepth 100000 in
set_option maxHeartbeats 4000000 in
/-- A closure over an operation of numbers. -/
theorem clo_int_mod (fa na fb nb : Int) (ta tb : ByteArray) (b : Nat) (w : World) (hc : w.cell? ⟨b, 0, none⟩ = some (.func (.func 81) #[] #[])) (r : Int × Int × Int)
    (F : ∀ W, Calls Try.prog 81 #[.int .i64 na, .int .i64 nb] W fun e w' => e = .returned (VR r) ∧ Below W.heap.size W w') :
    Calls Try.prog 74 #[V fa na ta, V fb nb tb, .pointer (some ⟨b, 0, none⟩)] w fun e w' => e = .returned (VR r) ∧ Below w.heap.size w w' := by
  have F := Aside0.mk F
  obtain ⟨r1, r2, r3⟩ := r
  have hc3 := cell3 hc
  clear hc
  go_enter Try.func74, Try.ntmps74
  go_wp2_with fail
  refine (F.out _).mono ?_
  rintro e w1 ⟨rfl, hb1⟩
  obtain ⟨c0, c1, c2, f0, f1, f2⟩ := cells3 (mid3 hb1)
  have G1 := Aside0.mk (below3 hb1)
  clear hb1
  go_wp2_with fail
  refine bodyPost_ret (v := _) (by first | (simp [results, Try.results74, go_sem, *]; done) | (simp [results, Try.results74, go_sem, *]; rfl)) rfl ⟨rfl, ?_⟩
  (repeat (first | (with_reducible exact Below.refl _ _) | (with_reducible exact Aside0.out (by assumption)) | (with_reducible apply below_alloc) | (with_reducible apply pw_below_drewN) | (with_reducible apply Below.drew) | ((with_reducible refine Below.setCell ?_ ?_ _); rotate_left; (first | (simp; done) | (simp; omega) | exact Nat.le_refl _))))

set_option maxRecDepth 100000 in
set_option maxHeartbeats 4000000 in
/-- A closure over an operation of sets. -/
theorem clo_set_or (fa na fb nb : Int) (ta tb : ByteArray) (b : Nat) (w : World) (hc : w.cell? ⟨b, 0, none⟩ = some (.func (.func 85) #[] #[])) (r : Int) (r0 : 0 ≤ r) (r1 : r < 4294967296)
    (F : ∀ W, Calls Try.prog 85 #[.int .u32 (na % 4294967296), .int .u32 (nb % 4294967296)] W fun e w' => e = .returned (.int .u32 r) ∧ W = w') :
    Calls Try.prog 83 #[V fa na ta, V fb nb tb, .pointer (some ⟨b, 0, none⟩)] w fun e w' => e = .returned (VE 4 r E0 0) ∧ Below w.heap.size w w' := by
  have F := Aside0.mk F
  have S := Aside0.mk (fun W => set_any r W r0 r1)
  have hc3 := cell3 hc
  clear hc r0 r1
  go_enter Try.func83, Try.ntmps83
  go_wp2_with fail
  refine (F.out _).mono ?_
  rintro e w1 ⟨rfl, rfl⟩
  go_wp2_with fail
  refine (S.out _).mono ?_
  rintro e w1 ⟨rfl, hb1⟩
  obtain ⟨c0, c1, c2, f0, f1, f2⟩ := cells3 (mid3 hb1)
  have G1 := Aside0.mk (below3 hb1)
  clear hb1
  go_wp2_with fail
  refine bodyPost_ret (v := _) (by first | (simp [results, Try.results83, go_sem, *]; done) | (simp [results, Try.results83, go_sem, *]; rfl)) rfl ⟨rfl, ?_⟩
  (repeat (first | (with_reducible exact Below.refl _ _) | (with_reducible exact Aside0.out (by assumption)) | (with_reducible apply below_alloc) | (with_reducible apply pw_below_drewN) | (with_reducible apply Below.drew) | ((with_reducible refine Below.setCell ?_ ?_ _); rotate_left; (first | (simp; done) | (simp; omega) | exact Nat.le_refl _))))

set_option maxRecDepth 100000 in
set_option maxHeartbeats 4000000 in
/-- A closure over an operation of sets. -/
theorem clo_set_less (fa na fb nb : Int) (ta tb : ByteArray) (b : Nat) (w : World) (hc : w.cell? ⟨b, 0, none⟩ = some (.func (.func 86) #[] #[])) (r : Int) (r0 : 0 ≤ r) (r1 : r < 4294967296)
    (F : ∀ W, Calls Try.prog 86 #[.int .u32 (na % 4294967296), .int .u32 (nb % 4294967296)] W fun e w' => e = .returned (.int .u32 r) ∧ W = w') :
    Calls Try.prog 83 #[V fa na ta, V fb nb tb, .pointer (some ⟨b, 0, none⟩)] w fun e w' => e = .returned (VE 4 r E0 0) ∧ Below w.heap.size w w' := by
  have F := Aside0.mk F
  have S := Aside0.mk (fun W => set_any r W r0 r1)
  have hc3 := cell3 hc
  clear hc r0 r1
  go_enter Try.func83, Try.ntmps83
  go_wp2_with fail
  refine (F.out _).mono ?_
  rintro e w1 ⟨rfl, rfl⟩
  go_wp2_with fail
  refine (S.out _).mono ?_
  rintro e w1 ⟨rfl, hb1⟩
  obtain ⟨c0, c1, c2, f0, f1, f2⟩ := cells3 (mid3 hb1)
  have G1 := Aside0.mk (below3 hb1)
  clear hb1
  go_wp2_with fail
  refine bodyPost_ret (v := _) (by first | (simp [results, Try.results83, go_sem, *]; done) | (simp [results, Try.results83, go_sem, *]; rfl)) rfl ⟨rfl, ?_⟩
  (repeat (first | (with_reducible exact Below.refl _ _) | (with_reducible exact Aside0.out (by assumption)) | (with_reducible apply below_alloc) | (with_reducible apply pw_below_drewN) | (with_reducible apply Below.drew) | ((with_reducible refine Below.setCell ?_ ?_ _); rotate_left; (first | (simp; done) | (simp; omega) | exact Nat.le_refl _))))

set_option maxRecDepth 100000 in
set_option maxHeartbeats 4000000 in
/-- A closure over an operation of sets. -/
theorem clo_set_and (fa na fb nb : Int) (ta tb : ByteArray) (b : Nat) (w : World) (hc : w.cell? ⟨b, 0, none⟩ = some (.func (.func 87) #[] #[])) (r : Int) (r0 : 0 ≤ r) (r1 : r < 4294967296)
    (F : ∀ W, Calls Try.prog 87 #[.int .u32 (na % 4294967296), .int .u32 (nb % 4294967296)] W fun e w' => e = .returned (.int .u32 r) ∧ W = w') :
    Calls Try.prog 83 #[V fa na ta, V fb nb tb, .pointer (some ⟨b, 0, none⟩)] w fun e w' => e = .returned (VE 4 r E0 0) ∧ Below w.heap.size w w' := by
  have F := Aside0.mk F
  have S := Aside0.mk (fun W => set_any r W r0 r1)
  have hc3 := cell3 hc
  clear hc r0 r1
  go_enter Try.func83, Try.ntmps83
  go_wp2_with fail
  refine (F.out _).mono ?_
  rintro e w1 ⟨rfl, rfl⟩
  go_wp2_with fail
  refine (S.out _).mono ?_
  rintro e w1 ⟨rfl, hb1⟩
  obtain ⟨c0, c1, c2, f0, f1, f2⟩ := cells3 (mid3 hb1)
  have G1 := Aside0.mk (below3 hb1)
  clear hb1
  go_wp2_with fail
  refine bodyPost_ret (v := _) (by first | (simp [results, Try.results83, go_sem, *]; done) | (simp [results, Try.results83, go_sem, *]; rfl)) rfl ⟨rfl, ?_⟩
  (repeat (first | (with_reducible exact Below.refl _ _) | (with_reducible exact Aside0.out (by assumption)) | (with_reducible apply below_alloc) | (with_reducible apply pw_below_drewN) | (with_reducible apply Below.drew) | ((with_reducible refine Below.setCell ?_ ?_ _); rotate_left; (first | (simp; done) | (simp; omega) | exact Nat.le_refl _))))

set_option maxRecDepth 100000 in
set_option maxHeartbeats 4000000 in
/-- A closure over an operation of sets. -/
theorem clo_set_xor (fa na fb nb : Int) (ta tb : ByteArray) (b : Nat) (w : World) (hc : w.cell? ⟨b, 0, none⟩ = some (.func (.func 88) #[] #[])) (r : Int) (r0 : 0 ≤ r) (r1 : r < 4294967296)
    (F : ∀ W, Calls Try.prog 88 #[.int .u32 (na % 4294967296), .int .u32 (nb % 4294967296)] W fun e w' => e = .returned (.int .u32 r) ∧ W = w') :
    Calls Try.prog 83 #[V fa na ta, V fb nb tb, .pointer (some ⟨b, 0, none⟩)] w fun e w' => e = .returned (VE 4 r E0 0) ∧ Below w.heap.size w w' := by
  have F := Aside0.mk F
  have S := Aside0.mk (fun W => set_any r W r0 r1)
  have hc3 := cell3 hc
  clear hc r0 r1
  go_enter Try.func83, Try.ntmps83
  go_wp2_with fail
  refine (F.out _).mono ?_
  rintro e w1 ⟨rfl, rfl⟩
  go_wp2_with fail
  refine (S.out _).mono ?_
  rintro e w1 ⟨rfl, hb1⟩
  obtain ⟨c0, c1, c2, f0, f1, f2⟩ := cells3 (mid3 hb1)
  have G1 := Aside0.mk (below3 hb1)
  clear hb1
  go_wp2_with fail
  refine bodyPost_ret (v := _) (by first | (simp [results, Try.results83, go_sem, *]; done) | (simp [results, Try.results83, go_sem, *]; rfl)) rfl ⟨rfl, ?_⟩
  (repeat (first | (with_reducible exact Below.refl _ _) | (with_reducible exact Aside0.out (by assumption)) | (with_reducible apply below_alloc) | (with_reducible apply pw_below_drewN) | (with_reducible apply Below.drew) | ((with_reducible refine Below.setCell ?_ ?_ _); rotate_left; (first | (simp; done) | (simp; omega) | exact Nat.le_refl _))))

set_option maxRecDepth 100000 in
set_option maxHeartbeats 4000000 in
/-- A closure over an operation of truths. -/
theorem clo_bool_and (fa na fb nb : Int) (ta tb : ByteArray) (b : Nat) (w : World) (hc : w.cell? ⟨b, 0, none⟩ = some (.func (.func 58) #[] #[])) (r : Int)
    (F : ∀ W, Calls Try.prog 58 #[.int .i64 na, .int .i64 nb] W fun e w' => e = .returned (.int .i64 r) ∧ W = w') :
    Calls Try.prog 60 #[V fa na ta, V fb nb tb, .pointer (some ⟨b, 0, none⟩)] w fun e w' => e = .returned (VE 2 (tr (r == 1)) E0 0) ∧ Below w.heap.size w w' := by
  have F := Aside0.mk F
  have S := Aside0.mk (truth_any (r == 1))
  generalize tr (r == 1) = q at *
  have hc3 := cell3 hc
  clear hc
  go_enter Try.func60, Try.ntmps60
  go_wp2_with fail
  refine (F.out _).mono ?_
  rintro e w1 ⟨rfl, rfl⟩
  go_wp2_with fail
  refine (S.out _).mono ?_
  rintro e w1 ⟨rfl, hb1⟩
  obtain ⟨c0, c1, c2, f0, f1, f2⟩ := cells3 (mid3 hb1)
  have G1 := Aside0.mk (below3 hb1)
  clear hb1
  go_wp2_with fail
  refine bodyPost_ret (v := _) (by first | (simp [results, Try.results60, go_sem, *]; done) | (simp [results, Try.results60, go_sem, *]; rfl)) rfl ⟨rfl, ?_⟩
  (repeat (first | (with_reducible exact Below.refl _ _) | (with_reducible exact Aside0.out (by assumption)) | (with_reducible apply below_alloc) | (with_reducible apply pw_below_drewN) | (with_reducible apply Below.drew) | ((with_reducible refine Below.setCell ?_ ?_ _); rotate_left; (first | (simp; done) | (simp; omega) | exact Nat.le_refl _))))

set_option maxRecDepth 100000 in
set_option maxHeartbeats 4000000 in
/-- A closure over an operation of truths. -/
theorem clo_bool_or (fa na fb nb : Int) (ta tb : ByteArray) (b : Nat) (w : World) (hc : w.cell? ⟨b, 0, none⟩ = some (.func (.func 59) #[] #[])) (r : Int)
    (F : ∀ W, Calls Try.prog 59 #[.int .i64 na, .int .i64 nb] W fun e w' => e = .returned (.int .i64 r) ∧ W = w') :
    Calls Try.prog 60 #[V fa na ta, V fb nb tb, .pointer (some ⟨b, 0, none⟩)] w fun e w' => e = .returned (VE 2 (tr (r == 1)) E0 0) ∧ Below w.heap.size w w' := by
  have F := Aside0.mk F
  have S := Aside0.mk (truth_any (r == 1))
  generalize tr (r == 1) = q at *
  have hc3 := cell3 hc
  clear hc
  go_enter Try.func60, Try.ntmps60
  go_wp2_with fail
  refine (F.out _).mono ?_
  rintro e w1 ⟨rfl, rfl⟩
  go_wp2_with fail
  refine (S.out _).mono ?_
  rintro e w1 ⟨rfl, hb1⟩
  obtain ⟨c0, c1, c2, f0, f1, f2⟩ := cells3 (mid3 hb1)
  have G1 := Aside0.mk (below3 hb1)
  clear hb1
  go_wp2_with fail
  refine bodyPost_ret (v := _) (by first | (simp [results, Try.results60, go_sem, *]; done) | (simp [results, Try.results60, go_sem, *]; rfl)) rfl ⟨rfl, ?_⟩
  (repeat (first | (with_reducible exact Below.refl _ _) | (with_reducible exact Aside0.out (by assumption)) | (with_reducible apply below_alloc) | (with_reducible apply pw_below_drewN) | (with_reducible apply Below.drew) | ((with_reducible refine Below.setCell ?_ ?_ _); rotate_left; (first | (simp; done) | (simp; omega) | exact Nat.le_refl _))))

/-- What IN tells. -/
def inR (n s : Int) : Int × Int × Int := if n < 0 ∨ n > 31 then (0, 0, 91) else (2, tr (Go.bits .and .u32 (s % 4294967296 / 2 ^ n.toNat) 1 == 1), 0)
set_option maxRecDepth 100000 in
set_option maxHeartbeats 4000000 in
theorem clo_in (fa na fb nb : Int) (ta tb : ByteArray) (w : World) :
    Calls Try.prog 89 #[V fa na ta, V fb nb tb] w fun e w' => e = .returned (VR (inR na nb)) ∧ Below w.heap.size w w' := by
  unfold inR
  by_cases h1 : na < 0
  · rw [if_pos (Or.inl h1)]
    have d1 : decide (na < 0) = true := decide_eq_true h1
    clear h1
    go_enter Try.func89, Try.ntmps89
    go_wp2_with fail
    refine bodyPost_ret (v := _) (by first | (simp [results, Try.results89, go_sem, *]; done) | (simp [results, Try.results89, go_sem, *]; rfl)) rfl ⟨rfl, ?_⟩
    (repeat (first | (with_reducible exact Below.refl _ _) | (with_reducible exact Aside0.out (by assumption)) | (with_reducible apply below_alloc) | (with_reducible apply pw_below_drewN) | (with_reducible apply Below.drew) | ((with_reducible refine Below.setCell ?_ ?_ _); rotate_left; (first | (simp; done) | (simp; omega) | exact Nat.le_refl _))))

  · have d1 : decide (na < 0) = false := decide_eq_false h1
    by_cases h2 : na > 31
    · rw [if_pos (Or.inr h2)]
      have d2 : decide (31 < na) = true := decide_eq_true h2
      clear h1 h2
      go_enter Try.func89, Try.ntmps89
      go_wp2_with fail
      refine bodyPost_ret (v := _) (by first | (simp [results, Try.results89, go_sem, *]; done) | (simp [results, Try.results89, go_sem, *]; rfl)) rfl ⟨rfl, ?_⟩
      (repeat (first | (with_reducible exact Below.refl _ _) | (with_reducible exact Aside0.out (by assumption)) | (with_reducible apply below_alloc) | (with_reducible apply pw_below_drewN) | (with_reducible apply Below.drew) | ((with_reducible refine Below.setCell ?_ ?_ _); rotate_left; (first | (simp; done) | (simp; omega) | exact Nat.le_refl _))))

    · rw [if_neg (by omega)]
      have d2 : decide (31 < na) = false := decide_eq_false h2
      have n0 : decide (0 ≤ na) = true := decide_eq_true (by omega)
      have n1 : 0 ≤ na := by omega
      have e1 : min na.toNat 32 = na.toNat := by omega
      have S := Aside0.mk (truth_any (Go.bits .and .u32 (nb % 4294967296 / 2 ^ na.toNat) 1 == 1))
      generalize tr (Go.bits .and .u32 (nb % 4294967296 / 2 ^ na.toNat) 1 == 1) = q at *
      clear h1 h2
      go_enter Try.func89, Try.ntmps89
      go_wp2_with fail
      refine (S.out _).mono ?_
      rintro e w1 ⟨rfl, hb1⟩
      obtain ⟨c0, c1, c2, f0, f1, f2⟩ := cells3 (mid3 hb1)
      have G1 := Aside0.mk (below3 hb1)
      clear hb1
      go_wp2_with fail
      refine bodyPost_ret (v := _) (by first | (simp [results, Try.results89, go_sem, *]; done) | (simp [results, Try.results89, go_sem, *]; rfl)) rfl ⟨rfl, ?_⟩
      (repeat (first | (with_reducible exact Below.refl _ _) | (with_reducible exact Aside0.out (by assumption)) | (with_reducible apply below_alloc) | (with_reducible apply pw_below_drewN) | (with_reducible apply Below.drew) | ((with_reducible refine Below.setCell ?_ ?_ _); rotate_left; (first | (simp; done) | (simp; omega) | exact Nat.le_refl _))))


end Go.Proofs.Ytkkgocbecnefnaa.Clo
