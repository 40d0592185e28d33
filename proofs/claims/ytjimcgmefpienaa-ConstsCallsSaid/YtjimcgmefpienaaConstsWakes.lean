/- The small input that each law of layer 12 asks first; the law's makers of numbers and sets. -/
import Derived.Test.YtjimcgmefpienaaConstsTwo
import Derived.Test.YtjimcgmefpienaaConstsSet
import Derived.Test.YtjimcgmefpienaaConstsNums
namespace Go.Proofs.Ytjimcgmefpienaa.Wakes
open Go.RowKit Go.Maps Go.Proofs.Ytjimcgmefpienaa.Tab Go.Proofs.Ytjimcgmefpienaa.Plain Go.Proofs.Ytjimcgmefpienaa.Small Go.Proofs.Ytjimcgmefpienaa.Rels Go.Proofs.Ytjimcgmefpienaa.Two Go.Proofs.Ytjimcgmefpienaa.Nums Go.Proofs.YtjimcgmefpienaaW.PrintWords Go.Proofs.YtjimcgmefpienaaW.PrintLast Go.Proofs.YtjimcgmefpienaaW.PrintMore
set_option linter.unusedVariables false
set_option linter.unusedSimpArgs false

set_option maxRecDepth 100000 in
set_option maxHeartbeats 2000000 in
theorem num_any (n : Int) (w : World) : Calls Try.prog 17 #[.int .i64 n] w fun e w' => e = .returned (V 1 n E0) ∧ Below w.heap.size w w' := by
  go_enter Try.func17, Try.ntmps17
  go_wp2_with fail
  refine bodyPost_ret (v := _) (by first | (simp [results, Try.results17, go_sem]; done) | (simp [results, Try.results17, go_sem]; rfl)) rfl ⟨?_, ?_⟩
  · rfl
  · (repeat (first | (with_reducible exact Below.refl _ _) | (with_reducible exact Aside0.out (by assumption)) | (with_reducible apply below_alloc) | (with_reducible apply pw_below_drewN) | (with_reducible apply Below.drew) | ((with_reducible refine Below.setCell ?_ ?_ _); rotate_left; (first | (simp; done) | (simp; omega) | exact Nat.le_refl _))))
set_option maxRecDepth 100000 in
set_option maxHeartbeats 2000000 in
theorem lset_any (n : Int) (w : World) (h0 : 0 ≤ n) (h1 : n < 4294967296) : Calls Try.prog 22 #[.int .u32 n] w fun e w' => e = .returned (V 4 n E0) ∧ Below w.heap.size w w' := by
  have hn : wrap64 n = n := w64 (by omega) (by omega)
  go_enter Try.func22, Try.ntmps22
  go_wp2_with fail
  refine bodyPost_ret (v := _) (by first | (simp [results, Try.results22, go_sem]; done) | (simp [results, Try.results22, go_sem]; rfl)) rfl ⟨?_, ?_⟩
  · first | rfl | (show Ending.returned (V 4 (wrap64 n) E0) = _; rw [hn]) | (simp [hn]; done)
  · (repeat (first | (with_reducible exact Below.refl _ _) | (with_reducible exact Aside0.out (by assumption)) | (with_reducible apply below_alloc) | (with_reducible apply pw_below_drewN) | (with_reducible apply Below.drew) | ((with_reducible refine Below.setCell ?_ ?_ _); rotate_left; (first | (simp; done) | (simp; omega) | exact Nat.le_refl _))))

/-- Two numbers that fit. -/
theorem two_ints (op : ByteArray) (a b : Int) (w : World) (hop : op.size ≤ maxLen) (a0 : -2147483648 ≤ a) (a1 : a < 2147483648) (b0 : -2147483648 ≤ b) (b1 : b < 2147483648) (r : Int × Int × Int)
    (hr : r = entR (total 1 1 op.data.toList) 1 a E0 b E0) :
    Calls Try.prog 12 #[.string op, V 1 a E0, V 1 b E0] w fun e w' => e = .returned (VR r) ∧ Below w.heap.size w w' := by
  have ga : (decide (-2147483648 ≤ a) && decide (a < 2147483648)) = true := by simp [a0, a1]
  have gb : (decide (-2147483648 ≤ b) && decide (b < 2147483648)) = true := by simp [b0, b1]
  exact two_some op 1 a 1 b E0 E0 w hop (fun W => by have := good_int a W; rwa [ga] at this) (fun W => by have := good_int b W; rwa [gb] at this) (by decide) (by decide) (by decide) (by decide) (fun _ => ⟨a0, a1⟩) (fun _ => ⟨b0, b1⟩) r (by rw [hr]; rfl)
/-- Two sets. -/
theorem two_sets (op : ByteArray) (a b : Int) (w : World) (hop : op.size ≤ maxLen) (a0 : 0 ≤ a) (a1 : a < 4294967296) (b0 : 0 ≤ b) (b1 : b < 4294967296) (r : Int × Int × Int)
    (hr : r = entR (total 4 4 op.data.toList) 4 a E0 b E0) :
    Calls Try.prog 12 #[.string op, V 4 a E0, V 4 b E0] w fun e w' => e = .returned (VR r) ∧ Below w.heap.size w w' :=
  two_some op 4 a 4 b E0 E0 w hop (fun W => good_set a W a0 a1) (fun W => good_set b W b0 b1) (by decide) (by decide) (by decide) (by decide) (fun h => by cases h) (fun h => by cases h) r (by rw [hr]; rfl)
/-- Is a number in a set? -/
theorem two_in (op : ByteArray) (a b : Int) (w : World) (hop : op.size ≤ maxLen) (a0 : -2147483648 ≤ a) (a1 : a < 2147483648) (b0 : 0 ≤ b) (b1 : b < 4294967296) (r : Int × Int × Int)
    (hr : r = entR (total 1 4 op.data.toList) 1 a E0 b E0) :
    Calls Try.prog 12 #[.string op, V 1 a E0, V 4 b E0] w fun e w' => e = .returned (VR r) ∧ Below w.heap.size w w' := by
  have ga : (decide (-2147483648 ≤ a) && decide (a < 2147483648)) = true := by simp [a0, a1]
  exact two_some op 1 a 4 b E0 E0 w hop (fun W => by have := good_int a W; rwa [ga] at this) (fun W => good_set b W b0 b1) (by decide) (by decide) (by decide) (by decide) (fun _ => ⟨a0, a1⟩) (fun h => by cases h) r (by rw [hr]; rfl)
theorem set03 (b : Nat) (w : World) (h : w.heap[b]? = some (.cells #[.int .i64 0, .int .i64 3] 47 (0, 0))) :
    Calls Try.prog 15 #[.slice (some ⟨b, 0, none⟩) 1 1] w fun e w' => e = .returned (VR (4, 15, 0)) ∧ Below w.heap.size w w' := by
  have P : SetOf.Pairs w b 0 [(0, 3)] := ⟨fun i x y hi => by
    match i, hi with
    | 0, hi =>
      simp at hi
      obtain ⟨rfl, rfl⟩ := hi
      exact ⟨(blk_cell h 0).trans rfl, (blk_cell h 1).trans rfl⟩
    | i + 1, hi => simp at hi⟩
  have := SetOf.set_of b 0 1 [(0, 3)] w P (by decide) (by decide) (by intro p hp; simp at hp; subst hp; exact ⟨⟨by decide, by decide⟩, ⟨by decide, by decide⟩⟩)
  rwa [show SetOf.setR [(0, 3)] 0 = (4, 15, 0) by decide +kernel] at this

/-- What stays true from the third pair on. -/
structure Inv (w : World) (p5 p3 : Nat) (W : World) : Prop where
  c : blk W p5 4 15 E0
  b : blk W p3 1 (-4) E0
  g : Below w.heap.size w W
theorem Inv.drew {w W : World} {p5 p3 : Nat} (h : Inv w p5 p3 W) : Inv w p5 p3 W.drew := ⟨h.c, h.b, Below.drew h.g⟩
theorem Inv.alloc {w W : World} {p5 p3 : Nat} (h : Inv w p5 p3 W) (o : Obj) : Inv w p5 p3 (W.alloc o) := ⟨blk_alloc h.c o, blk_alloc h.b o, below_alloc h.g o⟩
theorem Inv.step {w W W2 : World} {p5 p3 : Nat} (k : Below W.heap.size W W2) (h : Inv w p5 p3 W) : Inv w p5 p3 W2 := ⟨blk_below h.c k, blk_below h.b k, below_step h.g k⟩
theorem Inv.set {w W : World} {p5 p3 : Nat} (h : Inv w p5 p3 W) {q : Nat} (h5 : p5 < q) (h3 : p3 < q) (hq : w.heap.size ≤ q) (f n : Int) (t : ByteArray) : Inv w p5 p3 (((W.setCell ⟨q, 0, none⟩ (.int .i64 f)).setCell ⟨q, 1, none⟩ (.int .i64 n)).setCell ⟨q, 2, none⟩ (.string t)) :=
  ⟨far3 h.c (by omega), far3 h.b (by omega), ((h.g.setCell hq _).setCell hq _).setCell hq _⟩
theorem Inv.lt {w W : World} {p5 p3 : Nat} (h : Inv w p5 p3 W) : p5 < W.heap.size ∧ p3 < W.heap.size ∧ w.heap.size ≤ W.heap.size := ⟨blk_lt h.c, blk_lt h.b, h.g.size⟩
theorem Inv.S {w W : World} {p5 p3 : Nat} (h : Inv w p5 p3 W) : Inv w p5 p3 W ∧ W.cell? ⟨p5, 0, none⟩ = some (.int .i64 4) ∧ W.cell? ⟨p5, 1, none⟩ = some (.int .i64 15) ∧ W.cell? ⟨p5, 2, none⟩ = some (.string E0) := by
  obtain ⟨c0, c1, c2, f0, f1, f2⟩ := cells3 h.c
  exact ⟨h, c0, c1, c2⟩
set_option maxRecDepth 100000 in
set_option maxHeartbeats 4000000 in
theorem wakes_any (w : World) : Calls Try.prog 11 #[] w fun e w' => e = .returned (.bool true) ∧ Below w.heap.size w w' := by
  have I1 := Aside0.mk (fun W => two_ints (ByteArray.mk #[68, 73, 86]) (-7) 2 W (by unfold maxLen; decide) (by decide) (by decide) (by decide) (by decide) (1, -4, 0) (by decide +kernel))
  have I2 := Aside0.mk (fun W => two_ints (ByteArray.mk #[68, 73, 86]) 1 0 W (by unfold maxLen; decide) (by decide) (by decide) (by decide) (by decide) (0, 0, 121) (by decide +kernel))
  have I3 := Aside0.mk (fun W => two_sets (ByteArray.mk #[42]) 15 36 W (by unfold maxLen; decide) (by decide) (by decide) (by decide) (by decide) (4, 4, 0) (by decide +kernel))
  go_enter Try.func11, Try.ntmps11
  go_wp2_with fail
  refine (num_any _ _).mono ?_
  rintro e w1 ⟨rfl, hb1⟩
  have G1 := Aside0.mk hb1
  clear hb1
  go_wp2_with fail
  refine (num_any _ _).mono ?_
  rintro e w2 ⟨rfl, hb2⟩
  have G2 := Aside0.mk (below_step G1.out hb2)
  clear hb2
  go_wp2_with fail
  refine (I1.out _).mono ?_
  rintro e w3 ⟨rfl, hb3⟩
  have G3 := Aside0.mk (below_step G2.out hb3)
  clear hb3
  go_wp2_with fail
  refine (num_any _ _).mono ?_
  rintro e w4 ⟨rfl, hb4⟩
  have B4 := Aside0.mk (mid _ hb4)
  have G4 := Aside0.mk (below_step (below_alloc G3.out _) hb4)
  clear hb4
  go_wp2_with fail
  refine (num_any _ _).mono ?_
  rintro e w5 ⟨rfl, hb5⟩
  have B5 := Aside0.mk (blk_below B4.out hb5)
  have G5 := Aside0.mk (below_step G4.out hb5)
  clear hb5 B4
  go_wp2_with fail
  refine (I2.out _).mono ?_
  rintro e w6 ⟨rfl, hb6⟩
  have B6 := Aside0.mk (blk_below B5.out hb6)
  have G6 := Aside0.mk (below_step G5.out hb6)
  clear hb6 B5
  go_wp2_with fail
  have hq : ((w6.alloc (.cells #[.int .i64 0, .int .i64 0, .string E0] 23)).alloc (.cells #[.int .i64 0, .int .i64 3] 47)).heap[w6.heap.size + 1]? = some (.cells #[.int .i64 0, .int .i64 3] 47 (0, 0)) := by
    have := (MapKept.heap_alloc (w6.alloc (.cells #[.int .i64 0, .int .i64 0, .string E0] 23)) (.cells #[.int .i64 0, .int .i64 3] 47)).1
    rwa [show (w6.alloc (.cells #[.int .i64 0, .int .i64 0, .string E0] 23)).heap.size = w6.heap.size + 1 by simp] at this
  refine (set03 _ _ hq).mono ?_
  rintro e w7 ⟨rfl, hb7⟩
  have B7 := Aside0.mk (blk_below (blk_alloc (blk_alloc B6.out _) _) hb7)
  have G7 := Aside0.mk (below_step (below_alloc (below_alloc G6.out _) _) hb7)
  clear hb7 B6 hq
  have C7 : Inv w w7.heap.size w3.heap.size (w7.alloc (.cells #[.int .i64 4, .int .i64 15, .string E0] 23)) := ⟨(MapKept.heap_alloc w7 _).1, blk_alloc B7.out _, below_alloc G7.out _⟩
  go_upto_region 4 with (fail)
  refine wp_of_world (fun w' => Inv w w7.heap.size w3.heap.size w') C7 ?_
  clear B7 C7
  generalize w7.heap.size = p5 at *
  generalize w3.heap.size = p3 at *
  rintro w8 I8
  have L := Aside0.mk (fun W => lset_any 36 W (by decide) (by decide))
  have I8d := I8.drew
  clear I1 I2 G1 G2 G3 G4 G5 G6 G7
  go_cut [7, 8] (fun v7 v8 wc => ∃ q, v7 = .pointer (some ⟨q, 0, none⟩) ∧ v8 = .int .i64 0 ∧ wc.cell? ⟨q, 1, none⟩ = some (.int .i64 4) ∧ Inv w p5 p3 wc)
  case first =>
    go_region_held3 (fun w' => Inv w p5 p3 w' ∧ w'.cell? ⟨p5, 0, none⟩ = some (.int .i64 4) ∧ w'.cell? ⟨p5, 1, none⟩ = some (.int .i64 15) ∧ w'.cell? ⟨p5, 2, none⟩ = some (.string E0))
      (first
        | (exact I8d.S)
        | (exact (Inv.alloc I8d _).S)
        | (exact I9.S)
        | (exact (Inv.alloc I9 _).S)
        | (exact I10.S)
        | (exact (Inv.alloc I10 _).S)
        | (exact (Inv.set I10 I8d.lt.1 I8d.lt.2.1 I8d.lt.2.2 _ _ _).S)
        | (exact (Inv.set I10 I9.lt.1 I9.lt.2.1 I9.lt.2.2 _ _ _).S))
      (first
      | (go_at_call 22; refine (L.out _).mono ?_; rintro e w9 ⟨rfl, hb9⟩; have I9 := Inv.step hb9 (by first | exact I8d | exact Inv.alloc I8d _); (try (have B9 : Aside0 (w9.heap[w8.heap.size]? = some (.cells #[.int .i64 0, .int .i64 0, .string E0] 23 (0, 0))) := ⟨mid (w := w8.drew) _ hb9⟩)); clear hb9)
      | (go_at_call 12; refine (I3.out _).mono ?_; rintro e w10 ⟨rfl, hb10⟩; have I10 := Inv.step hb10 (by first | exact I9 | exact Inv.alloc I9 _); (try (have B10 : w10.heap[w9.heap.size]? = some (.cells #[.int .i64 0, .int .i64 0, .string E0] 23 (0, 0)) := mid _ hb10; obtain ⟨m0, m1, m2, mf0, mf1, mf2⟩ := cells3 B10; have K10 := Aside0.mk B10; clear B10)); (try (have B10 : w10.heap[w8.heap.size]? = some (.cells #[.int .i64 0, .int .i64 0, .string E0] 23 (0, 0)) := blk_below (Aside0.out (by assumption)) hb10; obtain ⟨m0, m1, m2, mf0, mf1, mf2⟩ := cells3 B10; have K10 := Aside0.mk B10; clear B10)); clear hb10))
    all_goals
      go_wp2_with fail
      go_meet
      first
      | exact ⟨_, rfl, rfl, (cells3 (MapKept.heap_alloc w10 _).1).2.1, Inv.alloc I10 _⟩
      | exact ⟨_, rfl, rfl, (cells3 (put3 K10.out)).2.1, Inv.set I10 I8d.lt.1 I8d.lt.2.1 I8d.lt.2.2 _ _ _⟩
      | exact ⟨_, rfl, rfl, (cells3 (put3 K10.out)).2.1, Inv.set I10 I9.lt.1 I9.lt.2.1 I9.lt.2.2 _ _ _⟩
  case rest =>
  obtain ⟨q, rfl, rfl, d0, d1⟩ := hcut
  obtain ⟨b0, b1, b2, bf0, bf1, bf2⟩ := cells3 d1.b
  have hg := Aside0.mk d1.g
  clear d1
  go_wp2_with fail
  go_ret
  exact ⟨rfl, hg.out⟩
end Go.Proofs.Ytjimcgmefpienaa.Wakes
