/- The law ConstsAlgebra: sets by their differences, elements by IN; walked. -/
import Derived.Test.YtjimcgmefpienaaConstsWakes
import Derived.Test.YtjimcgmefpienaaConstsOne
import Derived.Test.YtjimcgmefpienaaFn12a
namespace Go.Proofs.Ytjimcgmefpienaa.LawAlgebra
open Go.RowKit Go.Maps Go.Proofs.Ytjimcgmefpienaa.Tab Go.Proofs.Ytjimcgmefpienaa.Plain Go.Proofs.Ytjimcgmefpienaa.Small Go.Proofs.Ytjimcgmefpienaa.Rels Go.Proofs.Ytjimcgmefpienaa.Two Go.Proofs.Ytjimcgmefpienaa.Nums Go.Proofs.Ytjimcgmefpienaa.Wakes Go.Proofs.Ytjimcgmefpienaa.One Go.Proofs.Ytjimcgmefpienaa.Bits12 Go.Proofs.Ytjimcgmefpienaa.PConstsCalls Go.Proofs.YtjimcgmefpienaaW.PrintWords Go.Proofs.YtjimcgmefpienaaW.PrintLast Go.Proofs.YtjimcgmefpienaaW.PrintMore
set_option linter.unusedVariables false
set_option linter.unusedSimpArgs false

theorem t_add : total 4 4 (ByteArray.mk #[43]).data.toList = some (66, some 67) := by decide +kernel
theorem t_sub : total 4 4 (ByteArray.mk #[45]).data.toList = some (66, some 68) := by decide +kernel
theorem t_mul : total 4 4 (ByteArray.mk #[42]).data.toList = some (66, some 69) := by decide +kernel
theorem t_quo : total 4 4 (ByteArray.mk #[47]).data.toList = some (66, some 70) := by decide +kernel
theorem t_in : total 1 4 (ByteArray.mk #[73, 78]).data.toList = some (71, none) := by decide +kernel
theorem two_add (a b : Int) (w : World) (a0 : 0 ≤ a) (a1 : a < 4294967296) (b0 : 0 ≤ b) (b1 : b < 4294967296) :
    Calls Try.prog 12 #[.string (ByteArray.mk #[43]), V 4 a E0, V 4 b E0] w fun e w' => e = .returned (VR (4, Go.bits .or .u32 a b, 0)) ∧ Below w.heap.size w w' :=
  two_sets _ a b w (by unfold maxLen; decide) a0 a1 b0 b1 _ (by rw [t_add]; simp [entR, Int.emod_eq_of_lt a0 a1, Int.emod_eq_of_lt b0 b1])
theorem two_sub (a b : Int) (w : World) (a0 : 0 ≤ a) (a1 : a < 4294967296) (b0 : 0 ≤ b) (b1 : b < 4294967296) :
    Calls Try.prog 12 #[.string (ByteArray.mk #[45]), V 4 a E0, V 4 b E0] w fun e w' => e = .returned (VR (4, Go.bits .andNot .u32 a b, 0)) ∧ Below w.heap.size w w' :=
  two_sets _ a b w (by unfold maxLen; decide) a0 a1 b0 b1 _ (by rw [t_sub]; simp [entR, Int.emod_eq_of_lt a0 a1, Int.emod_eq_of_lt b0 b1])
theorem two_mul (a b : Int) (w : World) (a0 : 0 ≤ a) (a1 : a < 4294967296) (b0 : 0 ≤ b) (b1 : b < 4294967296) :
    Calls Try.prog 12 #[.string (ByteArray.mk #[42]), V 4 a E0, V 4 b E0] w fun e w' => e = .returned (VR (4, Go.bits .and .u32 a b, 0)) ∧ Below w.heap.size w w' :=
  two_sets _ a b w (by unfold maxLen; decide) a0 a1 b0 b1 _ (by rw [t_mul]; simp [entR, Int.emod_eq_of_lt a0 a1, Int.emod_eq_of_lt b0 b1])
theorem two_quo (a b : Int) (w : World) (a0 : 0 ≤ a) (a1 : a < 4294967296) (b0 : 0 ≤ b) (b1 : b < 4294967296) :
    Calls Try.prog 12 #[.string (ByteArray.mk #[47]), V 4 a E0, V 4 b E0] w fun e w' => e = .returned (VR (4, Go.bits .xor .u32 a b, 0)) ∧ Below w.heap.size w w' :=
  two_sets _ a b w (by unfold maxLen; decide) a0 a1 b0 b1 _ (by rw [t_quo]; simp [entR, Int.emod_eq_of_lt a0 a1, Int.emod_eq_of_lt b0 b1])
/-- Sets in boxes. -/
def Fr (w : World) (L : List (Nat × Int × Int)) (W : World) : Prop := (∀ x ∈ L, blk W x.1 x.2.1 x.2.2 E0) ∧ Below w.heap.size w W
theorem Fr.step {w W W2 : World} {L : List (Nat × Int × Int)} (k : Below W.heap.size W W2) (h : Fr w L W) : Fr w L W2 := ⟨fun x hx => blk_below (h.1 x hx) k, below_step h.2 k⟩
theorem Fr.drew {w W : World} {L : List (Nat × Int × Int)} (h : Fr w L W) : Fr w L W.drew := ⟨fun x hx => h.1 x hx, Below.drew h.2⟩
theorem Fr.alloc {w W : World} {L : List (Nat × Int × Int)} (h : Fr w L W) (o : Obj) : Fr w L (W.alloc o) := ⟨fun x hx => blk_alloc (h.1 x hx) o, below_alloc h.2 o⟩
theorem Fr.push {w W : World} {L : List (Nat × Int × Int)} (h : Fr w L W) (f n : Int) : Fr w ((W.heap.size, f, n) :: L) (W.alloc (.cells #[.int .i64 f, .int .i64 n, .string E0] 23)) := by
  refine ⟨fun x hx => ?_, below_alloc h.2 _⟩
  rcases List.mem_cons.1 hx with rfl | hx
  · exact (MapKept.heap_alloc W _).1
  · exact blk_alloc (h.1 x hx) _
theorem Fr.push2 {w W : World} {L : List (Nat × Int × Int)} (h : Fr w L W) (f n g m : Int) : Fr w ((W.heap.size + 1, g, m) :: (W.heap.size, f, n) :: L) ((W.alloc (.cells #[.int .i64 f, .int .i64 n, .string E0] 23)).alloc (.cells #[.int .i64 g, .int .i64 m, .string E0] 23)) := by
  have := (h.push f n).push g m
  rwa [show (W.alloc (.cells #[.int .i64 f, .int .i64 n, .string E0] 23)).heap.size = W.heap.size + 1 by simp] at this
theorem Fr.set {w W : World} {L : List (Nat × Int × Int)} (h : Fr w L W) {q : Nat} (hl : ∀ x ∈ L, x.1 < q) (hq : w.heap.size ≤ q) (hb : blk W q 0 0 E0) (f n : Int) :
    Fr w ((q, f, n) :: L) (((W.setCell ⟨q, 0, none⟩ (.int .i64 f)).setCell ⟨q, 1, none⟩ (.int .i64 n)).setCell ⟨q, 2, none⟩ (.string E0)) := by
  refine ⟨fun x hx => ?_, ((h.2.setCell hq _).setCell hq _).setCell hq _⟩
  rcases List.mem_cons.1 hx with rfl | hx
  · exact put3 hb
  · have := hl x hx
    exact far3 (h.1 x hx) (by omega)
theorem Fr.tail {w W : World} {L : List (Nat × Int × Int)} {x : Nat × Int × Int} (h : Fr w (x :: L) W) : Fr w L W := ⟨fun y hy => h.1 y (List.mem_cons_of_mem _ hy), h.2⟩
theorem after {w W : World} {L : List (Nat × Int × Int)} {q : Nat} (h : Fr w L W) (hl : ∀ x ∈ L, x.1 < q) (hq : w.heap.size ≤ q) (hb : blk W q 0 0 E0) : ∀ f n : Int,
    Fr w ((q, f, n) :: L) (((W.setCell ⟨q, 0, none⟩ (.int .i64 f)).setCell ⟨q, 1, none⟩ (.int .i64 n)).setCell ⟨q, 2, none⟩ (.string E0)) := fun f n => h.set hl hq hb f n
theorem Fr.lt {w W : World} {L : List (Nat × Int × Int)} (h : Fr w L W) : ∀ x ∈ L, x.1 < W.heap.size := fun x hx => blk_lt (h.1 x hx)
theorem Fr.get {w W : World} {L : List (Nat × Int × Int)} (h : Fr w L W) (p : Nat) (f n : Int) (hx : (p, f, n) ∈ L) :
    W.cell? ⟨p, 0, none⟩ = some (.int .i64 f) ∧ W.cell? ⟨p, 1, none⟩ = some (.int .i64 n) ∧ W.cell? ⟨p, 2, none⟩ = some (.string E0) := by
  obtain ⟨c0, c1, c2, _⟩ := cells3 (h.1 _ hx)
  exact ⟨c0, c1, c2⟩
theorem same_self (f n : Int) (t : ByteArray) (w : World) : Calls Try.prog 14 #[V f n t, V f n t] w fun e w' => e = .returned (.bool true) ∧ Below w.heap.size w w' :=
  spinetref12_Same.calls f n t f n t true w (by simp [spinetref12_Same.f])
theorem set1 (m : Nat) (hm : m < 32) (b : Nat) (w : World) (h : w.heap[b]? = some (.cells #[.int .i64 m, .int .i64 m] 47 (0, 0))) :
    Calls Try.prog 15 #[.slice (some ⟨b, 0, none⟩) 1 1] w fun e w' => e = .returned (VR (4, ((2 ^ m : Nat) : Int), 0)) ∧ Below w.heap.size w w' := by
  have P : SetOf.Pairs w b 0 [((m : Int), (m : Int))] := ⟨fun i x y hi => by
    match i, hi with
    | 0, hi =>
      simp at hi
      obtain ⟨rfl, rfl⟩ := hi
      exact ⟨(blk_cell h 0).trans rfl, (blk_cell h 1).trans rfl⟩
    | i + 1, hi => simp at hi⟩
  have := SetOf.set_of b 0 1 [((m : Int), (m : Int))] w P (Nat.le_refl 1) (show 1 < 100000 by decide) (by intro p hp; simp at hp; subst hp; exact ⟨⟨by omega, by omega⟩, ⟨by omega, by omega⟩⟩)
  rwa [one_bit m hm] at this
/-- What IN tells of any number. -/
theorem in_any (n a : Int) (a0 : 0 ≤ a) (a1 : a < 4294967296) : ∃ r : Int × Int × Int, (∀ w, Calls Try.prog 12 #[.string (ByteArray.mk #[73, 78]), V 1 n E0, V 4 a E0] w fun e w' => e = .returned (VR r) ∧ Below w.heap.size w w') ∧
    (((n < -2147483648 ∨ 2147483648 ≤ n) ∧ r = (0, 0, 120)) ∨ ((-2147483648 ≤ n ∧ n < 2147483648 ∧ (n < 0 ∨ 31 < n)) ∧ r = (0, 0, 91)) ∨
      ∃ m k : Nat, n = m ∧ m < 32 ∧ a = k ∧ k < 4294967296 ∧ r = (2, tr (Go.bits .and .u32 ((2 ^ m : Nat) : Int) (k : Int) != 0), 0)) := by
  by_cases h : -2147483648 ≤ n ∧ n < 2147483648
  · refine ⟨Clo.inR n a, fun w => two_in _ n a w (by unfold maxLen; decide) h.1 h.2 a0 a1 _ (by rw [t_in]; simp [entR]), Or.inr ?_⟩
    by_cases h2 : n < 0 ∨ n > 31
    · exact Or.inl ⟨⟨h.1, h.2, h2⟩, by unfold Clo.inR; rw [if_pos h2]⟩
    · right
      obtain ⟨k, rfl, hk⟩ := nat_of a a0 a1
      obtain ⟨m, rfl⟩ : ∃ m : Nat, n = m := ⟨n.toNat, by omega⟩
      refine ⟨m, k, rfl, by omega, rfl, hk, ?_⟩
      unfold Clo.inR
      rw [if_neg h2, mem_both m k (by omega) hk]
  · have hg : ((decide (-2147483648 ≤ n) && decide (n < 2147483648)) && true) = false := by simpa using h
    exact ⟨(0, 0, 120), fun w => two_none _ 1 n 4 a E0 E0 _ _ w hg (good_int n) (fun W => good_set a W a0 a1), Or.inl ⟨by omega, rfl⟩⟩
set_option maxRecDepth 100000 in
set_option maxHeartbeats 8000000 in
theorem walk (a b n : Int) (w : World) (a0 : 0 ≤ a) (a1 : a < 4294967296) (b0 : 0 ≤ b) (b1 : b < 4294967296) (n0 : -9223372036854775808 ≤ n) (n1 : n ≤ 9223372036854775807) :
    Calls Try.prog 8 #[.int .u32 a, .int .u32 b, .int .i64 n] w fun e w' => e = .returned (.bool true) ∧ Below w.heap.size w w' := by
  have Wk := Aside0.mk wakes_any
  have SA := Aside0.mk (fun W => lset_any a W a0 a1)
  have SB := Aside0.mk (fun W => lset_any b W b0 b1)
  obtain ⟨r, IN, hr⟩ := in_any n a a0 a1
  have IN := Aside0.mk IN
  have I2 := Aside0.mk (fun W => two_sub a b W a0 a1 b0 b1)
  have I3 := Aside0.mk (fun W => one_set b E0 W b0 b1 (fun W => good_set b W b0 b1))
  have I4 := Aside0.mk (fun W => two_mul a (4294967295 - b) W a0 a1 (by omega) (by omega))
  rw [alg1 a b a0 a1 b0 b1] at I4
  have I5 := Aside0.mk (fun W => two_sub b a W b0 b1 a0 a1)
  have I6 := Aside0.mk (fun W => two_add (Go.bits .andNot .u32 a b) (Go.bits .andNot .u32 b a) W (bits_lt _ _ _).1 (bits_lt _ _ _).2 (bits_lt _ _ _).1 (bits_lt _ _ _).2)
  rw [alg2 a b a0 a1 b0 b1] at I6
  have I7 := Aside0.mk (fun W => two_quo a b W a0 a1 b0 b1)
  have I8 := Aside0.mk (fun (m : Nat) (hm : m < 32) W => two_mul ((2 ^ m : Nat) : Int) a W (Int.natCast_nonneg _) (Int.ofNat_lt.2 (Nat.pow_lt_pow_right (n := 32) (by decide) hm)) a0 a1)
  have hr := Aside0.mk hr
  obtain ⟨r1, r2, r3⟩ := r
  generalize Go.bits .andNot .u32 a b = d at *
  generalize Go.bits .andNot .u32 b a = o at *
  generalize Go.bits .xor .u32 a b = s at *
  generalize 4294967295 - b = c at *
  clear a0 a1 b0 b1
  go_enter Try.func8, Try.ntmps8
  go_wp2_with fail
  refine (SA.out _).mono ?_
  rintro e w1 ⟨rfl, hb1⟩
  have H : Aside0 (Fr w [] w1) := ⟨⟨fun x hx => (by cases hx), hb1⟩⟩
  clear hb1
  go_wp2_with fail
  refine (SB.out _).mono ?_
  rintro e w2 ⟨rfl, hb2⟩
  replace H := Aside0.mk (Fr.step hb2 H.out)
  clear hb2
  have J := (H.out.push2 4 a 4 b)
  clear H
  go_upto_region 2 with (fail)
  refine wp_of_world (fun W => Fr w [(w2.heap.size + 1, 4, b), (w2.heap.size, 4, a)] W) J ?_
  clear J
  generalize w2.heap.size + 1 = p8 at *
  generalize w2.heap.size = p7 at *
  rintro W2 H
  obtain ⟨l00, l01, l02⟩ := H.get p7 4 a (by simp)
  obtain ⟨l10, l11, l12⟩ := H.get p8 4 b (by simp)
  have HH := Aside0.mk H
  clear H
  go_wp2_with fail
  refine (I2.out _).mono ?_
  rintro e v2 ⟨rfl, hb⟩
  have H := Fr.step hb HH.out
  clear hb HH l00 l01 l02 l10 l11 l12
  have J := H.push 4 d
  clear H
  go_upto_region 3 with (fail)
  refine wp_of_world (fun W => Fr w [(v2.heap.size, 4, d), (p8, 4, b), (p7, 4, a)] W) J ?_
  clear J
  generalize v2.heap.size = p9 at *
  rintro W3 H
  obtain ⟨l00, l01, l02⟩ := H.get p8 4 b (by simp)
  have HH := Aside0.mk H
  clear H
  go_wp2_with fail
  refine (I3.out _).mono ?_
  rintro e v3 ⟨rfl, hb⟩
  have H := Fr.step hb HH.out
  clear hb HH l00 l01 l02
  have J := H.push 4 c
  clear H
  go_upto_region 4 with (fail)
  refine wp_of_world (fun W => Fr w [(v3.heap.size, 4, c), (p9, 4, d), (p8, 4, b), (p7, 4, a)] W) J ?_
  clear J
  generalize v3.heap.size = p11 at *
  rintro W4 H
  obtain ⟨l00, l01, l02⟩ := H.get p7 4 a (by simp)
  obtain ⟨l10, l11, l12⟩ := H.get p11 4 c (by simp)
  have HH := Aside0.mk H
  clear H
  go_wp2_with fail
  refine (I4.out _).mono ?_
  rintro e v4 ⟨rfl, hb⟩
  have H := Fr.step hb HH.out
  clear hb HH l00 l01 l02 l10 l11 l12
  have J := H.push 4 d
  clear H
  go_upto_region 5 with (fail)
  refine wp_of_world (fun W => Fr w [(v4.heap.size, 4, d), (p11, 4, c), (p9, 4, d), (p8, 4, b), (p7, 4, a)] W) J ?_
  clear J
  generalize v4.heap.size = p13 at *
  rintro W5 H
  obtain ⟨l00, l01, l02⟩ := H.get p8 4 b (by simp)
  obtain ⟨l10, l11, l12⟩ := H.get p7 4 a (by simp)
  have HH := Aside0.mk H
  clear H
  go_wp2_with fail
  refine (I5.out _).mono ?_
  rintro e v5 ⟨rfl, hb⟩
  have H := Fr.step hb HH.out
  clear hb HH l00 l01 l02 l10 l11 l12
  have J := H.push 4 o
  clear H
  go_upto_region 6 with (fail)
  refine wp_of_world (fun W => Fr w [(v5.heap.size, 4, o), (p13, 4, d), (p11, 4, c), (p9, 4, d), (p8, 4, b), (p7, 4, a)] W) J ?_
  clear J
  generalize v5.heap.size = p15 at *
  rintro W6 H
  obtain ⟨l00, l01, l02⟩ := H.get p9 4 d (by simp)
  obtain ⟨l10, l11, l12⟩ := H.get p15 4 o (by simp)
  have HH := Aside0.mk H
  clear H
  go_wp2_with fail
  refine (I6.out _).mono ?_
  rintro e v6 ⟨rfl, hb⟩
  have H := Fr.step hb HH.out
  clear hb HH l00 l01 l02 l10 l11 l12
  have J := H.push 4 s
  clear H
  go_upto_region 7 with (fail)
  refine wp_of_world (fun W => Fr w [(v6.heap.size, 4, s), (p15, 4, o), (p13, 4, d), (p11, 4, c), (p9, 4, d), (p8, 4, b), (p7, 4, a)] W) J ?_
  clear J
  generalize v6.heap.size = p17 at *
  rintro W7 H
  obtain ⟨l00, l01, l02⟩ := H.get p7 4 a (by simp)
  obtain ⟨l10, l11, l12⟩ := H.get p8 4 b (by simp)
  have HH := Aside0.mk H
  clear H
  go_wp2_with fail
  refine (I7.out _).mono ?_
  rintro e v7 ⟨rfl, hb⟩
  have H := Fr.step hb HH.out
  clear hb HH l00 l01 l02 l10 l11 l12
  have J := H.push 4 s
  clear H
  go_upto_region 8 with (fail)
  refine wp_of_world (fun W => Fr w [(v7.heap.size, 4, s), (p17, 4, s), (p15, 4, o), (p13, 4, d), (p11, 4, c), (p9, 4, d), (p8, 4, b), (p7, 4, a)] W) J ?_
  clear J
  generalize v7.heap.size = p19 at *
  rintro W8 H
  obtain ⟨l00, l01, l02⟩ := H.get p9 4 d (by simp)
  obtain ⟨l10, l11, l12⟩ := H.get p13 4 d (by simp)
  have HH := Aside0.mk H
  clear H
  go_wp2_with fail
  refine (same_self 4 d E0 _).mono ?_
  rintro e v8 ⟨rfl, hb⟩
  have H := Fr.step hb HH.out
  clear hb HH l00 l01 l02 l10 l11 l12
  obtain ⟨l00, l01, l02⟩ := H.get p17 4 s (by simp)
  obtain ⟨l10, l11, l12⟩ := H.get p19 4 s (by simp)
  have HH := Aside0.mk H
  clear H
  go_wp2_with fail
  refine (same_self 4 s E0 _).mono ?_
  rintro e v9 ⟨rfl, hb⟩
  have H := Fr.step hb HH.out
  clear hb HH l00 l01 l02 l10 l11 l12
  have HH := Aside0.mk H
  clear H
  go_upto_region 10 with (fail)
  have H := HH.out
  clear HH
  have Hd := H.drew
  have NU := Aside0.mk (fun W => num_any n W)
  go_cut [21, 22] (fun v21 v22 wc => ∃ q, v21 = .pointer (some ⟨q, 0, none⟩) ∧ v22 = .int .i64 r3 ∧ Fr w ((q, r1, r2) :: [(p19, 4, s), (p17, 4, s), (p15, 4, o), (p13, 4, d), (p11, 4, c), (p9, 4, d), (p8, 4, b), (p7, 4, a)]) wc)
  case first =>
    go_region_held3 (fun w' => Fr w [(p19, 4, s), (p17, 4, s), (p15, 4, o), (p13, 4, d), (p11, 4, c), (p9, 4, d), (p8, 4, b), (p7, 4, a)] w' ∧ w'.cell? ⟨p7, 0, none⟩ = some (.int .i64 4) ∧ w'.cell? ⟨p7, 1, none⟩ = some (.int .i64 a) ∧ w'.cell? ⟨p7, 2, none⟩ = some (.string E0))
      (first
        | (exact ⟨Hd, Hd.get p7 4 a (by simp)⟩)
        | (exact ⟨Hd.alloc _, (Hd.alloc _).get p7 4 a (by simp)⟩)
        | (exact ⟨H9, H9.get p7 4 a (by simp)⟩)
        | (exact ⟨H9.alloc _, (H9.alloc _).get p7 4 a (by simp)⟩)
        | (exact ⟨H10, H10.get p7 4 a (by simp)⟩)
        | (exact ⟨H10.alloc _, (H10.alloc _).get p7 4 a (by simp)⟩)
        | (exact ⟨(K10.out _ _).tail, (K10.out _ _).tail.get p7 4 a (by simp)⟩))
      (first
      | (go_at_call 17; refine (NU.out _).mono ?_; rintro e w9 ⟨rfl, hb9⟩; have H9 := Fr.step hb9 (by first | exact Hd | exact Fr.alloc Hd _); (try (have B9 : Aside0 (w9.heap[v9.heap.size]? = some (.cells #[.int .i64 0, .int .i64 0, .string E0] 23 (0, 0))) := ⟨mid (w := v9.drew) _ hb9⟩)); clear hb9)
      | (go_at_call 12; refine (IN.out _).mono ?_; rintro e w10 ⟨rfl, hb10⟩; have H10 := Fr.step hb10 (by first | exact H9 | exact Fr.alloc H9 _); (try (have B10 : w10.heap[w9.heap.size]? = some (.cells #[.int .i64 0, .int .i64 0, .string E0] 23 (0, 0)) := mid _ hb10; obtain ⟨m0, m1, m2, mf0, mf1, mf2⟩ := cells3 B10; have K10 := Aside0.mk (after H10 (H9.lt) H9.2.size B10); clear B10)); (try (have B10 : w10.heap[v9.heap.size]? = some (.cells #[.int .i64 0, .int .i64 0, .string E0] 23 (0, 0)) := blk_below (Aside0.out (by assumption)) hb10; obtain ⟨m0, m1, m2, mf0, mf1, mf2⟩ := cells3 B10; have K10 := Aside0.mk (after H10 (H.lt) H.2.size B10); clear B10)); clear hb10))
    all_goals
      go_wp2_with fail
      go_meet
      first
      | exact ⟨_, rfl, rfl, Fr.push H10 r1 r2⟩
      | exact ⟨_, rfl, rfl, K10.out r1 r2⟩
  case rest =>
  clear H Hd NU I2 I3 I4 I5 I6 I7 IN SA SB
  obtain ⟨q, rfl, rfl, F⟩ := hcut
  rcases hr.out with ⟨hn, he⟩ | ⟨⟨k0, k1, hn⟩, he⟩ | ⟨m, k, rfl, hm, rfl, hk, he⟩
  · simp only [Prod.mk.injEq] at he
    obtain ⟨rfl, rfl, rfl⟩ := he
    have F := Aside0.mk F.2
    clear hr I8 n0 n1
    by_cases h1 : n < -2147483648
    · have d1 : decide (n < -2147483648) = true := decide_eq_true h1
      clear hn h1
      go_wp2_with fail
      refine (Wk.out _).mono ?_
      rintro e w4 ⟨rfl, hb4⟩
      have G4 := Aside0.mk (below_step F.out hb4)
      clear hb4
      go_wp2_with fail
      go_ret
      exact ⟨rfl, G4.out⟩
    · have d1 : decide (n < -2147483648) = false := decide_eq_false h1
      have d2 : decide (2147483648 ≤ n) = true := decide_eq_true (hn.resolve_left h1)
      clear hn h1
      go_wp2_with fail
      refine (Wk.out _).mono ?_
      rintro e w4 ⟨rfl, hb4⟩
      have G4 := Aside0.mk (below_step F.out hb4)
      clear hb4
      go_wp2_with fail
      go_ret
      exact ⟨rfl, G4.out⟩
  · simp only [Prod.mk.injEq] at he
    obtain ⟨rfl, rfl, rfl⟩ := he
    have F := Aside0.mk F.2
    have d1 : decide (n < -2147483648) = false := decide_eq_false (by omega)
    have d2 : decide (2147483648 ≤ n) = false := decide_eq_false (by omega)
    clear hr I8 n0 n1 k0 k1
    by_cases h1 : n < 0
    · have d3 : decide (n < 0) = true := decide_eq_true h1
      clear hn h1
      go_wp2_with fail
      refine (Wk.out _).mono ?_
      rintro e w4 ⟨rfl, hb4⟩
      have G4 := Aside0.mk (below_step F.out hb4)
      clear hb4
      go_wp2_with fail
      go_ret
      exact ⟨rfl, G4.out⟩
    · have d3 : decide (n < 0) = false := decide_eq_false h1
      have d4 : decide (31 < n) = true := decide_eq_true (hn.resolve_left h1)
      clear hn h1
      go_wp2_with fail
      refine (Wk.out _).mono ?_
      rintro e w4 ⟨rfl, hb4⟩
      have G4 := Aside0.mk (below_step F.out hb4)
      clear hb4
      go_wp2_with fail
      go_ret
      exact ⟨rfl, G4.out⟩
  · simp only [Prod.mk.injEq] at he
    obtain ⟨rfl, rfl, rfl⟩ := he
    have S1 := Aside0.mk (set1 m hm)
    have I8 := Aside0.mk (I8.out m hm)
    have d1 : decide ((m : Int) < -2147483648) = false := decide_eq_false (by omega)
    have d2 : decide (2147483648 ≤ (m : Int)) = false := decide_eq_false (by omega)
    have d3 : decide ((m : Int) < 0) = false := decide_eq_false (by omega)
    have d4 : decide (31 < (m : Int)) = false := decide_eq_false (by omega)
    clear hr n0 n1 hk hm
    generalize Go.bits .and .u32 ((2 ^ m : Nat) : Int) (k : Int) = T at *
    have F2 : Fr w [(q, 2, tr (T != 0)), (p7, 4, (k : Int))] wc := ⟨fun x hx => F.1 x (by simp at hx ⊢; rcases hx with rfl | rfl <;> simp), F.2⟩
    have HH := Aside0.mk F2
    clear F F2
    go_wp2_with fail
    have hq : (wc.alloc (.cells #[.int .i64 m, .int .i64 m] 47)).heap[wc.heap.size]? = some (.cells #[.int .i64 m, .int .i64 m] 47 (0, 0)) := (MapKept.heap_alloc wc _).1
    refine (S1.out _ _ hq).mono ?_
    rintro e v15 ⟨rfl, hb⟩
    have H := Fr.step hb (HH.out.alloc _)
    clear hb HH hq
    have J := H.push 4 ((2 ^ m : Nat) : Int)
    clear H
    go_upto_region 16 with (fail)
    refine wp_of_world (fun W => Fr w [(v15.heap.size, 4, ((2 ^ m : Nat) : Int)), (q, 2, tr (T != 0)), (p7, 4, (k : Int))] W) J ?_
    clear J
    generalize v15.heap.size = p23 at *
    rintro W16 H
    generalize ((2 ^ m : Nat) : Int) = pw at *
    obtain ⟨l00, l01, l02⟩ := H.get p23 4 pw (by simp)
    obtain ⟨l10, l11, l12⟩ := H.get p7 4 k (by simp)
    have HH := Aside0.mk H
    clear H
    go_wp2_with fail
    refine (I8.out _).mono ?_
    rintro e v16 ⟨rfl, hb⟩
    have H := Fr.step hb HH.out
    clear hb HH l00 l01 l02 l10 l11 l12
    have J := H.push 4 T
    clear H
    go_upto_region 17 with (fail)
    refine wp_of_world (fun W => Fr w [(v16.heap.size, 4, T), (p23, 4, pw), (q, 2, tr (T != 0)), (p7, 4, (k : Int))] W) J ?_
    clear J
    generalize v16.heap.size = p25 at *
    rintro W17 H
    obtain ⟨l00, l01, l02⟩ := H.get q 2 (tr (T != 0)) (by simp)
    obtain ⟨l10, l11, l12⟩ := H.get p25 4 T (by simp)
    have F := Aside0.mk H.2
    clear H
    by_cases hT : T = 0
    · subst hT
      rw [show tr ((0 : Int) != 0) = 0 from rfl] at l01
      go_wp2_with fail
      refine (Wk.out _).mono ?_
      rintro e w4 ⟨rfl, hb4⟩
      have G4 := Aside0.mk (below_step F.out hb4)
      clear hb4
      go_wp2_with fail
      go_ret
      exact ⟨rfl, G4.out⟩
    · have e1 : (T != 0) = true := by simpa using hT
      have e2 : (T == 0) = false := by simpa using hT
      rw [e1, show tr true = 1 from rfl] at l01
      clear hT
      go_wp2_with fail
      refine (Wk.out _).mono ?_
      rintro e w4 ⟨rfl, hb4⟩
      have G4 := Aside0.mk (below_step F.out hb4)
      clear hb4
      go_wp2_with fail
      go_ret
      exact ⟨rfl, G4.out⟩
end Go.Proofs.Ytjimcgmefpienaa.LawAlgebra
