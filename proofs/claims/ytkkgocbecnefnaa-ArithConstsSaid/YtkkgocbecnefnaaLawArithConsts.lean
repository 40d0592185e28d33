/- The law ArithConsts: where constants of numbers are reckoned without an error, programs reckon the same; walked. -/
import Derived.Test.YtkkgocbecnefnaaCallsPure20
import Derived.Laws.AppendOwn
import Derived.Deep.AppendLies
import Derived.Deep.RegionHeld3
namespace Go.Proofs.Ytkkgocbecnefnaa.LawArithConsts
open Go.RowKit Go.Proofs.Ytkkgocbecnefnaa Go.Proofs.Ytkkgocbecnefnaa.Plain Go.Proofs.Ytkkgocbecnefnaa.Tab Go.Proofs.Ytkkgocbecnefnaa.Small Go.Proofs.Ytkkgocbecnefnaa.Rels Go.Proofs.Ytkkgocbecnefnaa.Two Go.Proofs.Ytkkgocbecnefnaa.Wakes Go.Proofs.Ytkkgocbecnefnaa.ConstsPure20 Go.Proofs.Ytkkgocbecnefnaa.CallsPure20 Go.Proofs.Ytkkgocbecnefnaa.PArithConsts Go.Proofs.YtkkgocbecnefnaaW.PrintWords Go.Proofs.YtkkgocbecnefnaaW.PrintLast Go.Proofs.YtkkgocbecnefnaaW.PrintMore
set_option linter.unusedVariables false
set_option linter.unusedSimpArgs false

/-- The two numbers that came in, and values in boxes. -/
structure Fa (w : World) (a b : Int) (L : List (Nat × Int × Int × ByteArray)) (W : World) : Prop where
  n : W.heap[w.heap.size]? = some (.cells #[.int .i64 a, .int .i64 b] 32 (0, 0))
  l : ∀ x ∈ L, blk W x.1 x.2.1 x.2.2.1 x.2.2.2
  g : Below w.heap.size w W
section
variable {w W W2 : World} {a b : Int} {L : List (Nat × Int × Int × ByteArray)}
theorem Fa.step (k : Below W.heap.size W W2) (h : Fa w a b L W) : Fa w a b L W2 := ⟨blk_below h.n k, fun x hx => blk_below (h.l x hx) k, below_step h.g k⟩
theorem Fa.drew (h : Fa w a b L W) : Fa w a b L W.drew := ⟨h.n, fun x hx => h.l x hx, Below.drew h.g⟩
theorem Fa.alloc (h : Fa w a b L W) (o : Obj) : Fa w a b L (W.alloc o) := ⟨blk_alloc h.n o, fun x hx => blk_alloc (h.l x hx) o, below_alloc h.g o⟩
theorem Fa.push (h : Fa w a b L W) (f n : Int) (t : ByteArray) : Fa w a b ((W.heap.size, f, n, t) :: L) (W.alloc (.cells #[.int .i64 f, .int .i64 n, .string t] 42)) := by
  refine ⟨blk_alloc h.n _, fun x hx => ?_, below_alloc h.g _⟩
  rcases List.mem_cons.1 hx with rfl | hx
  · exact (MapKept.heap_alloc W _).1
  · exact blk_alloc (h.l x hx) _
theorem Fa.get (h : Fa w a b L W) (p : Nat) (f n : Int) (t : ByteArray) (hx : (p, f, n, t) ∈ L) :
    W.cell? ⟨p, 0, none⟩ = some (.int .i64 f) ∧ W.cell? ⟨p, 1, none⟩ = some (.int .i64 n) ∧ W.cell? ⟨p, 2, none⟩ = some (.string t) := by
  obtain ⟨c0, c1, c2, _⟩ := cells3 (h.l _ hx)
  exact ⟨c0, c1, c2⟩
theorem Fa.nums (h : Fa w a b L W) : W.cell? ⟨w.heap.size, 0, none⟩ = some (.int .i64 a) ∧ W.cell? ⟨w.heap.size, 1, none⟩ = some (.int .i64 b) :=
  ⟨(blk_cell h.n 0).trans rfl, (blk_cell h.n 1).trans rfl⟩
end
theorem Fa.perm {w W : World} {a b : Int} {L L2 : List (Nat × Int × Int × ByteArray)} (h : Fa w a b L W) (hp : ∀ x ∈ L2, x ∈ L) : Fa w a b L2 W := ⟨h.n, fun x hx => h.l x (hp x hx), h.g⟩
theorem Fa.push2 {w W : World} {a b : Int} (h : Fa w a b [] W) (f n : Int) (t : ByteArray) (g m : Int) (u : ByteArray) : Fa w a b [(W.heap.size + 1, g, m, u), (W.heap.size, f, n, t)] ((W.alloc (.cells #[.int .i64 f, .int .i64 n, .string t] 42)).alloc (.cells #[.int .i64 g, .int .i64 m, .string u] 42)) := by
  have := (h.push f n t).push g m u
  rwa [show (W.alloc (.cells #[.int .i64 f, .int .i64 n, .string t] 42)).heap.size = W.heap.size + 1 by simp] at this
theorem Fa.grown {w W W2 : World} {a b : Int} {L : List (Nat × Int × Int × ByteArray)} {q : Nat} (h : Fa w a b L W) (k : W.grownBy W2 (some q)) (hq : w.heap.size < q) (hl : ∀ x ∈ L, x.1 ≠ q) : Fa w a b L W2 :=
  ⟨(k.block _ (blk_lt h.n) (fun e => by have := Option.some.inj e; omega)).trans h.n, fun x hx => (k.block _ (blk_lt (h.l x hx)) (fun e => hl x hx (Option.some.inj e))).trans (h.l x hx),
   h.g.grown k h.g.size (fun j hj => by cases hj; omega)⟩
theorem sz42 : k42.sz = 3 := rfl
/-- A row of one value. -/
theorem row1 {W : World} {p : Nat} {x : S42} (h : blk W p x.f0 x.f1 x.f2) : Kd.C k42 W (some ⟨p, 0, none⟩) ([x] : List S42).length [x] := by
  refine ⟨rfl, by simp, fun _ => ⟨_, rfl, fun j y hj => ?_⟩⟩
  match j, hj with
  | 0, hj =>
    obtain rfl : x = y := by simpa using hj
    refine ⟨_, rfl, k42_mk W _, fun i u hu => ?_⟩
    have := blk_cell h (0 * 3 + i)
    rw [show (⟨p, 0, none⟩ : Addr).add (0 * k42.sz + i) = ⟨p, 0 * 3 + i, none⟩ by (rw [sz42]; simp [Addr.add]; try (intro h_; omega))]
    rw [this]
    match i, hu with
    | 0, hu => simpa using hu
    | 1, hu => simpa using hu
    | 2, hu => simpa using hu
    | i + 3, hu => simp at hu
  | j + 1, hj => simp at hj
/-- The row of one value is the call's own. -/
theorem own1 {W : World} {p : Nat} {f n : Int} {t : ByteArray} (h : blk W p f n t) : W.ownsRow p 42 3 (.slice (some ⟨p, 0, none⟩) 1 1) 1 [.int .i64 f, .int .i64 n, .string t] :=
  ⟨by simp, .inr ⟨p, 1, #[.int .i64 f, .int .i64 n, .string t], rfl, Nat.le_refl _, h, Nat.le_refl _, by decide, rfl, by simp⟩⟩
theorem infoVal : (Try.prog.info? 42).map (fun i => (i.zero, i.size, i.bytes)) = some (some (.agg #[.int .i64 0, .int .i64 0, .string ByteArray.empty]), 3, 32) := by kernel_rfl
set_option maxRecDepth 100000 in
set_option maxHeartbeats 8000000 in
theorem walk_of (op name : ByteArray) (a b : Int) (w : World) (r1 r2 r3 m trap : Int) (ok is there : Bool) (s1 s2 s4 k : Int) (known : Bool)
    (I1 : ∀ W, Calls Try.prog 24 #[.string op, V 1 a E0, V 1 b E0] W fun e w' => e = .returned (VR (r1, r2, r3)) ∧ Below W.heap.size W w')
    (I2 : ∀ W, Calls Try.prog 12 #[.string op, .int .i64 a, .int .i64 b] W fun e w' => e = .returned (.tuple #[.int .i64 m, .int .i64 trap, .bool ok]) ∧ Below W.heap.size W w')
    (I3 : arith_Relate.f op a b = some (is, there)) (hF : First (r1, r2, r3) (m, trap, ok) is there)
    (I4 : consts_Call.f 50 name (args name a b) = some (s1, s2, E0, s4)) (I5 : arith_Call.f name a b = some (k, known)) (hS : Second s2 s4 k known) :
    Calls Try.prog 8 #[.string op, .string name, .agg #[.int .i64 a, .int .i64 b]] w fun e w' => e = .returned (.bool true) ∧ Below w.heap.size w w' := by
  have I1 := Aside0.mk I1
  have I2 := Aside0.mk I2
  have P3 := Aside0.mk I3
  have P4 := Aside0.mk I4
  have P5 := Aside0.mk I5
  have hF := Aside0.mk hF
  have hS := Aside0.mk hS
  clear I3 I4 I5
  go_enter Try.func8, Try.ntmps8
  have J : Fa w a b [] (w.alloc (.cells #[.int .i64 a, .int .i64 b] 32)) := ⟨(MapKept.heap_alloc w _).1, fun x hx => (by cases hx), below_alloc (Below.refl _ _) _⟩
  go_upto_region 1 with (fail)
  refine wp_of_world (fun W => Fa w a b [] W) J ?_
  clear J
  rintro W1 H
  have Hd := H.drew
  obtain ⟨c0, c1⟩ := H.nums
  go_cut [7, 8] (fun v7 v8 wc => ∃ p q, v7 = .pointer (some ⟨p, 0, none⟩) ∧ v8 = .pointer (some ⟨q, 0, none⟩) ∧ Aside0 (Fa w a b [(q, 1, b, E0), (p, 1, a, E0)] wc))
  case first =>
    have hlt : w.heap.size < W1.heap.size := blk_lt H.n
    have k0 := World.new_ne W1 ⟨w.heap.size, 0, none⟩ c0
    have k1 := World.new_ne W1 ⟨w.heap.size, 1, none⟩ c1
    go_region_held3? (fun w' => w'.cell? ⟨w.heap.size, 0, none⟩ = some (.int .i64 a) ∧ w'.cell? ⟨w.heap.size, 1, none⟩ = some (.int .i64 b)) (go_keep) (fail)
    all_goals
      go_wp2_with fail
      go_meet
      first
      | exact ⟨_, _, rfl, rfl, ⟨(H.push2 1 a E0 1 b E0).drew⟩⟩
      | exact ⟨_, _, rfl, rfl, ⟨(H.push2 1 b E0 1 a E0).drew.perm (fun x hx => by simp at hx ⊢; rcases hx with rfl | rfl <;> simp)⟩⟩
  case rest =>
  obtain ⟨p7, p8, rfl, rfl, HH⟩ := hcut
  clear c0 c1 H Hd
  obtain ⟨l00, l01, l02⟩ := HH.out.get p7 1 a E0 (by simp)
  obtain ⟨l10, l11, l12⟩ := HH.out.get p8 1 b E0 (by simp)
  go_wp2_with fail
  refine (I1.out _).mono ?_
  rintro e v2 ⟨rfl, hb⟩
  have H := Fa.step hb HH.out
  clear hb HH l00 l01 l02 l10 l11 l12
  have J := H.push r1 r2 E0
  clear H
  go_upto_region 3 with (fail)
  refine wp_of_world (fun W => Fa w a b [(v2.heap.size, r1, r2, E0), (p8, 1, b, E0), (p7, 1, a, E0)] W) J ?_
  clear J
  generalize v2.heap.size = p9 at *
  rintro W3 H
  obtain ⟨c0, c1⟩ := H.nums
  have HH := Aside0.mk H
  clear H
  go_wp2_with fail
  refine (I2.out _).mono ?_
  rintro e v3 ⟨rfl, hb⟩
  have H := Fa.step hb HH.out
  clear hb HH c0 c1
  obtain ⟨c0, c1⟩ := H.nums
  have HH := Aside0.mk H
  clear H
  go_wp2_with fail
  refine (arith_Relate.calls op a b is there _ P3.out).mono ?_
  rintro e v4 ⟨rfl, nd, rfl⟩
  have H := Fa.step (pw_below_drewN (Below.refl _ _) nd) HH.out
  generalize v3.drewN nd = W4 at *
  clear HH c0 c1
  go_upto_region 5 with (fail)
  obtain ⟨l00, l01, l02⟩ := H.get p9 r1 r2 E0 (by simp)
  have HH := Aside0.mk H
  clear H
  go_cut [101] (fun v wc => v = .bool false ∧ Aside0 (Fa w a b [(p9, r1, r2, E0), (p8, 1, b, E0), (p7, 1, a, E0)] wc))
  case first =>
    rcases hF.out with ⟨h1, h2⟩ | ⟨h1, h2⟩ | ⟨h1, h2, h3, h4, h5⟩ | ⟨h1, h2, h3, h4⟩
    · have d1 : (r3 == 0) = false := beq_eq_false_iff_ne.2 h1
      have d2 : (r3 == 121) = false := beq_eq_false_iff_ne.2 h2
      clear h1 h2
      go_wp2_with fail
      go_meet
      exact ⟨rfl, HH⟩
    · obtain rfl : r3 = 121 := h1
      obtain rfl : trap = 6 := h2
      go_wp2_with fail
      go_meet
      exact ⟨rfl, HH⟩
    · obtain rfl : r1 = 1 := h1
      obtain rfl : r3 = 0 := h2
      obtain rfl : ok = true := h3
      obtain rfl : trap = 0 := h4
      obtain rfl : m = r2 := h5
      go_wp2_with fail
      go_meet
      exact ⟨rfl, HH⟩
    · obtain rfl : r1 = 2 := h1
      obtain rfl : r3 = 0 := h2
      obtain rfl : there = true := h3
      obtain rfl : is = (r2 == 1) := h4
      go_wp2_with fail
      go_meet
      exact ⟨rfl, HH⟩
  case rest =>
  clear HH l00 l01 l02
  obtain ⟨rfl, HH⟩ := hcut
  obtain ⟨l00, l01, l02⟩ := HH.out.get p7 1 a E0 (by simp)
  have J := HH.out.push 1 a E0
  have hpl : Aside0 (w.heap.size < wc.heap.size ∧ p8 < wc.heap.size) := ⟨blk_lt HH.out.n, blk_lt (HH.out.l (p8, 1, b, E0) (by simp))⟩
  clear HH
  go_upto_region 8 with (fail)
  refine wp_of_world (fun W => Fa w a b [(wc.heap.size, 1, a, E0), (p9, r1, r2, E0), (p8, 1, b, E0), (p7, 1, a, E0)] W) J ?_
  clear J l00 l01 l02
  generalize wc.heap.size = pl at *
  rintro W8 H
  have HH := Aside0.mk H
  clear H
  have hcs : (name.toList = [76, 83, 76] ∨ name.toList = [65, 83, 82] ∨ name.toList = [82, 79, 82]) ∨ (name.toList ≠ [76, 83, 76] ∧ name.toList ≠ [65, 83, 82] ∧ name.toList ≠ [82, 79, 82]) := by
    by_cases h : name.toList = [76, 83, 76] ∨ name.toList = [65, 83, 82] ∨ name.toList = [82, 79, 82]
    · exact Or.inl h
    · exact Or.inr ⟨fun x => h (Or.inl x), fun x => h (Or.inr (Or.inl x)), fun x => h (Or.inr (Or.inr x))⟩
  obtain ⟨sh, hsh⟩ : ∃ sh : Bool, (sh = true ∧ (name.toList = [76, 83, 76] ∨ name.toList = [65, 83, 82] ∨ name.toList = [82, 79, 82])) ∨ (sh = false ∧ name.toList ≠ [76, 83, 76] ∧ name.toList ≠ [65, 83, 82] ∧ name.toList ≠ [82, 79, 82]) := by
    rcases hcs with h | h
    · exact ⟨true, Or.inl ⟨rfl, h⟩⟩
    · exact ⟨false, Or.inr ⟨rfl, h⟩⟩
  have hsh := Aside0.mk hsh
  clear hcs
  go_cut [113] (fun v wc => v = .bool sh ∧ Aside0 (Fa w a b [(pl, 1, a, E0), (p9, r1, r2, E0), (p8, 1, b, E0), (p7, 1, a, E0)] wc))
  case first =>
    rcases hsh.out with ⟨rfl, h | h | h⟩ | ⟨rfl, h1, h2, h3⟩
    · have d1 : (name.toList == [76, 83, 76]) = true := beq_iff_eq.2 h
      clear h
      go_wp2_with fail
      go_meet
      exact ⟨rfl, HH⟩
    · have d2 : (name.toList == [65, 83, 82]) = true := beq_iff_eq.2 h
      have d1 : (name.toList == [76, 83, 76]) = false := beq_eq_false_iff_ne.2 (by rw [h]; decide)
      clear h
      go_wp2_with fail
      go_meet
      exact ⟨rfl, HH⟩
    · have d3 : (name.toList == [82, 79, 82]) = true := beq_iff_eq.2 h
      have d1 : (name.toList == [76, 83, 76]) = false := beq_eq_false_iff_ne.2 (by rw [h]; decide)
      have d2 : (name.toList == [65, 83, 82]) = false := beq_eq_false_iff_ne.2 (by rw [h]; decide)
      clear h
      go_wp2_with fail
      go_meet
      exact ⟨rfl, HH⟩
    · have d1 : (name.toList == [76, 83, 76]) = false := beq_eq_false_iff_ne.2 h1
      have d2 : (name.toList == [65, 83, 82]) = false := beq_eq_false_iff_ne.2 h2
      have d3 : (name.toList == [82, 79, 82]) = false := beq_eq_false_iff_ne.2 h3
      clear h1 h2 h3
      go_wp2_with fail
      go_meet
      exact ⟨rfl, HH⟩
  case rest =>
  clear HH
  obtain ⟨rfl, HH⟩ := hcut
  have hargs : Aside0 ((sh = true → args name a b = [num a, num b]) ∧ (sh = false → args name a b = [num a])) := ⟨by
    unfold args
    rcases hsh.out with ⟨rfl, h⟩ | ⟨rfl, h1, h2, h3⟩
    · exact ⟨fun _ => if_pos h, fun h => by cases h⟩
    · exact ⟨fun h => (by cases h), fun _ => if_neg (by rintro (h | h | h); exact h1 h; exact h2 h; exact h3 h)⟩⟩
  clear hsh
  go_upto_if 113 with (fail)
  go_cut [16] (fun v wc => ∃ B c, v = .slice B (args name a b).length c ∧ (args name a b).length ≤ c ∧ Aside0 (Kd.C k42 wc B (args name a b).length (args name a b)) ∧ Aside0 (Fa w a b [] wc))
  case first =>
    cases sh
    · have ha := Aside0.mk (hargs.out.2 rfl)
      go_wp2_with fail
      go_meet
      rw [ha.out]
      exact ⟨_, _, rfl, Nat.le_refl _, ⟨row1 (x := num a) (HH.out.l (pl, 1, a, E0) (by simp))⟩, ⟨HH.out.perm (fun x hx => by cases hx)⟩⟩
    · have ha := Aside0.mk (hargs.out.1 rfl)
      obtain ⟨i0, hi, hz0, hz1, hz2⟩ := info_parts infoVal
      obtain ⟨l10, l11, l12⟩ := HH.out.get p8 1 b E0 (by simp)
      have hN := Aside0.mk (MapKept.heap_alloc wc (.cells #[.int .i64 1, .int .i64 b, .string E0] 42)).1
      have hO := Aside0.mk ((own1 (HH.out.l (pl, 1, a, E0) (by simp))).alloc (.cells #[.int .i64 1, .int .i64 b, .string E0] 42))
      have hlt := Aside0.mk (blk_lt (HH.out.l (pl, 1, a, E0) (by simp)))
      go_wp2_with (at_builtin; refine wpList_append_own _ rfl _ _ 46 rfl pl 42 i0 (.agg #[.int .i64 0, .int .i64 0, .string ByteArray.empty]) 3 32 Try.underlying46 hi hz0 hz1 hz2 rfl (by decide) _ _ _ rfl hO.out ⟨wc.heap.size, 0, none⟩ 1 1 [.int .i64 1, .int .i64 b, .string E0] rfl rfl ?c1 ?c2 ?c3 ?c4 ?c5 ?_)
      case c2 => exact ⟨rfl, rfl, rfl⟩
      case c3 => unfold maxLen; decide
      case c5 =>
        have := hlt.out
        simp
        omega
      intro v' w2 hown' hgrow hnil
      have hK : Reps (k42.K w2) k42.sz [num a, num b] [.int .i64 1, .int .i64 a, .string E0, .int .i64 1, .int .i64 b, .string E0] :=
        Reps.snoc (Reps.snoc (Reps.none (k42.K w2) k42.sz) (k42_mk w2 (num a)) rfl) (k42_mk w2 (num b)) rfl
      have hOR : OwnRow (k42.K w2) 42 k42.sz w2 pl v' [num a, num b] := ⟨_, by rw [sz42]; exact hown', hK⟩
      obtain ⟨B, c, rfl, hle, hR⟩ := hOR.reads
      have hq := hpl.out
      have HF : Aside0 (Fa w a b [] w2) := ⟨((HH.out.alloc (.cells #[.int .i64 1, .int .i64 b, .string E0] 42)).perm (L2 := []) (fun x hx => by cases hx)).grown hgrow hq.1 (fun x hx => by cases hx)⟩
      have hle := Aside0.mk hle
      have hR : Aside0 (Kd.C k42 w2 B ([num a, num b] : List S42).length [num a, num b]) := ⟨hR⟩
      clear hown' hgrow hnil hOR hK hq hi hz0 hz1 hz2 l10 l11 l12
      go_wp2_with fail
      go_meet
      rw [ha.out]
      exact ⟨_, _, rfl, hle.out, hR, HF⟩
  case rest =>
  clear HH hargs
  obtain ⟨B, c, rfl, hle, hC, HH⟩ := hcut
  have hle := Aside0.mk hle
  go_wp2_with fail
  refine (consts_Call.calls 50 name B c (args name a b) s1 s2 E0 s4 _ hC.out hle.out P4.out).mono ?_
  rintro e v5 ⟨rfl, hb⟩
  have H := Fa.step hb HH.out
  clear hb HH hC
  have J := H.push s1 s2 E0
  clear H
  go_upto_region 11 with (fail)
  refine wp_of_world (fun W => Fa w a b [(v5.heap.size, s1, s2, E0)] W) J ?_
  clear J
  generalize v5.heap.size = p17 at *
  rintro W11 H
  obtain ⟨c0, c1⟩ := H.nums
  have HH := Aside0.mk H
  clear H
  go_wp2_with fail
  refine (arith_Call.calls name a b k known _ P5.out).mono ?_
  rintro e v6 ⟨rfl, hb⟩
  have H := Fa.step hb HH.out
  clear hb HH c0 c1
  obtain ⟨l00, l01, l02⟩ := H.get p17 s1 s2 E0 (by simp)
  have HH := Aside0.mk H
  clear H
  by_cases hs4 : s4 = 0
  · subst hs4
    rcases hS.out with h | ⟨h1, h2⟩
    · exact absurd rfl h
    · obtain rfl : known = true := h1
      obtain rfl : k = s2 := h2
      go_wp2_with fail
      refine (wakes_any _).mono ?_
      rintro e v7 ⟨rfl, hb⟩
      have G := Aside0.mk (Fa.step hb HH.out).g
      clear hb HH l00 l01 l02
      go_wp2_with fail
      go_ret
      exact ⟨rfl, G.out⟩
  · have d1 : (s4 != 0) = true := bne_iff_ne.2 hs4
    have d2 : (s4 == 0) = false := beq_eq_false_iff_ne.2 hs4
    clear hs4
    go_wp2_with fail
    refine (wakes_any _).mono ?_
    rintro e v7 ⟨rfl, hb⟩
    have G := Aside0.mk (Fa.step hb HH.out).g
    clear hb HH l00 l01 l02
    go_wp2_with fail
    go_ret
    exact ⟨rfl, G.out⟩
theorem walk (op name : ByteArray) (a b : Int) (w : World) (hop : op.size ≤ 140737488351232) (a0 : -9223372036854775808 ≤ a) (a9 : a ≤ 9223372036854775807) (b0 : -9223372036854775808 ≤ b) (b9 : b ≤ 9223372036854775807) :
    Calls Try.prog 8 #[.string op, .string name, .agg #[.int .i64 a, .int .i64 b]] w fun e w' => e = .returned (.bool true) ∧ Below w.heap.size w w' := by
  have hop : op.size ≤ maxLen := by unfold maxLen; omega
  obtain ⟨⟨r1, r2, r3⟩, is, there, I1, I3, hF⟩ := first_any op a b hop
  obtain ⟨s1, s2, s4, k, known, I4, I5, hS⟩ := second_any name a b a0 a9 b0 b9
  exact walk_of op name a b w r1 r2 r3 _ _ _ is there s1 s2 s4 k known I1 (fun W => int_any op a b W hop) I3 hF I4 I5 hS
end Go.Proofs.Ytkkgocbecnefnaa.LawArithConsts
