/- What package alu's Do tells, by walks: one for each operation, with u and without. -/
import Derived.Test.YtbcoanjgpebedaaPAluDoesx1
import Derived.RegionTactic
import Derived.ChangeAlike
namespace Go.Proofs.Ytbcoanjgpebedaa.PAluDoes
open Go.RowKit Go.Proofs.YtbcoanjgpebedaaW.PrintWords Go.Proofs.YtbcoanjgpebedaaW.PrintLast Go.Proofs.YtbcoanjgpebedaaW.PrintMore
set_option linter.unusedVariables false
set_option linter.unusedSimpArgs false
/-! ### alu_Do: function 9 -/
mutual
def alu_Do.j0 : Nat → Int → Bool → Int → Int → Int → Int → Bool → Bool → Bool → Bool → Bool → Option (Int × Int × Bool × Bool × Bool × Bool × Bool)
  | 0, _, _, _, _, _, _, _, _, _, _, _ => none
  | k + 1, x0, x1, x2, x3, x4, x12, x37, x103000, x103001, x103002, x103003 => if x37 = true then (some (0, 0, false, false, false, false, false)) else (if x1 = true then (alu_Do.j1 k x0 x1 x2 x3 x4 x12 0 x103002 x103000 x103001 x103002 x103003) else (alu_Do.j1 k x0 x1 x2 x3 x4 x12 0 false x103000 x103001 x103002 x103003))
def alu_Do.j1 : Nat → Int → Bool → Int → Int → Int → Int → Int → Bool → Bool → Bool → Bool → Bool → Option (Int × Int × Bool × Bool × Bool × Bool × Bool)
  | 0, _, _, _, _, _, _, _, _, _, _, _, _ => none
  | k + 1, x0, x1, x2, x3, x4, x12, x16, x43, x103000, x103001, x103002, x103003 => if x43 = true then (alu_Do.j2 k x0 x1 x2 x3 x4 x12 1 x103000 x103001 x103002 x103003) else (alu_Do.j2 k x0 x1 x2 x3 x4 x12 x16 x103000 x103001 x103002 x103003)
def alu_Do.j2 : Nat → Int → Bool → Int → Int → Int → Int → Int → Bool → Bool → Bool → Bool → Option (Int × Int × Bool × Bool × Bool × Bool × Bool)
  | 0, _, _, _, _, _, _, _, _, _, _, _ => none
  | k + 1, x0, x1, x2, x3, x4, x12, x16, x103000, x103001, x103002, x103003 => if x0 = 0 then (if x1 = true then (some (x4, x4, ((x4 / 2147483648) == 1), (x4 == 0), x103002, x103003, true)) else (some (x3, x4, ((x3 / 2147483648) == 1), (x3 == 0), x103002, x103003, true))) else (if x0 = 1 then ((bits_Lsl.f x2 x3).bind fun t104 => (some (t104, x4, ((t104 / 2147483648) == 1), (t104 == 0), x103002, x103003, true))) else (if x0 = 2 then ((bits_Asr.f x2 x3).bind fun t105 => (some (t105, x4, ((t105 / 2147483648) == 1), (t105 == 0), x103002, x103003, true))) else (if x0 = 3 then ((bits_Ror.f x2 x3).bind fun t106 => (some (t106, x4, ((t106 / 2147483648) == 1), (t106 == 0), x103002, x103003, true))) else (if x0 = 4 then (some (Go.bits .and .u32 x2 x3, x4, (((Go.bits .and .u32 x2 x3) / 2147483648) == 1), ((Go.bits .and .u32 x2 x3) == 0), x103002, x103003, true)) else (if x0 = 5 then (some (Go.bits .andNot .u32 x2 x3, x4, (((Go.bits .andNot .u32 x2 x3) / 2147483648) == 1), ((Go.bits .andNot .u32 x2 x3) == 0), x103002, x103003, true)) else (if x0 = 6 then (some (Go.bits .or .u32 x2 x3, x4, (((Go.bits .or .u32 x2 x3) / 2147483648) == 1), ((Go.bits .or .u32 x2 x3) == 0), x103002, x103003, true)) else (if x0 = 7 then (some (Go.bits .xor .u32 x2 x3, x4, (((Go.bits .xor .u32 x2 x3) / 2147483648) == 1), ((Go.bits .xor .u32 x2 x3) == 0), x103002, x103003, true)) else (if x0 = 8 then ((alu_over.f (wrap64 ((wrap64 ((wrap64 (wrap32 (x2))) + (wrap64 (wrap32 (x3))))) + (wrap64 (x16))))).bind fun t107 => (some ((((x2 + x3) % 4294967296) + x16) % 4294967296, x4, ((((((x2 + x3) % 4294967296) + x16) % 4294967296) / 2147483648) == 1), (((((x2 + x3) % 4294967296) + x16) % 4294967296) == 0), decide ((IntKind.u64.wrap ((IntKind.u64.wrap ((IntKind.u64.wrap (x2)) + (IntKind.u64.wrap (x3)))) + (IntKind.u64.wrap (x16)))) ≥ 4294967296), t107, true))) else (if x0 = 9 then ((alu_over.f (wrap64 ((wrap64 ((wrap64 (wrap32 (x2))) - (wrap64 (wrap32 (x3))))) - (wrap64 (x16))))).bind fun t108 => (some ((((x2 - x3) % 4294967296) - x16) % 4294967296, x4, ((((((x2 - x3) % 4294967296) - x16) % 4294967296) / 2147483648) == 1), (((((x2 - x3) % 4294967296) - x16) % 4294967296) == 0), decide ((IntKind.u64.wrap (x2)) < (IntKind.u64.wrap ((IntKind.u64.wrap (x3)) + (IntKind.u64.wrap (x16))))), t108, true))) else (if x0 = 10 then ((alu_product.f x1 x2 x3).bind fun bt109 => (some (bt109.1, bt109.2, ((bt109.1 / 2147483648) == 1), (bt109.1 == 0), x103002, x103003, true))) else (if x0 = 11 then ((alu_quotient.f x2 x3).bind fun bt111 => (some (bt111.1, bt111.2, ((bt111.1 / 2147483648) == 1), (bt111.1 == 0), x103002, x103003, true))) else (some (x12, x4, ((x12 / 2147483648) == 1), (x12 == 0), x103002, x103003, true)))))))))))))
end
def alu_Do.f (k : Nat) (a0 : Int) (a1 : Bool) (a2 : Int) (a3 : Int) (a4 : Int) (a5_0 : Bool) (a5_1 : Bool) (a5_2 : Bool) (a5_3 : Bool) : Option (Int × Int × Bool × Bool × Bool × Bool × Bool) := if a0 < 0 then (alu_Do.j0 k a0 a1 a2 a3 a4 0 true a5_0 a5_1 a5_2 a5_3) else (if a0 > 11 then (alu_Do.j0 k a0 a1 a2 a3 a4 0 true a5_0 a5_1 a5_2 a5_3) else (if a1 = true then (if a0 = 0 then (alu_Do.j0 k a0 a1 a2 a3 a4 0 false a5_0 a5_1 a5_2 a5_3) else (if a0 < 8 then (alu_Do.j0 k a0 a1 a2 a3 a4 0 true a5_0 a5_1 a5_2 a5_3) else (alu_Do.j0 k a0 a1 a2 a3 a4 0 (decide (a0 > 10)) a5_0 a5_1 a5_2 a5_3))) else (alu_Do.j0 k a0 a1 a2 a3 a4 0 false a5_0 a5_1 a5_2 a5_3)))
theorem alu_Do.mono_l : ∀ k, (∀ y0 y1 y2 y3 y4 y5 y6 y7 y8 y9 y10, LeO (alu_Do.j0 k y0 y1 y2 y3 y4 y5 y6 y7 y8 y9 y10) (alu_Do.j0 (k + 1) y0 y1 y2 y3 y4 y5 y6 y7 y8 y9 y10)) ∧ (∀ y0 y1 y2 y3 y4 y5 y6 y7 y8 y9 y10 y11, LeO (alu_Do.j1 k y0 y1 y2 y3 y4 y5 y6 y7 y8 y9 y10 y11) (alu_Do.j1 (k + 1) y0 y1 y2 y3 y4 y5 y6 y7 y8 y9 y10 y11)) ∧ (∀ y0 y1 y2 y3 y4 y5 y6 y7 y8 y9 y10, LeO (alu_Do.j2 k y0 y1 y2 y3 y4 y5 y6 y7 y8 y9 y10) (alu_Do.j2 (k + 1) y0 y1 y2 y3 y4 y5 y6 y7 y8 y9 y10))
  | 0 => ⟨fun _ _ _ _ _ _ _ _ _ _ _ r h => by simp [alu_Do.j0] at h, fun _ _ _ _ _ _ _ _ _ _ _ _ r h => by simp [alu_Do.j1] at h, fun _ _ _ _ _ _ _ _ _ _ _ r h => by simp [alu_Do.j2] at h⟩
  | k + 1 => by
    obtain ⟨ih0, ih1, ih2⟩ := alu_Do.mono_l k
    refine ⟨?_, ?_, ?_⟩
    · intro y0 y1 y2 y3 y4 y5 y6 y7 y8 y9 y10
      unfold alu_Do.j0
      repeat' first
      | (with_reducible exact ih0 _ _ _ _ _ _ _ _ _ _ _)
      | (with_reducible exact ih1 _ _ _ _ _ _ _ _ _ _ _ _)
      | (with_reducible exact ih2 _ _ _ _ _ _ _ _ _ _ _)
      | (with_reducible exact LeO.refl _)
      | (with_reducible exact LeO.none _)
      | (with_reducible refine LeO.ite ?_ ?_)
      | (with_reducible refine LeO.bind ?_ (fun _ => ?_))
      | exact ih0 _ _ _ _ _ _ _ _ _ _ _
      | exact ih1 _ _ _ _ _ _ _ _ _ _ _ _
      | exact ih2 _ _ _ _ _ _ _ _ _ _ _
      | exact LeO.none _
      | refine LeO.ite ?_ ?_
      | refine LeO.bind ?_ (fun _ => ?_)
    · intro y0 y1 y2 y3 y4 y5 y6 y7 y8 y9 y10 y11
      unfold alu_Do.j1
      repeat' first
      | (with_reducible exact ih0 _ _ _ _ _ _ _ _ _ _ _)
      | (with_reducible exact ih1 _ _ _ _ _ _ _ _ _ _ _ _)
      | (with_reducible exact ih2 _ _ _ _ _ _ _ _ _ _ _)
      | (with_reducible exact LeO.refl _)
      | (with_reducible exact LeO.none _)
      | (with_reducible refine LeO.ite ?_ ?_)
      | (with_reducible refine LeO.bind ?_ (fun _ => ?_))
      | exact ih0 _ _ _ _ _ _ _ _ _ _ _
      | exact ih1 _ _ _ _ _ _ _ _ _ _ _ _
      | exact ih2 _ _ _ _ _ _ _ _ _ _ _
      | exact LeO.none _
      | refine LeO.ite ?_ ?_
      | refine LeO.bind ?_ (fun _ => ?_)
    · intro y0 y1 y2 y3 y4 y5 y6 y7 y8 y9 y10
      unfold alu_Do.j2
      repeat' first
      | (with_reducible exact ih0 _ _ _ _ _ _ _ _ _ _ _)
      | (with_reducible exact ih1 _ _ _ _ _ _ _ _ _ _ _ _)
      | (with_reducible exact ih2 _ _ _ _ _ _ _ _ _ _ _)
      | (with_reducible exact LeO.refl _)
      | (with_reducible exact LeO.none _)
      | (with_reducible refine LeO.ite ?_ ?_)
      | (with_reducible refine LeO.bind ?_ (fun _ => ?_))
      | exact ih0 _ _ _ _ _ _ _ _ _ _ _
      | exact ih1 _ _ _ _ _ _ _ _ _ _ _ _
      | exact ih2 _ _ _ _ _ _ _ _ _ _ _
      | exact LeO.none _
      | refine LeO.ite ?_ ?_
      | refine LeO.bind ?_ (fun _ => ?_)
theorem alu_Do.mono : ∀ a0 a1 a2 a3 a4 a5 a6 a7 a8 k, LeO (alu_Do.f k a0 a1 a2 a3 a4 a5 a6 a7 a8) (alu_Do.f (k + 1) a0 a1 a2 a3 a4 a5 a6 a7 a8) := by
  intro a0 a1 a2 a3 a4 a5 a6 a7 a8 k
  obtain ⟨ih0, ih1, ih2⟩ := alu_Do.mono_l k
  unfold alu_Do.f
  repeat' first
      | (with_reducible exact ih0 _ _ _ _ _ _ _ _ _ _ _)
      | (with_reducible exact ih1 _ _ _ _ _ _ _ _ _ _ _ _)
      | (with_reducible exact ih2 _ _ _ _ _ _ _ _ _ _ _)
      | (with_reducible exact LeO.refl _)
      | (with_reducible exact LeO.none _)
      | (with_reducible refine LeO.ite ?_ ?_)
      | (with_reducible refine LeO.bind ?_ (fun _ => ?_))
      | exact ih0 _ _ _ _ _ _ _ _ _ _ _
      | exact ih1 _ _ _ _ _ _ _ _ _ _ _ _
      | exact ih2 _ _ _ _ _ _ _ _ _ _ _
      | exact LeO.none _
      | refine LeO.ite ?_ ?_
      | refine LeO.bind ?_ (fun _ => ?_)

theorem w64z : wrap64 0 = 0 := by decide +kernel
theorem w64o : wrap64 1 = 1 := by decide +kernel
theorem u64z : IntKind.u64.wrap 0 = 0 := by decide +kernel
theorem u64o : IntKind.u64.wrap 1 = 1 := by decide +kernel
theorem w64i (n : Int) : wrap64 (wrap64 n) = wrap64 n := by unfold wrap64; omega
theorem u64i (n : Int) : IntKind.u64.wrap (IntKind.u64.wrap n) = IntKind.u64.wrap n := by rw [IntKind.wrap_u64, IntKind.wrap_u64]; omega
set_option maxRecDepth 100000 in
set_option maxHeartbeats 2000000 in
theorem do_0_f (k : Nat) (b n h : Int) (N Z C V : Bool) (r1 r2 : Int) (r3 r4 r5 r6 r7 : Bool) (w : World) (H : alu_Do.j2 (k + 1) 0 false b n h 0 0 N Z C V = some (r1, r2, r3, r4, r5, r6, r7)) :
    Calls Try.prog 9 #[.int .i64 0, .bool false, .int .u32 b, .int .u32 n, .int .u32 h, .agg #[.bool N, .bool Z, .bool C, .bool V]] w fun e w' => e = .returned (.tuple #[.int .u32 r1, .int .u32 r2, .agg #[.bool r3, .bool r4, .bool r5, .bool r6], .bool r7]) ∧ Below w.heap.size w w' := by
  simp only [alu_Do.j2, alu_over.f, Int.reduceEq, Bool.false_eq_true, reduceIte, Option.bind_some] at H
  obtain ⟨rfl, rfl, rfl, rfl, rfl, rfl, rfl⟩ : _ = r1 ∧ _ = r2 ∧ _ = r3 ∧ _ = r4 ∧ _ = r5 ∧ _ = r6 ∧ _ = r7 := by simpa only [Option.some.injEq, Prod.mk.injEq] using H
  clear H
  go_enter Try.func9, Try.ntmps9
  go_wp2
  go_region
  all_goals go_wp2
  refine bodyPost_ret (v := _) (by simp [results, Try.results9, go_sem]; rfl) rfl ⟨?_, ?_⟩
  · first | rfl | (simp [w64z, w64o, u64z, u64o, w64i, u64i]; done) | (simp [w64z, w64o, u64z, u64o, w64i, u64i] <;> omega)
  · exact by repeat (first | (with_reducible exact Below.refl _ _) | (with_reducible apply below_alloc) | (with_reducible apply pw_below_drewN) | (with_reducible apply Below.drew) | (refine Below.setCell ?_ (by first | exact Nat.le_refl _ | exact Nat.le_succ _) _))

set_option maxRecDepth 100000 in
set_option maxHeartbeats 2000000 in
theorem do_0_u_n (k : Nat) (b n h : Int) (N Z V : Bool) (r1 r2 : Int) (r3 r4 r5 r6 r7 : Bool) (w : World) (H : alu_Do.j2 (k + 1) 0 true b n h 0 0 N Z false V = some (r1, r2, r3, r4, r5, r6, r7)) :
    Calls Try.prog 9 #[.int .i64 0, .bool true, .int .u32 b, .int .u32 n, .int .u32 h, .agg #[.bool N, .bool Z, .bool false, .bool V]] w fun e w' => e = .returned (.tuple #[.int .u32 r1, .int .u32 r2, .agg #[.bool r3, .bool r4, .bool r5, .bool r6], .bool r7]) ∧ Below w.heap.size w w' := by
  simp only [alu_Do.j2, alu_over.f, Int.reduceEq, Bool.false_eq_true, reduceIte, Option.bind_some] at H
  obtain ⟨rfl, rfl, rfl, rfl, rfl, rfl, rfl⟩ : _ = r1 ∧ _ = r2 ∧ _ = r3 ∧ _ = r4 ∧ _ = r5 ∧ _ = r6 ∧ _ = r7 := by simpa only [Option.some.injEq, Prod.mk.injEq] using H
  clear H
  go_enter Try.func9, Try.ntmps9
  go_wp2
  go_region
  all_goals go_wp2
  refine bodyPost_ret (v := _) (by simp [results, Try.results9, go_sem]; rfl) rfl ⟨?_, ?_⟩
  · first | rfl | (simp [w64z, w64o, u64z, u64o, w64i, u64i]; done) | (simp [w64z, w64o, u64z, u64o, w64i, u64i] <;> omega)
  · exact by repeat (first | (with_reducible exact Below.refl _ _) | (with_reducible apply below_alloc) | (with_reducible apply pw_below_drewN) | (with_reducible apply Below.drew) | (refine Below.setCell ?_ (by first | exact Nat.le_refl _ | exact Nat.le_succ _) _))

set_option maxRecDepth 100000 in
set_option maxHeartbeats 2000000 in
theorem do_0_u_c (k : Nat) (b n h : Int) (N Z V : Bool) (r1 r2 : Int) (r3 r4 r5 r6 r7 : Bool) (w : World) (H : alu_Do.j2 (k + 1) 0 true b n h 0 1 N Z true V = some (r1, r2, r3, r4, r5, r6, r7)) :
    Calls Try.prog 9 #[.int .i64 0, .bool true, .int .u32 b, .int .u32 n, .int .u32 h, .agg #[.bool N, .bool Z, .bool true, .bool V]] w fun e w' => e = .returned (.tuple #[.int .u32 r1, .int .u32 r2, .agg #[.bool r3, .bool r4, .bool r5, .bool r6], .bool r7]) ∧ Below w.heap.size w w' := by
  simp only [alu_Do.j2, alu_over.f, Int.reduceEq, Bool.false_eq_true, reduceIte, Option.bind_some] at H
  obtain ⟨rfl, rfl, rfl, rfl, rfl, rfl, rfl⟩ : _ = r1 ∧ _ = r2 ∧ _ = r3 ∧ _ = r4 ∧ _ = r5 ∧ _ = r6 ∧ _ = r7 := by simpa only [Option.some.injEq, Prod.mk.injEq] using H
  clear H
  go_enter Try.func9, Try.ntmps9
  go_wp2
  go_region
  all_goals go_wp2
  refine bodyPost_ret (v := _) (by simp [results, Try.results9, go_sem]; rfl) rfl ⟨?_, ?_⟩
  · first | rfl | (simp [w64z, w64o, u64z, u64o, w64i, u64i]; done) | (simp [w64z, w64o, u64z, u64o, w64i, u64i] <;> omega)
  · exact by repeat (first | (with_reducible exact Below.refl _ _) | (with_reducible apply below_alloc) | (with_reducible apply pw_below_drewN) | (with_reducible apply Below.drew) | (refine Below.setCell ?_ (by first | exact Nat.le_refl _ | exact Nat.le_succ _) _))

set_option maxRecDepth 100000 in
set_option maxHeartbeats 2000000 in
theorem do_1_f (k : Nat) (b n h : Int) (N Z C V : Bool) (r1 r2 : Int) (r3 r4 r5 r6 r7 : Bool) (w : World) (H : alu_Do.j2 (k + 1) 1 false b n h 0 0 N Z C V = some (r1, r2, r3, r4, r5, r6, r7)) :
    Calls Try.prog 9 #[.int .i64 1, .bool false, .int .u32 b, .int .u32 n, .int .u32 h, .agg #[.bool N, .bool Z, .bool C, .bool V]] w fun e w' => e = .returned (.tuple #[.int .u32 r1, .int .u32 r2, .agg #[.bool r3, .bool r4, .bool r5, .bool r6], .bool r7]) ∧ Below w.heap.size w w' := by
  simp only [alu_Do.j2, alu_over.f, Int.reduceEq, Bool.false_eq_true, reduceIte, Option.bind_some] at H
  obtain ⟨t, A0, H⟩ := Option.bind_eq_some_iff.mp H
  have A := Aside0.mk A0
  clear A0
  obtain ⟨rfl, rfl, rfl, rfl, rfl, rfl, rfl⟩ : _ = r1 ∧ _ = r2 ∧ _ = r3 ∧ _ = r4 ∧ _ = r5 ∧ _ = r6 ∧ _ = r7 := by simpa only [Option.some.injEq, Prod.mk.injEq] using H
  clear H
  go_enter Try.func9, Try.ntmps9
  go_wp2_with (go_at_call 15; refine (bits_Lsl.calls _ _ t _ A.out).mono ?_; rintro e w' ⟨rfl, nd, rfl⟩)
  go_region
  all_goals go_wp2
  refine bodyPost_ret (v := _) (by simp [results, Try.results9, go_sem]; rfl) rfl ⟨?_, ?_⟩
  · first | rfl | (simp [w64z, w64o, u64z, u64o, w64i, u64i]; done) | (simp [w64z, w64o, u64z, u64o, w64i, u64i] <;> omega)
  · exact by repeat (first | (with_reducible exact Below.refl _ _) | (with_reducible apply below_alloc) | (with_reducible apply pw_below_drewN) | (with_reducible apply Below.drew) | (refine Below.setCell ?_ (by first | exact Nat.le_refl _ | exact Nat.le_succ _) _))

set_option maxRecDepth 100000 in
set_option maxHeartbeats 2000000 in
theorem do_2_f (k : Nat) (b n h : Int) (N Z C V : Bool) (r1 r2 : Int) (r3 r4 r5 r6 r7 : Bool) (w : World) (H : alu_Do.j2 (k + 1) 2 false b n h 0 0 N Z C V = some (r1, r2, r3, r4, r5, r6, r7)) :
    Calls Try.prog 9 #[.int .i64 2, .bool false, .int .u32 b, .int .u32 n, .int .u32 h, .agg #[.bool N, .bool Z, .bool C, .bool V]] w fun e w' => e = .returned (.tuple #[.int .u32 r1, .int .u32 r2, .agg #[.bool r3, .bool r4, .bool r5, .bool r6], .bool r7]) ∧ Below w.heap.size w w' := by
  simp only [alu_Do.j2, alu_over.f, Int.reduceEq, Bool.false_eq_true, reduceIte, Option.bind_some] at H
  obtain ⟨t, A0, H⟩ := Option.bind_eq_some_iff.mp H
  have A := Aside0.mk A0
  clear A0
  obtain ⟨rfl, rfl, rfl, rfl, rfl, rfl, rfl⟩ : _ = r1 ∧ _ = r2 ∧ _ = r3 ∧ _ = r4 ∧ _ = r5 ∧ _ = r6 ∧ _ = r7 := by simpa only [Option.some.injEq, Prod.mk.injEq] using H
  clear H
  go_enter Try.func9, Try.ntmps9
  go_wp2_with (go_at_call 16; refine (bits_Asr.calls _ _ t _ A.out).mono ?_; rintro e w' ⟨rfl, nd, rfl⟩)
  go_region
  all_goals go_wp2
  refine bodyPost_ret (v := _) (by simp [results, Try.results9, go_sem]; rfl) rfl ⟨?_, ?_⟩
  · first | rfl | (simp [w64z, w64o, u64z, u64o, w64i, u64i]; done) | (simp [w64z, w64o, u64z, u64o, w64i, u64i] <;> omega)
  · exact by repeat (first | (with_reducible exact Below.refl _ _) | (with_reducible apply below_alloc) | (with_reducible apply pw_below_drewN) | (with_reducible apply Below.drew) | (refine Below.setCell ?_ (by first | exact Nat.le_refl _ | exact Nat.le_succ _) _))

set_option maxRecDepth 100000 in
set_option maxHeartbeats 2000000 in
theorem do_3_f (k : Nat) (b n h : Int) (N Z C V : Bool) (r1 r2 : Int) (r3 r4 r5 r6 r7 : Bool) (w : World) (H : alu_Do.j2 (k + 1) 3 false b n h 0 0 N Z C V = some (r1, r2, r3, r4, r5, r6, r7)) :
    Calls Try.prog 9 #[.int .i64 3, .bool false, .int .u32 b, .int .u32 n, .int .u32 h, .agg #[.bool N, .bool Z, .bool C, .bool V]] w fun e w' => e = .returned (.tuple #[.int .u32 r1, .int .u32 r2, .agg #[.bool r3, .bool r4, .bool r5, .bool r6], .bool r7]) ∧ Below w.heap.size w w' := by
  simp only [alu_Do.j2, alu_over.f, Int.reduceEq, Bool.false_eq_true, reduceIte, Option.bind_some] at H
  obtain ⟨t, A0, H⟩ := Option.bind_eq_some_iff.mp H
  have A := Aside0.mk A0
  clear A0
  obtain ⟨rfl, rfl, rfl, rfl, rfl, rfl, rfl⟩ : _ = r1 ∧ _ = r2 ∧ _ = r3 ∧ _ = r4 ∧ _ = r5 ∧ _ = r6 ∧ _ = r7 := by simpa only [Option.some.injEq, Prod.mk.injEq] using H
  clear H
  go_enter Try.func9, Try.ntmps9
  go_wp2_with (go_at_call 17; refine (bits_Ror.calls _ _ t _ A.out).mono ?_; rintro e w' ⟨rfl, nd, rfl⟩)
  go_region
  all_goals go_wp2
  refine bodyPost_ret (v := _) (by simp [results, Try.results9, go_sem]; rfl) rfl ⟨?_, ?_⟩
  · first | rfl | (simp [w64z, w64o, u64z, u64o, w64i, u64i]; done) | (simp [w64z, w64o, u64z, u64o, w64i, u64i] <;> omega)
  · exact by repeat (first | (with_reducible exact Below.refl _ _) | (with_reducible apply below_alloc) | (with_reducible apply pw_below_drewN) | (with_reducible apply Below.drew) | (refine Below.setCell ?_ (by first | exact Nat.le_refl _ | exact Nat.le_succ _) _))

set_option maxRecDepth 100000 in
set_option maxHeartbeats 2000000 in
theorem do_4_f (k : Nat) (b n h : Int) (N Z C V : Bool) (r1 r2 : Int) (r3 r4 r5 r6 r7 : Bool) (w : World) (H : alu_Do.j2 (k + 1) 4 false b n h 0 0 N Z C V = some (r1, r2, r3, r4, r5, r6, r7)) :
    Calls Try.prog 9 #[.int .i64 4, .bool false, .int .u32 b, .int .u32 n, .int .u32 h, .agg #[.bool N, .bool Z, .bool C, .bool V]] w fun e w' => e = .returned (.tuple #[.int .u32 r1, .int .u32 r2, .agg #[.bool r3, .bool r4, .bool r5, .bool r6], .bool r7]) ∧ Below w.heap.size w w' := by
  simp only [alu_Do.j2, alu_over.f, Int.reduceEq, Bool.false_eq_true, reduceIte, Option.bind_some] at H
  obtain ⟨rfl, rfl, rfl, rfl, rfl, rfl, rfl⟩ : _ = r1 ∧ _ = r2 ∧ _ = r3 ∧ _ = r4 ∧ _ = r5 ∧ _ = r6 ∧ _ = r7 := by simpa only [Option.some.injEq, Prod.mk.injEq] using H
  clear H
  go_enter Try.func9, Try.ntmps9
  go_wp2
  go_region
  all_goals go_wp2
  refine bodyPost_ret (v := _) (by simp [results, Try.results9, go_sem]; rfl) rfl ⟨?_, ?_⟩
  · first | rfl | (simp [w64z, w64o, u64z, u64o, w64i, u64i]; done) | (simp [w64z, w64o, u64z, u64o, w64i, u64i] <;> omega)
  · exact by repeat (first | (with_reducible exact Below.refl _ _) | (with_reducible apply below_alloc) | (with_reducible apply pw_below_drewN) | (with_reducible apply Below.drew) | (refine Below.setCell ?_ (by first | exact Nat.le_refl _ | exact Nat.le_succ _) _))

set_option maxRecDepth 100000 in
set_option maxHeartbeats 2000000 in
theorem do_5_f (k : Nat) (b n h : Int) (N Z C V : Bool) (r1 r2 : Int) (r3 r4 r5 r6 r7 : Bool) (w : World) (H : alu_Do.j2 (k + 1) 5 false b n h 0 0 N Z C V = some (r1, r2, r3, r4, r5, r6, r7)) :
    Calls Try.prog 9 #[.int .i64 5, .bool false, .int .u32 b, .int .u32 n, .int .u32 h, .agg #[.bool N, .bool Z, .bool C, .bool V]] w fun e w' => e = .returned (.tuple #[.int .u32 r1, .int .u32 r2, .agg #[.bool r3, .bool r4, .bool r5, .bool r6], .bool r7]) ∧ Below w.heap.size w w' := by
  simp only [alu_Do.j2, alu_over.f, Int.reduceEq, Bool.false_eq_true, reduceIte, Option.bind_some] at H
  obtain ⟨rfl, rfl, rfl, rfl, rfl, rfl, rfl⟩ : _ = r1 ∧ _ = r2 ∧ _ = r3 ∧ _ = r4 ∧ _ = r5 ∧ _ = r6 ∧ _ = r7 := by simpa only [Option.some.injEq, Prod.mk.injEq] using H
  clear H
  go_enter Try.func9, Try.ntmps9
  go_wp2
  go_region
  all_goals go_wp2
  refine bodyPost_ret (v := _) (by simp [results, Try.results9, go_sem]; rfl) rfl ⟨?_, ?_⟩
  · first | rfl | (simp [w64z, w64o, u64z, u64o, w64i, u64i]; done) | (simp [w64z, w64o, u64z, u64o, w64i, u64i] <;> omega)
  · exact by repeat (first | (with_reducible exact Below.refl _ _) | (with_reducible apply below_alloc) | (with_reducible apply pw_below_drewN) | (with_reducible apply Below.drew) | (refine Below.setCell ?_ (by first | exact Nat.le_refl _ | exact Nat.le_succ _) _))

set_option maxRecDepth 100000 in
set_option maxHeartbeats 2000000 in
theorem do_6_f (k : Nat) (b n h : Int) (N Z C V : Bool) (r1 r2 : Int) (r3 r4 r5 r6 r7 : Bool) (w : World) (H : alu_Do.j2 (k + 1) 6 false b n h 0 0 N Z C V = some (r1, r2, r3, r4, r5, r6, r7)) :
    Calls Try.prog 9 #[.int .i64 6, .bool false, .int .u32 b, .int .u32 n, .int .u32 h, .agg #[.bool N, .bool Z, .bool C, .bool V]] w fun e w' => e = .returned (.tuple #[.int .u32 r1, .int .u32 r2, .agg #[.bool r3, .bool r4, .bool r5, .bool r6], .bool r7]) ∧ Below w.heap.size w w' := by
  simp only [alu_Do.j2, alu_over.f, Int.reduceEq, Bool.false_eq_true, reduceIte, Option.bind_some] at H
  obtain ⟨rfl, rfl, rfl, rfl, rfl, rfl, rfl⟩ : _ = r1 ∧ _ = r2 ∧ _ = r3 ∧ _ = r4 ∧ _ = r5 ∧ _ = r6 ∧ _ = r7 := by simpa only [Option.some.injEq, Prod.mk.injEq] using H
  clear H
  go_enter Try.func9, Try.ntmps9
  go_wp2
  go_region
  all_goals go_wp2
  refine bodyPost_ret (v := _) (by simp [results, Try.results9, go_sem]; rfl) rfl ⟨?_, ?_⟩
  · first | rfl | (simp [w64z, w64o, u64z, u64o, w64i, u64i]; done) | (simp [w64z, w64o, u64z, u64o, w64i, u64i] <;> omega)
  · exact by repeat (first | (with_reducible exact Below.refl _ _) | (with_reducible apply below_alloc) | (with_reducible apply pw_below_drewN) | (with_reducible apply Below.drew) | (refine Below.setCell ?_ (by first | exact Nat.le_refl _ | exact Nat.le_succ _) _))

set_option maxRecDepth 100000 in
set_option maxHeartbeats 2000000 in
theorem do_7_f (k : Nat) (b n h : Int) (N Z C V : Bool) (r1 r2 : Int) (r3 r4 r5 r6 r7 : Bool) (w : World) (H : alu_Do.j2 (k + 1) 7 false b n h 0 0 N Z C V = some (r1, r2, r3, r4, r5, r6, r7)) :
    Calls Try.prog 9 #[.int .i64 7, .bool false, .int .u32 b, .int .u32 n, .int .u32 h, .agg #[.bool N, .bool Z, .bool C, .bool V]] w fun e w' => e = .returned (.tuple #[.int .u32 r1, .int .u32 r2, .agg #[.bool r3, .bool r4, .bool r5, .bool r6], .bool r7]) ∧ Below w.heap.size w w' := by
  simp only [alu_Do.j2, alu_over.f, Int.reduceEq, Bool.false_eq_true, reduceIte, Option.bind_some] at H
  obtain ⟨rfl, rfl, rfl, rfl, rfl, rfl, rfl⟩ : _ = r1 ∧ _ = r2 ∧ _ = r3 ∧ _ = r4 ∧ _ = r5 ∧ _ = r6 ∧ _ = r7 := by simpa only [Option.some.injEq, Prod.mk.injEq] using H
  clear H
  go_enter Try.func9, Try.ntmps9
  go_wp2
  go_region
  all_goals go_wp2
  refine bodyPost_ret (v := _) (by simp [results, Try.results9, go_sem]; rfl) rfl ⟨?_, ?_⟩
  · first | rfl | (simp [w64z, w64o, u64z, u64o, w64i, u64i]; done) | (simp [w64z, w64o, u64z, u64o, w64i, u64i] <;> omega)
  · exact by repeat (first | (with_reducible exact Below.refl _ _) | (with_reducible apply below_alloc) | (with_reducible apply pw_below_drewN) | (with_reducible apply Below.drew) | (refine Below.setCell ?_ (by first | exact Nat.le_refl _ | exact Nat.le_succ _) _))

set_option maxRecDepth 100000 in
set_option maxHeartbeats 2000000 in
theorem do_8_f (k : Nat) (b n h : Int) (N Z C V : Bool) (r1 r2 : Int) (r3 r4 r5 r6 r7 : Bool) (w : World) (H : alu_Do.j2 (k + 1) 8 false b n h 0 0 N Z C V = some (r1, r2, r3, r4, r5, r6, r7)) :
    Calls Try.prog 9 #[.int .i64 8, .bool false, .int .u32 b, .int .u32 n, .int .u32 h, .agg #[.bool N, .bool Z, .bool C, .bool V]] w fun e w' => e = .returned (.tuple #[.int .u32 r1, .int .u32 r2, .agg #[.bool r3, .bool r4, .bool r5, .bool r6], .bool r7]) ∧ Below w.heap.size w w' := by
  simp only [alu_Do.j2, alu_over.f, Int.reduceEq, Bool.false_eq_true, reduceIte, Option.bind_some] at H
  obtain ⟨rfl, rfl, rfl, rfl, rfl, rfl, rfl⟩ : _ = r1 ∧ _ = r2 ∧ _ = r3 ∧ _ = r4 ∧ _ = r5 ∧ _ = r6 ∧ _ = r7 := by simpa only [Option.some.injEq, Prod.mk.injEq] using H
  clear H
  go_enter Try.func9, Try.ntmps9
  go_wp2
  go_region
  all_goals go_wp2
  refine bodyPost_ret (v := _) (by simp [results, Try.results9, go_sem]; rfl) rfl ⟨?_, ?_⟩
  · first | rfl | (simp [w64z, w64o, u64z, u64o, w64i, u64i]; done) | (simp [w64z, w64o, u64z, u64o, w64i, u64i] <;> omega)
  · exact by repeat (first | (with_reducible exact Below.refl _ _) | (with_reducible apply below_alloc) | (with_reducible apply pw_below_drewN) | (with_reducible apply Below.drew) | (refine Below.setCell ?_ (by first | exact Nat.le_refl _ | exact Nat.le_succ _) _))

set_option maxRecDepth 100000 in
set_option maxHeartbeats 2000000 in
theorem do_8_u_n (k : Nat) (b n h : Int) (N Z V : Bool) (r1 r2 : Int) (r3 r4 r5 r6 r7 : Bool) (w : World) (H : alu_Do.j2 (k + 1) 8 true b n h 0 0 N Z false V = some (r1, r2, r3, r4, r5, r6, r7)) :
    Calls Try.prog 9 #[.int .i64 8, .bool true, .int .u32 b, .int .u32 n, .int .u32 h, .agg #[.bool N, .bool Z, .bool false, .bool V]] w fun e w' => e = .returned (.tuple #[.int .u32 r1, .int .u32 r2, .agg #[.bool r3, .bool r4, .bool r5, .bool r6], .bool r7]) ∧ Below w.heap.size w w' := by
  simp only [alu_Do.j2, alu_over.f, Int.reduceEq, Bool.false_eq_true, reduceIte, Option.bind_some] at H
  obtain ⟨rfl, rfl, rfl, rfl, rfl, rfl, rfl⟩ : _ = r1 ∧ _ = r2 ∧ _ = r3 ∧ _ = r4 ∧ _ = r5 ∧ _ = r6 ∧ _ = r7 := by simpa only [Option.some.injEq, Prod.mk.injEq] using H
  clear H
  go_enter Try.func9, Try.ntmps9
  go_wp2
  go_region
  all_goals go_wp2
  refine bodyPost_ret (v := _) (by simp [results, Try.results9, go_sem]; rfl) rfl ⟨?_, ?_⟩
  · first | rfl | (simp [w64z, w64o, u64z, u64o, w64i, u64i]; done) | (simp [w64z, w64o, u64z, u64o, w64i, u64i] <;> omega)
  · exact by repeat (first | (with_reducible exact Below.refl _ _) | (with_reducible apply below_alloc) | (with_reducible apply pw_below_drewN) | (with_reducible apply Below.drew) | (refine Below.setCell ?_ (by first | exact Nat.le_refl _ | exact Nat.le_succ _) _))

set_option maxRecDepth 100000 in
set_option maxHeartbeats 2000000 in
theorem do_8_u_c (k : Nat) (b n h : Int) (N Z V : Bool) (r1 r2 : Int) (r3 r4 r5 r6 r7 : Bool) (w : World) (H : alu_Do.j2 (k + 1) 8 true b n h 0 1 N Z true V = some (r1, r2, r3, r4, r5, r6, r7)) :
    Calls Try.prog 9 #[.int .i64 8, .bool true, .int .u32 b, .int .u32 n, .int .u32 h, .agg #[.bool N, .bool Z, .bool true, .bool V]] w fun e w' => e = .returned (.tuple #[.int .u32 r1, .int .u32 r2, .agg #[.bool r3, .bool r4, .bool r5, .bool r6], .bool r7]) ∧ Below w.heap.size w w' := by
  simp only [alu_Do.j2, alu_over.f, Int.reduceEq, Bool.false_eq_true, reduceIte, Option.bind_some] at H
  obtain ⟨rfl, rfl, rfl, rfl, rfl, rfl, rfl⟩ : _ = r1 ∧ _ = r2 ∧ _ = r3 ∧ _ = r4 ∧ _ = r5 ∧ _ = r6 ∧ _ = r7 := by simpa only [Option.some.injEq, Prod.mk.injEq] using H
  clear H
  go_enter Try.func9, Try.ntmps9
  go_wp2
  go_region
  all_goals go_wp2
  refine bodyPost_ret (v := _) (by simp [results, Try.results9, go_sem]; rfl) rfl ⟨?_, ?_⟩
  · first | rfl | (simp [w64z, w64o, u64z, u64o, w64i, u64i]; done) | (simp [w64z, w64o, u64z, u64o, w64i, u64i] <;> omega)
  · exact by repeat (first | (with_reducible exact Below.refl _ _) | (with_reducible apply below_alloc) | (with_reducible apply pw_below_drewN) | (with_reducible apply Below.drew) | (refine Below.setCell ?_ (by first | exact Nat.le_refl _ | exact Nat.le_succ _) _))

set_option maxRecDepth 100000 in
set_option maxHeartbeats 2000000 in
theorem do_9_f (k : Nat) (b n h : Int) (N Z C V : Bool) (r1 r2 : Int) (r3 r4 r5 r6 r7 : Bool) (w : World) (H : alu_Do.j2 (k + 1) 9 false b n h 0 0 N Z C V = some (r1, r2, r3, r4, r5, r6, r7)) :
    Calls Try.prog 9 #[.int .i64 9, .bool false, .int .u32 b, .int .u32 n, .int .u32 h, .agg #[.bool N, .bool Z, .bool C, .bool V]] w fun e w' => e = .returned (.tuple #[.int .u32 r1, .int .u32 r2, .agg #[.bool r3, .bool r4, .bool r5, .bool r6], .bool r7]) ∧ Below w.heap.size w w' := by
  simp only [alu_Do.j2, alu_over.f, Int.reduceEq, Bool.false_eq_true, reduceIte, Option.bind_some] at H
  obtain ⟨rfl, rfl, rfl, rfl, rfl, rfl, rfl⟩ : _ = r1 ∧ _ = r2 ∧ _ = r3 ∧ _ = r4 ∧ _ = r5 ∧ _ = r6 ∧ _ = r7 := by simpa only [Option.some.injEq, Prod.mk.injEq] using H
  clear H
  go_enter Try.func9, Try.ntmps9
  go_wp2
  go_region
  all_goals go_wp2
  refine bodyPost_ret (v := _) (by simp [results, Try.results9, go_sem]; rfl) rfl ⟨?_, ?_⟩
  · first | rfl | (simp [w64z, w64o, u64z, u64o, w64i, u64i]; done) | (simp [w64z, w64o, u64z, u64o, w64i, u64i] <;> omega)
  · exact by repeat (first | (with_reducible exact Below.refl _ _) | (with_reducible apply below_alloc) | (with_reducible apply pw_below_drewN) | (with_reducible apply Below.drew) | (refine Below.setCell ?_ (by first | exact Nat.le_refl _ | exact Nat.le_succ _) _))

set_option maxRecDepth 100000 in
set_option maxHeartbeats 2000000 in
theorem do_9_u_n (k : Nat) (b n h : Int) (N Z V : Bool) (r1 r2 : Int) (r3 r4 r5 r6 r7 : Bool) (w : World) (H : alu_Do.j2 (k + 1) 9 true b n h 0 0 N Z false V = some (r1, r2, r3, r4, r5, r6, r7)) :
    Calls Try.prog 9 #[.int .i64 9, .bool true, .int .u32 b, .int .u32 n, .int .u32 h, .agg #[.bool N, .bool Z, .bool false, .bool V]] w fun e w' => e = .returned (.tuple #[.int .u32 r1, .int .u32 r2, .agg #[.bool r3, .bool r4, .bool r5, .bool r6], .bool r7]) ∧ Below w.heap.size w w' := by
  simp only [alu_Do.j2, alu_over.f, Int.reduceEq, Bool.false_eq_true, reduceIte, Option.bind_some] at H
  obtain ⟨rfl, rfl, rfl, rfl, rfl, rfl, rfl⟩ : _ = r1 ∧ _ = r2 ∧ _ = r3 ∧ _ = r4 ∧ _ = r5 ∧ _ = r6 ∧ _ = r7 := by simpa only [Option.some.injEq, Prod.mk.injEq] using H
  clear H
  go_enter Try.func9, Try.ntmps9
  go_wp2
  go_region
  all_goals go_wp2
  refine bodyPost_ret (v := _) (by simp [results, Try.results9, go_sem]; rfl) rfl ⟨?_, ?_⟩
  · first | rfl | (simp [w64z, w64o, u64z, u64o, w64i, u64i]; done) | (simp [w64z, w64o, u64z, u64o, w64i, u64i] <;> omega)
  · exact by repeat (first | (with_reducible exact Below.refl _ _) | (with_reducible apply below_alloc) | (with_reducible apply pw_below_drewN) | (with_reducible apply Below.drew) | (refine Below.setCell ?_ (by first | exact Nat.le_refl _ | exact Nat.le_succ _) _))

set_option maxRecDepth 100000 in
set_option maxHeartbeats 2000000 in
theorem do_9_u_c (k : Nat) (b n h : Int) (N Z V : Bool) (r1 r2 : Int) (r3 r4 r5 r6 r7 : Bool) (w : World) (H : alu_Do.j2 (k + 1) 9 true b n h 0 1 N Z true V = some (r1, r2, r3, r4, r5, r6, r7)) :
    Calls Try.prog 9 #[.int .i64 9, .bool true, .int .u32 b, .int .u32 n, .int .u32 h, .agg #[.bool N, .bool Z, .bool true, .bool V]] w fun e w' => e = .returned (.tuple #[.int .u32 r1, .int .u32 r2, .agg #[.bool r3, .bool r4, .bool r5, .bool r6], .bool r7]) ∧ Below w.heap.size w w' := by
  simp only [alu_Do.j2, alu_over.f, Int.reduceEq, Bool.false_eq_true, reduceIte, Option.bind_some] at H
  obtain ⟨rfl, rfl, rfl, rfl, rfl, rfl, rfl⟩ : _ = r1 ∧ _ = r2 ∧ _ = r3 ∧ _ = r4 ∧ _ = r5 ∧ _ = r6 ∧ _ = r7 := by simpa only [Option.some.injEq, Prod.mk.injEq] using H
  clear H
  go_enter Try.func9, Try.ntmps9
  go_wp2
  go_region
  all_goals go_wp2
  refine bodyPost_ret (v := _) (by simp [results, Try.results9, go_sem]; rfl) rfl ⟨?_, ?_⟩
  · first | rfl | (simp [w64z, w64o, u64z, u64o, w64i, u64i]; done) | (simp [w64z, w64o, u64z, u64o, w64i, u64i] <;> omega)
  · exact by repeat (first | (with_reducible exact Below.refl _ _) | (with_reducible apply below_alloc) | (with_reducible apply pw_below_drewN) | (with_reducible apply Below.drew) | (refine Below.setCell ?_ (by first | exact Nat.le_refl _ | exact Nat.le_succ _) _))

set_option maxRecDepth 100000 in
set_option maxHeartbeats 2000000 in
theorem do_10_f (k : Nat) (b n h : Int) (N Z C V : Bool) (r1 r2 : Int) (r3 r4 r5 r6 r7 : Bool) (w : World) (H : alu_Do.j2 (k + 1) 10 false b n h 0 0 N Z C V = some (r1, r2, r3, r4, r5, r6, r7)) :
    Calls Try.prog 9 #[.int .i64 10, .bool false, .int .u32 b, .int .u32 n, .int .u32 h, .agg #[.bool N, .bool Z, .bool C, .bool V]] w fun e w' => e = .returned (.tuple #[.int .u32 r1, .int .u32 r2, .agg #[.bool r3, .bool r4, .bool r5, .bool r6], .bool r7]) ∧ Below w.heap.size w w' := by
  simp only [alu_Do.j2, alu_over.f, Int.reduceEq, Bool.false_eq_true, reduceIte, Option.bind_some] at H
  obtain ⟨t, A0, H⟩ := Option.bind_eq_some_iff.mp H
  have A := Aside0.mk A0
  clear A0
  obtain ⟨t, s⟩ := t
  obtain ⟨rfl, rfl, rfl, rfl, rfl, rfl, rfl⟩ : _ = r1 ∧ _ = r2 ∧ _ = r3 ∧ _ = r4 ∧ _ = r5 ∧ _ = r6 ∧ _ = r7 := by simpa only [Option.some.injEq, Prod.mk.injEq] using H
  clear H
  go_enter Try.func9, Try.ntmps9
  go_wp2_with (go_at_call 19; refine (alu_product.calls _ _ _ t s _ A.out).mono ?_; rintro e w' ⟨rfl, nd, rfl⟩)
  go_region
  all_goals go_wp2
  refine bodyPost_ret (v := _) (by simp [results, Try.results9, go_sem]; rfl) rfl ⟨?_, ?_⟩
  · first | rfl | (simp [w64z, w64o, u64z, u64o, w64i, u64i]; done) | (simp [w64z, w64o, u64z, u64o, w64i, u64i] <;> omega)
  · exact by repeat (first | (with_reducible exact Below.refl _ _) | (with_reducible apply below_alloc) | (with_reducible apply pw_below_drewN) | (with_reducible apply Below.drew) | (refine Below.setCell ?_ (by first | exact Nat.le_refl _ | exact Nat.le_succ _) _))

set_option maxRecDepth 100000 in
set_option maxHeartbeats 2000000 in
theorem do_10_u_n (k : Nat) (b n h : Int) (N Z V : Bool) (r1 r2 : Int) (r3 r4 r5 r6 r7 : Bool) (w : World) (H : alu_Do.j2 (k + 1) 10 true b n h 0 0 N Z false V = some (r1, r2, r3, r4, r5, r6, r7)) :
    Calls Try.prog 9 #[.int .i64 10, .bool true, .int .u32 b, .int .u32 n, .int .u32 h, .agg #[.bool N, .bool Z, .bool false, .bool V]] w fun e w' => e = .returned (.tuple #[.int .u32 r1, .int .u32 r2, .agg #[.bool r3, .bool r4, .bool r5, .bool r6], .bool r7]) ∧ Below w.heap.size w w' := by
  simp only [alu_Do.j2, alu_over.f, Int.reduceEq, Bool.false_eq_true, reduceIte, Option.bind_some] at H
  obtain ⟨t, A0, H⟩ := Option.bind_eq_some_iff.mp H
  have A := Aside0.mk A0
  clear A0
  obtain ⟨t, s⟩ := t
  obtain ⟨rfl, rfl, rfl, rfl, rfl, rfl, rfl⟩ : _ = r1 ∧ _ = r2 ∧ _ = r3 ∧ _ = r4 ∧ _ = r5 ∧ _ = r6 ∧ _ = r7 := by simpa only [Option.some.injEq, Prod.mk.injEq] using H
  clear H
  go_enter Try.func9, Try.ntmps9
  go_wp2_with (go_at_call 19; refine (alu_product.calls _ _ _ t s _ A.out).mono ?_; rintro e w' ⟨rfl, nd, rfl⟩)
  go_region
  all_goals go_wp2
  refine bodyPost_ret (v := _) (by simp [results, Try.results9, go_sem]; rfl) rfl ⟨?_, ?_⟩
  · first | rfl | (simp [w64z, w64o, u64z, u64o, w64i, u64i]; done) | (simp [w64z, w64o, u64z, u64o, w64i, u64i] <;> omega)
  · exact by repeat (first | (with_reducible exact Below.refl _ _) | (with_reducible apply below_alloc) | (with_reducible apply pw_below_drewN) | (with_reducible apply Below.drew) | (refine Below.setCell ?_ (by first | exact Nat.le_refl _ | exact Nat.le_succ _) _))

set_option maxRecDepth 100000 in
set_option maxHeartbeats 2000000 in
theorem do_10_u_c (k : Nat) (b n h : Int) (N Z V : Bool) (r1 r2 : Int) (r3 r4 r5 r6 r7 : Bool) (w : World) (H : alu_Do.j2 (k + 1) 10 true b n h 0 1 N Z true V = some (r1, r2, r3, r4, r5, r6, r7)) :
    Calls Try.prog 9 #[.int .i64 10, .bool true, .int .u32 b, .int .u32 n, .int .u32 h, .agg #[.bool N, .bool Z, .bool true, .bool V]] w fun e w' => e = .returned (.tuple #[.int .u32 r1, .int .u32 r2, .agg #[.bool r3, .bool r4, .bool r5, .bool r6], .bool r7]) ∧ Below w.heap.size w w' := by
  simp only [alu_Do.j2, alu_over.f, Int.reduceEq, Bool.false_eq_true, reduceIte, Option.bind_some] at H
  obtain ⟨t, A0, H⟩ := Option.bind_eq_some_iff.mp H
  have A := Aside0.mk A0
  clear A0
  obtain ⟨t, s⟩ := t
  obtain ⟨rfl, rfl, rfl, rfl, rfl, rfl, rfl⟩ : _ = r1 ∧ _ = r2 ∧ _ = r3 ∧ _ = r4 ∧ _ = r5 ∧ _ = r6 ∧ _ = r7 := by simpa only [Option.some.injEq, Prod.mk.injEq] using H
  clear H
  go_enter Try.func9, Try.ntmps9
  go_wp2_with (go_at_call 19; refine (alu_product.calls _ _ _ t s _ A.out).mono ?_; rintro e w' ⟨rfl, nd, rfl⟩)
  go_region
  all_goals go_wp2
  refine bodyPost_ret (v := _) (by simp [results, Try.results9, go_sem]; rfl) rfl ⟨?_, ?_⟩
  · first | rfl | (simp [w64z, w64o, u64z, u64o, w64i, u64i]; done) | (simp [w64z, w64o, u64z, u64o, w64i, u64i] <;> omega)
  · exact by repeat (first | (with_reducible exact Below.refl _ _) | (with_reducible apply below_alloc) | (with_reducible apply pw_below_drewN) | (with_reducible apply Below.drew) | (refine Below.setCell ?_ (by first | exact Nat.le_refl _ | exact Nat.le_succ _) _))

set_option maxRecDepth 100000 in
set_option maxHeartbeats 2000000 in
theorem do_11_f (k : Nat) (b n h : Int) (N Z C V : Bool) (r1 r2 : Int) (r3 r4 r5 r6 r7 : Bool) (w : World) (H : alu_Do.j2 (k + 1) 11 false b n h 0 0 N Z C V = some (r1, r2, r3, r4, r5, r6, r7)) :
    Calls Try.prog 9 #[.int .i64 11, .bool false, .int .u32 b, .int .u32 n, .int .u32 h, .agg #[.bool N, .bool Z, .bool C, .bool V]] w fun e w' => e = .returned (.tuple #[.int .u32 r1, .int .u32 r2, .agg #[.bool r3, .bool r4, .bool r5, .bool r6], .bool r7]) ∧ Below w.heap.size w w' := by
  simp only [alu_Do.j2, alu_over.f, Int.reduceEq, Bool.false_eq_true, reduceIte, Option.bind_some] at H
  obtain ⟨t, A0, H⟩ := Option.bind_eq_some_iff.mp H
  have A := Aside0.mk A0
  clear A0
  obtain ⟨t, s⟩ := t
  obtain ⟨rfl, rfl, rfl, rfl, rfl, rfl, rfl⟩ : _ = r1 ∧ _ = r2 ∧ _ = r3 ∧ _ = r4 ∧ _ = r5 ∧ _ = r6 ∧ _ = r7 := by simpa only [Option.some.injEq, Prod.mk.injEq] using H
  clear H
  go_enter Try.func9, Try.ntmps9
  go_wp2_with (go_at_call 20; refine (alu_quotient.calls _ _ t s _ A.out).mono ?_; rintro e w' ⟨rfl, nd, rfl⟩)
  go_region
  all_goals go_wp2
  refine bodyPost_ret (v := _) (by simp [results, Try.results9, go_sem]; rfl) rfl ⟨?_, ?_⟩
  · first | rfl | (simp [w64z, w64o, u64z, u64o, w64i, u64i]; done) | (simp [w64z, w64o, u64z, u64o, w64i, u64i] <;> omega)
  · exact by repeat (first | (with_reducible exact Below.refl _ _) | (with_reducible apply below_alloc) | (with_reducible apply pw_below_drewN) | (with_reducible apply Below.drew) | (refine Below.setCell ?_ (by first | exact Nat.le_refl _ | exact Nat.le_succ _) _))

theorem f_in (k : Nat) (op b n h : Int) (u N Z C V : Bool) (hn : ¬ (op < 0 ∨ op > 11 ∨ u = true ∧ op ≠ 0 ∧ op ≠ 8 ∧ op ≠ 9 ∧ op ≠ 10)) :
    alu_Do.f k op u b n h N Z C V = alu_Do.j0 k op u b n h 0 false N Z C V := by
  have e1 : ¬ op < 0 := by omega
  have e2 : ¬ op > 11 := by omega
  cases u
  · simp [alu_Do.f, e1, e2]
  · have hu : op = 0 ∨ op = 8 ∨ op = 9 ∨ op = 10 := by simp only [true_and] at hn; omega
    rcases hu with rfl | rfl | rfl | rfl <;> simp [alu_Do.f]

set_option maxRecDepth 100000 in
set_option maxHeartbeats 2000000 in
theorem do_out (a0 : Int) (a1 : Bool) (a2 a3 a4 : Int) (N Z C V : Bool) (w : World) (hn : a0 < 0 ∨ a0 > 11 ∨ a1 = true ∧ a0 ≠ 0 ∧ a0 ≠ 8 ∧ a0 ≠ 9 ∧ a0 ≠ 10) :
    Calls Try.prog 9 #[.int .i64 a0, .bool a1, .int .u32 a2, .int .u32 a3, .int .u32 a4, .agg #[.bool N, .bool Z, .bool C, .bool V]] w fun e w' => e = .returned (.tuple #[.int .u32 0, .int .u32 0, .agg #[.bool false, .bool false, .bool false, .bool false], .bool false]) ∧ Below w.heap.size w w' := by
  have cs : a0 < 0 ∨ ¬ a0 < 0 ∧ a0 > 11 ∨ a1 = true ∧ a0 = 1 ∨ a1 = true ∧ a0 = 2 ∨ a1 = true ∧ a0 = 3 ∨ a1 = true ∧ a0 = 4 ∨ a1 = true ∧ a0 = 5 ∨ a1 = true ∧ a0 = 6 ∨ a1 = true ∧ a0 = 7 ∨ a1 = true ∧ a0 = 11 := by
    cases a1 <;> simp at hn ⊢ <;> omega
  clear hn
  rcases cs with h | ⟨h, h2⟩ | ⟨rfl, rfl⟩ | ⟨rfl, rfl⟩ | ⟨rfl, rfl⟩ | ⟨rfl, rfl⟩ | ⟨rfl, rfl⟩ | ⟨rfl, rfl⟩ | ⟨rfl, rfl⟩ | ⟨rfl, rfl⟩
  all_goals
    go_enter Try.func9, Try.ntmps9
    go_wp2
    refine bodyPost_ret (v := _) (by first | (simp [results, Try.results9, go_sem]; done) | (simp [results, Try.results9, go_sem]; rfl)) rfl ⟨rfl, ?_⟩
    exact by repeat (first | (with_reducible exact Below.refl _ _) | (with_reducible apply below_alloc) | (with_reducible apply pw_below_drewN) | (with_reducible apply Below.drew) | (refine Below.setCell ?_ (by first | exact Nat.le_refl _ | exact Nat.le_succ _) _))

set_option maxHeartbeats 2000000 in
theorem alu_Do.calls (k : Nat) (a0 : Int) (a1 : Bool) (a2 : Int) (a3 : Int) (a4 : Int) (a5_0 : Bool) (a5_1 : Bool) (a5_2 : Bool) (a5_3 : Bool) (r1 : Int) (r2 : Int) (r3 : Bool) (r4 : Bool) (r5 : Bool) (r6 : Bool) (r7 : Bool) (w : World) (h : alu_Do.f k a0 a1 a2 a3 a4 a5_0 a5_1 a5_2 a5_3 = some (r1, r2, r3, r4, r5, r6, r7)) :
    Calls Try.prog 9 #[.int .i64 a0, .bool a1, .int .u32 a2, .int .u32 a3, .int .u32 a4, .agg #[.bool a5_0, .bool a5_1, .bool a5_2, .bool a5_3]] w fun e w' => e = .returned (.tuple #[.int .u32 r1, .int .u32 r2, .agg #[.bool r3, .bool r4, .bool r5, .bool r6], .bool r7]) ∧ Below w.heap.size w w' := by
  by_cases hn : a0 < 0 ∨ a0 > 11 ∨ a1 = true ∧ a0 ≠ 0 ∧ a0 ≠ 8 ∧ a0 ≠ 9 ∧ a0 ≠ 10
  · have e : (0, 0, false, false, false, false, false) = (r1, r2, r3, r4, r5, r6, r7) := by
      cases k with
      | zero =>
        exfalso; revert h; unfold alu_Do.f; simp only [alu_Do.j0]; repeat split <;> simp
      | succ k =>
        by_cases h0 : a0 < 0
        · simpa [alu_Do.f, h0, alu_Do.j0] using h
        · by_cases h1 : a0 > 11
          · simpa [alu_Do.f, h0, h1, alu_Do.j0] using h
          · obtain ⟨rfl, a, b, c, d⟩ : a1 = true ∧ a0 ≠ 0 ∧ a0 ≠ 8 ∧ a0 ≠ 9 ∧ a0 ≠ 10 := (hn.resolve_left h0).resolve_left h1
            by_cases h8 : a0 < 8
            · simpa [alu_Do.f, h0, h1, a, h8, alu_Do.j0] using h
            · have h10 : a0 > 10 := by omega
              simpa [alu_Do.f, h0, h1, a, h8, h10, alu_Do.j0] using h
    simp only [Prod.mk.injEq] at e
    obtain ⟨rfl, rfl, rfl, rfl, rfl, rfl, rfl⟩ := e
    exact do_out a0 a1 a2 a3 a4 a5_0 a5_1 a5_2 a5_3 w hn
  · have fin := f_in k a0 a2 a3 a4 a1 a5_0 a5_1 a5_2 a5_3 hn
    obtain ⟨k, rfl⟩ : ∃ j, k = j + 3 := by
      match k, h, fin with
      | 0, h, f => rw [f] at h; simp [alu_Do.j0] at h
      | 1, h, f => rw [f] at h; simp [alu_Do.j0, alu_Do.j1] at h
      | 2, h, f => rw [f] at h; simp [alu_Do.j0, alu_Do.j1, alu_Do.j2] at h
      | j + 3, _, _ => exact ⟨j, rfl⟩
    clear fin
    have cs : a0 = 0 ∨ a0 = 1 ∨ a0 = 2 ∨ a0 = 3 ∨ a0 = 4 ∨ a0 = 5 ∨ a0 = 6 ∨ a0 = 7 ∨ a0 = 8 ∨ a0 = 9 ∨ a0 = 10 ∨ a0 = 11 := by omega
    rcases cs with rfl | rfl | rfl | rfl | rfl | rfl | rfl | rfl | rfl | rfl | rfl | rfl
    · cases a1
      · simp only [alu_Do.f, alu_Do.j0, alu_Do.j1, Int.reduceLT, Int.reduceGT, Int.reduceEq, Bool.false_eq_true, reduceIte] at h
        exact do_0_f k a2 a3 a4 a5_0 a5_1 a5_2 a5_3 r1 r2 r3 r4 r5 r6 r7 w h
      · cases a5_2
        · simp only [alu_Do.f, alu_Do.j0, alu_Do.j1, Int.reduceLT, Int.reduceGT, Int.reduceEq, Bool.false_eq_true, reduceIte, decide_false, decide_true] at h
          exact do_0_u_n k a2 a3 a4 a5_0 a5_1 a5_3 r1 r2 r3 r4 r5 r6 r7 w h
        · simp only [alu_Do.f, alu_Do.j0, alu_Do.j1, Int.reduceLT, Int.reduceGT, Int.reduceEq, Bool.false_eq_true, reduceIte, decide_false, decide_true] at h
          exact do_0_u_c k a2 a3 a4 a5_0 a5_1 a5_3 r1 r2 r3 r4 r5 r6 r7 w h
    · cases a1
      · simp only [alu_Do.f, alu_Do.j0, alu_Do.j1, Int.reduceLT, Int.reduceGT, Int.reduceEq, Bool.false_eq_true, reduceIte] at h
        exact do_1_f k a2 a3 a4 a5_0 a5_1 a5_2 a5_3 r1 r2 r3 r4 r5 r6 r7 w h
      · exact absurd (by simp : (1 : Int) < 0 ∨ (1 : Int) > 11 ∨ true = true ∧ (1 : Int) ≠ 0 ∧ (1 : Int) ≠ 8 ∧ (1 : Int) ≠ 9 ∧ (1 : Int) ≠ 10) hn
    · cases a1
      · simp only [alu_Do.f, alu_Do.j0, alu_Do.j1, Int.reduceLT, Int.reduceGT, Int.reduceEq, Bool.false_eq_true, reduceIte] at h
        exact do_2_f k a2 a3 a4 a5_0 a5_1 a5_2 a5_3 r1 r2 r3 r4 r5 r6 r7 w h
      · exact absurd (by simp : (2 : Int) < 0 ∨ (2 : Int) > 11 ∨ true = true ∧ (2 : Int) ≠ 0 ∧ (2 : Int) ≠ 8 ∧ (2 : Int) ≠ 9 ∧ (2 : Int) ≠ 10) hn
    · cases a1
      · simp only [alu_Do.f, alu_Do.j0, alu_Do.j1, Int.reduceLT, Int.reduceGT, Int.reduceEq, Bool.false_eq_true, reduceIte] at h
        exact do_3_f k a2 a3 a4 a5_0 a5_1 a5_2 a5_3 r1 r2 r3 r4 r5 r6 r7 w h
      · exact absurd (by simp : (3 : Int) < 0 ∨ (3 : Int) > 11 ∨ true = true ∧ (3 : Int) ≠ 0 ∧ (3 : Int) ≠ 8 ∧ (3 : Int) ≠ 9 ∧ (3 : Int) ≠ 10) hn
    · cases a1
      · simp only [alu_Do.f, alu_Do.j0, alu_Do.j1, Int.reduceLT, Int.reduceGT, Int.reduceEq, Bool.false_eq_true, reduceIte] at h
        exact do_4_f k a2 a3 a4 a5_0 a5_1 a5_2 a5_3 r1 r2 r3 r4 r5 r6 r7 w h
      · exact absurd (by simp : (4 : Int) < 0 ∨ (4 : Int) > 11 ∨ true = true ∧ (4 : Int) ≠ 0 ∧ (4 : Int) ≠ 8 ∧ (4 : Int) ≠ 9 ∧ (4 : Int) ≠ 10) hn
    · cases a1
      · simp only [alu_Do.f, alu_Do.j0, alu_Do.j1, Int.reduceLT, Int.reduceGT, Int.reduceEq, Bool.false_eq_true, reduceIte] at h
        exact do_5_f k a2 a3 a4 a5_0 a5_1 a5_2 a5_3 r1 r2 r3 r4 r5 r6 r7 w h
      · exact absurd (by simp : (5 : Int) < 0 ∨ (5 : Int) > 11 ∨ true = true ∧ (5 : Int) ≠ 0 ∧ (5 : Int) ≠ 8 ∧ (5 : Int) ≠ 9 ∧ (5 : Int) ≠ 10) hn
    · cases a1
      · simp only [alu_Do.f, alu_Do.j0, alu_Do.j1, Int.reduceLT, Int.reduceGT, Int.reduceEq, Bool.false_eq_true, reduceIte] at h
        exact do_6_f k a2 a3 a4 a5_0 a5_1 a5_2 a5_3 r1 r2 r3 r4 r5 r6 r7 w h
      · exact absurd (by simp : (6 : Int) < 0 ∨ (6 : Int) > 11 ∨ true = true ∧ (6 : Int) ≠ 0 ∧ (6 : Int) ≠ 8 ∧ (6 : Int) ≠ 9 ∧ (6 : Int) ≠ 10) hn
    · cases a1
      · simp only [alu_Do.f, alu_Do.j0, alu_Do.j1, Int.reduceLT, Int.reduceGT, Int.reduceEq, Bool.false_eq_true, reduceIte] at h
        exact do_7_f k a2 a3 a4 a5_0 a5_1 a5_2 a5_3 r1 r2 r3 r4 r5 r6 r7 w h
      · exact absurd (by simp : (7 : Int) < 0 ∨ (7 : Int) > 11 ∨ true = true ∧ (7 : Int) ≠ 0 ∧ (7 : Int) ≠ 8 ∧ (7 : Int) ≠ 9 ∧ (7 : Int) ≠ 10) hn
    · cases a1
      · simp only [alu_Do.f, alu_Do.j0, alu_Do.j1, Int.reduceLT, Int.reduceGT, Int.reduceEq, Bool.false_eq_true, reduceIte] at h
        exact do_8_f k a2 a3 a4 a5_0 a5_1 a5_2 a5_3 r1 r2 r3 r4 r5 r6 r7 w h
      · cases a5_2
        · simp only [alu_Do.f, alu_Do.j0, alu_Do.j1, Int.reduceLT, Int.reduceGT, Int.reduceEq, Bool.false_eq_true, reduceIte, decide_false, decide_true] at h
          exact do_8_u_n k a2 a3 a4 a5_0 a5_1 a5_3 r1 r2 r3 r4 r5 r6 r7 w h
        · simp only [alu_Do.f, alu_Do.j0, alu_Do.j1, Int.reduceLT, Int.reduceGT, Int.reduceEq, Bool.false_eq_true, reduceIte, decide_false, decide_true] at h
          exact do_8_u_c k a2 a3 a4 a5_0 a5_1 a5_3 r1 r2 r3 r4 r5 r6 r7 w h
    · cases a1
      · simp only [alu_Do.f, alu_Do.j0, alu_Do.j1, Int.reduceLT, Int.reduceGT, Int.reduceEq, Bool.false_eq_true, reduceIte] at h
        exact do_9_f k a2 a3 a4 a5_0 a5_1 a5_2 a5_3 r1 r2 r3 r4 r5 r6 r7 w h
      · cases a5_2
        · simp only [alu_Do.f, alu_Do.j0, alu_Do.j1, Int.reduceLT, Int.reduceGT, Int.reduceEq, Bool.false_eq_true, reduceIte, decide_false, decide_true] at h
          exact do_9_u_n k a2 a3 a4 a5_0 a5_1 a5_3 r1 r2 r3 r4 r5 r6 r7 w h
        · simp only [alu_Do.f, alu_Do.j0, alu_Do.j1, Int.reduceLT, Int.reduceGT, Int.reduceEq, Bool.false_eq_true, reduceIte, decide_false, decide_true] at h
          exact do_9_u_c k a2 a3 a4 a5_0 a5_1 a5_3 r1 r2 r3 r4 r5 r6 r7 w h
    · cases a1
      · simp only [alu_Do.f, alu_Do.j0, alu_Do.j1, Int.reduceLT, Int.reduceGT, Int.reduceEq, Bool.false_eq_true, reduceIte] at h
        exact do_10_f k a2 a3 a4 a5_0 a5_1 a5_2 a5_3 r1 r2 r3 r4 r5 r6 r7 w h
      · cases a5_2
        · simp only [alu_Do.f, alu_Do.j0, alu_Do.j1, Int.reduceLT, Int.reduceGT, Int.reduceEq, Bool.false_eq_true, reduceIte, decide_false, decide_true] at h
          exact do_10_u_n k a2 a3 a4 a5_0 a5_1 a5_3 r1 r2 r3 r4 r5 r6 r7 w h
        · simp only [alu_Do.f, alu_Do.j0, alu_Do.j1, Int.reduceLT, Int.reduceGT, Int.reduceEq, Bool.false_eq_true, reduceIte, decide_false, decide_true] at h
          exact do_10_u_c k a2 a3 a4 a5_0 a5_1 a5_3 r1 r2 r3 r4 r5 r6 r7 w h
    · cases a1
      · simp only [alu_Do.f, alu_Do.j0, alu_Do.j1, Int.reduceLT, Int.reduceGT, Int.reduceEq, Bool.false_eq_true, reduceIte] at h
        exact do_11_f k a2 a3 a4 a5_0 a5_1 a5_2 a5_3 r1 r2 r3 r4 r5 r6 r7 w h
      · exact absurd (by simp : (11 : Int) < 0 ∨ (11 : Int) > 11 ∨ true = true ∧ (11 : Int) ≠ 0 ∧ (11 : Int) ≠ 8 ∧ (11 : Int) ≠ 9 ∧ (11 : Int) ≠ 10) hn
end Go.Proofs.Ytbcoanjgpebedaa.PAluDoes
