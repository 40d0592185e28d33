/- What the document's operation tells, by walks: one for each operation, with u and without. -/
import Derived.Test.YtbcoanjgpebedaaPAluDoesx3
import Derived.RegionTactic
import Derived.ChangeAlike
namespace Go.Proofs.Ytbcoanjgpebedaa.PAluDoes
open Go.RowKit Go.Proofs.YtbcoanjgpebedaaW.PrintWords Go.Proofs.YtbcoanjgpebedaaW.PrintLast Go.Proofs.YtbcoanjgpebedaaW.PrintMore
set_option linter.unusedVariables false
set_option linter.unusedSimpArgs false
/-! ### spinetref03_Do: function 10 -/
def spinetref03_Do.j0 : Nat → Int → Bool → Int → Int → Int → Bool → Bool → Bool → Bool → Bool → Option (Int × Int × Bool × Bool × Bool × Bool × Bool)
  | 0, _, _, _, _, _, _, _, _, _, _ => none
  | k + 1, x0, x1, x2, x3, x4, x45, x117000, x117001, x117002, x117003 => if x45 = true then (some (0, 0, false, false, false, false, false)) else ((spinetref01_Signed.f x2).bind fun t119 => ((spinetref01_Signed.f x3).bind fun t120 => (if x0 = 0 then (if x1 = true then (some (x4, x4, decide (x4 ≥ 2147483648), (x4 == 0), x117002, x117003, true)) else (some (x3, x4, decide (x3 ≥ 2147483648), (x3 == 0), x117002, x117003, true))) else (if x0 = 1 then ((spinetref01_Lsl.f k x2 x3).bind fun t121 => (some (t121, x4, decide (t121 ≥ 2147483648), (t121 == 0), x117002, x117003, true))) else (if x0 = 2 then ((spinetref01_Asr.f k x2 x3).bind fun t122 => (some (t122, x4, decide (t122 ≥ 2147483648), (t122 == 0), x117002, x117003, true))) else (if x0 = 3 then ((spinetref01_Ror.f k x2 x3).bind fun t123 => (some (t123, x4, decide (t123 ≥ 2147483648), (t123 == 0), x117002, x117003, true))) else (if x0 = 4 then (some (Go.bits .and .u32 x2 x3, x4, decide ((Go.bits .and .u32 x2 x3) ≥ 2147483648), ((Go.bits .and .u32 x2 x3) == 0), x117002, x117003, true)) else (if x0 = 5 then (some (Go.bits .andNot .u32 x2 x3, x4, decide ((Go.bits .andNot .u32 x2 x3) ≥ 2147483648), ((Go.bits .andNot .u32 x2 x3) == 0), x117002, x117003, true)) else (if x0 = 6 then (some (Go.bits .or .u32 x2 x3, x4, decide ((Go.bits .or .u32 x2 x3) ≥ 2147483648), ((Go.bits .or .u32 x2 x3) == 0), x117002, x117003, true)) else (if x0 = 7 then (some (Go.bits .xor .u32 x2 x3, x4, decide ((Go.bits .xor .u32 x2 x3) ≥ 2147483648), ((Go.bits .xor .u32 x2 x3) == 0), x117002, x117003, true)) else (if x0 = 8 then ((spinetref03_carry.f x1 x117000 x117001 x117002 x117003).bind fun t124 => ((spinetref01_Word.f (wrap64 ((wrap64 ((wrap64 (x2)) + (wrap64 (x3)))) + t124))).bind fun t125 => ((spinetref03_carry.f x1 x117000 x117001 x117002 x117003).bind fun t126 => ((spinetref01_Fits.f k (wrap64 ((wrap64 (t119 + t120)) + t126)) 32).bind fun t127 => (some (t125, x4, decide (t125 ≥ 2147483648), (t125 == 0), decide ((wrap64 ((wrap64 ((wrap64 (x2)) + (wrap64 (x3)))) + t124)) ≥ 4294967296), !t127, true)))))) else (if x0 = 9 then ((spinetref03_carry.f x1 x117000 x117001 x117002 x117003).bind fun t128 => ((spinetref01_Word.f (wrap64 ((wrap64 ((wrap64 (x2)) - (wrap64 (x3)))) - t128))).bind fun t129 => ((spinetref03_carry.f x1 x117000 x117001 x117002 x117003).bind fun t130 => ((spinetref01_Fits.f k (wrap64 ((wrap64 (t119 - t120)) - t130)) 32).bind fun t131 => (some (t129, x4, decide (t129 ≥ 2147483648), (t129 == 0), decide ((wrap64 ((wrap64 ((wrap64 (x2)) - (wrap64 (x3)))) - t128)) < 0), !t131, true)))))) else (if x0 = 10 then (if x1 = true then (some ((Int.tmod (IntKind.u64.wrap ((IntKind.u64.wrap (x2)) * (IntKind.u64.wrap (x3)))) 4294967296) % 4294967296, (IntKind.u64.wrap (Int.tdiv (IntKind.u64.wrap ((IntKind.u64.wrap (x2)) * (IntKind.u64.wrap (x3)))) 4294967296)) % 4294967296, decide (((Int.tmod (IntKind.u64.wrap ((IntKind.u64.wrap (x2)) * (IntKind.u64.wrap (x3)))) 4294967296) % 4294967296) ≥ 2147483648), (((Int.tmod (IntKind.u64.wrap ((IntKind.u64.wrap (x2)) * (IntKind.u64.wrap (x3)))) 4294967296) % 4294967296) == 0), x117002, x117003, true)) else ((spinetref01_Word.f (wrap64 (t119 * t120))).bind fun t132 => ((spinetref03_floor.f (wrap64 (t119 * t120)) 4294967296).bind fun t133 => ((spinetref01_Word.f t133).bind fun t134 => (some (t132, t134, decide (t132 ≥ 2147483648), (t132 == 0), x117002, x117003, true)))))) else (if t120 > 0 then ((spinetref03_floor.f t119 t120).bind fun t135 => ((spinetref01_Word.f t135).bind fun t136 => ((spinetref01_Word.f (wrap64 (t119 - (wrap64 (t135 * t120))))).bind fun t137 => (some (t136, t137, decide (t136 ≥ 2147483648), (t136 == 0), x117002, x117003, true))))) else (some (0, x2, decide (0 ≥ 2147483648), (0 == 0), x117002, x117003, true))))))))))))))))
def spinetref03_Do.f (k : Nat) (a0 : Int) (a1 : Bool) (a2 : Int) (a3 : Int) (a4 : Int) (a5_0 : Bool) (a5_1 : Bool) (a5_2 : Bool) (a5_3 : Bool) : Option (Int × Int × Bool × Bool × Bool × Bool × Bool) := if a0 < 0 then (spinetref03_Do.j0 k a0 a1 a2 a3 a4 true a5_0 a5_1 a5_2 a5_3) else (if a0 > 11 then (spinetref03_Do.j0 k a0 a1 a2 a3 a4 true a5_0 a5_1 a5_2 a5_3) else (if a1 = true then (if a0 = 0 then (spinetref03_Do.j0 k a0 a1 a2 a3 a4 false a5_0 a5_1 a5_2 a5_3) else (if a0 = 8 then (spinetref03_Do.j0 k a0 a1 a2 a3 a4 false a5_0 a5_1 a5_2 a5_3) else (if a0 = 9 then (spinetref03_Do.j0 k a0 a1 a2 a3 a4 false a5_0 a5_1 a5_2 a5_3) else (spinetref03_Do.j0 k a0 a1 a2 a3 a4 (a0 != 10) a5_0 a5_1 a5_2 a5_3)))) else (spinetref03_Do.j0 k a0 a1 a2 a3 a4 false a5_0 a5_1 a5_2 a5_3)))
theorem spinetref03_Do.mono_l : ∀ k, (∀ y0 y1 y2 y3 y4 y5 y6 y7 y8 y9, LeO (spinetref03_Do.j0 k y0 y1 y2 y3 y4 y5 y6 y7 y8 y9) (spinetref03_Do.j0 (k + 1) y0 y1 y2 y3 y4 y5 y6 y7 y8 y9))
  | 0 => fun _ _ _ _ _ _ _ _ _ _ r h => by simp [spinetref03_Do.j0] at h
  | k + 1 => by
    have ih0 := spinetref03_Do.mono_l k
    · intro y0 y1 y2 y3 y4 y5 y6 y7 y8 y9
      unfold spinetref03_Do.j0
      repeat' first
      | (with_reducible exact ih0 _ _ _ _ _ _ _ _ _ _)
      | (with_reducible exact spinetref01_Asr.mono _ _ _)
      | (with_reducible exact spinetref01_Fits.mono _ _ _)
      | (with_reducible exact spinetref01_Lsl.mono _ _ _)
      | (with_reducible exact spinetref01_Ror.mono _ _ _)
      | (with_reducible exact LeO.refl _)
      | (with_reducible exact LeO.none _)
      | (with_reducible refine LeO.ite ?_ ?_)
      | (with_reducible refine LeO.bind ?_ (fun _ => ?_))
      | exact ih0 _ _ _ _ _ _ _ _ _ _
      | exact spinetref01_Asr.mono _ _ _
      | exact spinetref01_Fits.mono _ _ _
      | exact spinetref01_Lsl.mono _ _ _
      | exact spinetref01_Ror.mono _ _ _
      | exact LeO.none _
      | refine LeO.ite ?_ ?_
      | refine LeO.bind ?_ (fun _ => ?_)
theorem spinetref03_Do.mono : ∀ a0 a1 a2 a3 a4 a5 a6 a7 a8 k, LeO (spinetref03_Do.f k a0 a1 a2 a3 a4 a5 a6 a7 a8) (spinetref03_Do.f (k + 1) a0 a1 a2 a3 a4 a5 a6 a7 a8) := by
  intro a0 a1 a2 a3 a4 a5 a6 a7 a8 k
  have ih0 := spinetref03_Do.mono_l k
  unfold spinetref03_Do.f
  repeat' first
      | (with_reducible exact ih0 _ _ _ _ _ _ _ _ _ _)
      | (with_reducible exact spinetref01_Asr.mono _ _ _)
      | (with_reducible exact spinetref01_Fits.mono _ _ _)
      | (with_reducible exact spinetref01_Lsl.mono _ _ _)
      | (with_reducible exact spinetref01_Ror.mono _ _ _)
      | (with_reducible exact LeO.refl _)
      | (with_reducible exact LeO.none _)
      | (with_reducible refine LeO.ite ?_ ?_)
      | (with_reducible refine LeO.bind ?_ (fun _ => ?_))
      | exact ih0 _ _ _ _ _ _ _ _ _ _
      | exact spinetref01_Asr.mono _ _ _
      | exact spinetref01_Fits.mono _ _ _
      | exact spinetref01_Lsl.mono _ _ _
      | exact spinetref01_Ror.mono _ _ _
      | exact LeO.none _
      | refine LeO.ite ?_ ?_
      | refine LeO.bind ?_ (fun _ => ?_)

theorem setCell_twice (w : World) (a : Addr) (x y : Value) : (w.setCell a x).setCell a y = w.setCell a y := by
  unfold World.setCell
  congr 1
  apply Array.ext_getElem?
  intro i
  simp only [Array.getElem?_modify]
  by_cases h : a.block = i
  · simp only [h, if_true, Option.map_map]
    congr 1
    funext o
    cases o <;> simp
    split <;> simp
  · simp only [h, if_false]

theorem rw64z : wrap64 0 = 0 := by decide +kernel
theorem rw64o : wrap64 1 = 1 := by decide +kernel
theorem rw64i (n : Int) : wrap64 (wrap64 n) = wrap64 n := by unfold wrap64; omega
set_option maxRecDepth 100000 in
set_option maxHeartbeats 4000000 in
theorem rdo_0_f (k : Nat) (b n h : Int) (N Z C V : Bool) (r1 r2 : Int) (r3 r4 r5 r6 r7 : Bool) (w : World) (H : spinetref03_Do.j0 (k + 1) 0 false b n h false N Z C V = some (r1, r2, r3, r4, r5, r6, r7)) :
    Calls Try.prog 10 #[.int .i64 0, .bool false, .int .u32 b, .int .u32 n, .int .u32 h, .agg #[.bool N, .bool Z, .bool C, .bool V]] w fun e w' => e = .returned (.agg #[.int .u32 r1, .int .u32 r2, .bool r3, .bool r4, .bool r5, .bool r6, .bool r7]) ∧ Below w.heap.size w w' := by
  simp only [spinetref03_Do.j0, spinetref03_carry.f, Int.add_zero, Int.sub_zero, Int.reduceEq, Int.reduceLT, Int.reduceGT, Bool.false_eq_true, reduceIte, Option.bind_some, decide_true, decide_false] at H
  obtain ⟨tb, Btb, H⟩ := Option.bind_eq_some_iff.mp H
  have Atb := Aside0.mk Btb
  clear Btb
  obtain ⟨tn, Btn, H⟩ := Option.bind_eq_some_iff.mp H
  have Atn := Aside0.mk Btn
  clear Btn
  obtain ⟨rfl, rfl, rfl, rfl, rfl, rfl, rfl⟩ : _ = r1 ∧ _ = r2 ∧ _ = r3 ∧ _ = r4 ∧ _ = r5 ∧ _ = r6 ∧ _ = r7 := by simpa only [Option.some.injEq, Prod.mk.injEq] using H
  clear H
  go_enter Try.func10, Try.ntmps10
  go_wp2_with (first | (go_at_call 21; (with_reducible refine (spinetref01_Signed.calls b tb _ Atb.out).mono ?_); rintro e w' ⟨rfl, ndtb, rfl⟩) | (go_at_call 21; (with_reducible refine (spinetref01_Signed.calls n tn _ Atn.out).mono ?_); rintro e w' ⟨rfl, ndtn, rfl⟩) | go_in)
  refine bodyPost_ret (v := _) (by first | (simp [results, Try.results10, go_sem]; done) | (simp [results, Try.results10, go_sem]; rfl)) rfl ⟨?_, ?_⟩
  · first | rfl | (simp [rw64z, rw64o, rw64i]; done)
  · exact by repeat (first | (with_reducible exact Below.refl _ _) | (with_reducible apply below_alloc) | (with_reducible apply pw_below_drewN) | (with_reducible apply Below.drew) | (refine Below.setCell ?_ (by first | exact Nat.le_refl _ | exact Nat.le_succ _ | (simp; done) | (simp; omega)) _))

set_option maxRecDepth 100000 in
set_option maxHeartbeats 4000000 in
theorem rdo_0_u_n (k : Nat) (b n h : Int) (N Z V : Bool) (r1 r2 : Int) (r3 r4 r5 r6 r7 : Bool) (w : World) (H : spinetref03_Do.j0 (k + 1) 0 true b n h false N Z false V = some (r1, r2, r3, r4, r5, r6, r7)) :
    Calls Try.prog 10 #[.int .i64 0, .bool true, .int .u32 b, .int .u32 n, .int .u32 h, .agg #[.bool N, .bool Z, .bool false, .bool V]] w fun e w' => e = .returned (.agg #[.int .u32 r1, .int .u32 r2, .bool r3, .bool r4, .bool r5, .bool r6, .bool r7]) ∧ Below w.heap.size w w' := by
  simp only [spinetref03_Do.j0, spinetref03_carry.f, Int.add_zero, Int.sub_zero, Int.reduceEq, Int.reduceLT, Int.reduceGT, Bool.false_eq_true, reduceIte, Option.bind_some, decide_true, decide_false] at H
  obtain ⟨tb, Btb, H⟩ := Option.bind_eq_some_iff.mp H
  have Atb := Aside0.mk Btb
  clear Btb
  obtain ⟨tn, Btn, H⟩ := Option.bind_eq_some_iff.mp H
  have Atn := Aside0.mk Btn
  clear Btn
  obtain ⟨rfl, rfl, rfl, rfl, rfl, rfl, rfl⟩ : _ = r1 ∧ _ = r2 ∧ _ = r3 ∧ _ = r4 ∧ _ = r5 ∧ _ = r6 ∧ _ = r7 := by simpa only [Option.some.injEq, Prod.mk.injEq] using H
  clear H
  have hss := setCell_twice
  go_enter Try.func10, Try.ntmps10
  go_wp2_with (first | (go_at_call 21; (with_reducible refine (spinetref01_Signed.calls b tb _ Atb.out).mono ?_); rintro e w' ⟨rfl, ndtb, rfl⟩) | (go_at_call 21; (with_reducible refine (spinetref01_Signed.calls n tn _ Atn.out).mono ?_); rintro e w' ⟨rfl, ndtn, rfl⟩) | go_in)
  refine bodyPost_ret (v := _) (by first | (simp [results, Try.results10, go_sem]; done) | (simp [results, Try.results10, go_sem]; rfl)) rfl ⟨?_, ?_⟩
  · first | rfl | (simp [rw64z, rw64o, rw64i]; done)
  · exact by repeat (first | (with_reducible exact Below.refl _ _) | (with_reducible apply below_alloc) | (with_reducible apply pw_below_drewN) | (with_reducible apply Below.drew) | (refine Below.setCell ?_ (by first | exact Nat.le_refl _ | exact Nat.le_succ _ | (simp; done) | (simp; omega)) _))

set_option maxRecDepth 100000 in
set_option maxHeartbeats 4000000 in
theorem rdo_0_u_c (k : Nat) (b n h : Int) (N Z V : Bool) (r1 r2 : Int) (r3 r4 r5 r6 r7 : Bool) (w : World) (H : spinetref03_Do.j0 (k + 1) 0 true b n h false N Z true V = some (r1, r2, r3, r4, r5, r6, r7)) :
    Calls Try.prog 10 #[.int .i64 0, .bool true, .int .u32 b, .int .u32 n, .int .u32 h, .agg #[.bool N, .bool Z, .bool true, .bool V]] w fun e w' => e = .returned (.agg #[.int .u32 r1, .int .u32 r2, .bool r3, .bool r4, .bool r5, .bool r6, .bool r7]) ∧ Below w.heap.size w w' := by
  simp only [spinetref03_Do.j0, spinetref03_carry.f, Int.add_zero, Int.sub_zero, Int.reduceEq, Int.reduceLT, Int.reduceGT, Bool.false_eq_true, reduceIte, Option.bind_some, decide_true, decide_false] at H
  obtain ⟨tb, Btb, H⟩ := Option.bind_eq_some_iff.mp H
  have Atb := Aside0.mk Btb
  clear Btb
  obtain ⟨tn, Btn, H⟩ := Option.bind_eq_some_iff.mp H
  have Atn := Aside0.mk Btn
  clear Btn
  obtain ⟨rfl, rfl, rfl, rfl, rfl, rfl, rfl⟩ : _ = r1 ∧ _ = r2 ∧ _ = r3 ∧ _ = r4 ∧ _ = r5 ∧ _ = r6 ∧ _ = r7 := by simpa only [Option.some.injEq, Prod.mk.injEq] using H
  clear H
  have hss := setCell_twice
  go_enter Try.func10, Try.ntmps10
  go_wp2_with (first | (go_at_call 21; (with_reducible refine (spinetref01_Signed.calls b tb _ Atb.out).mono ?_); rintro e w' ⟨rfl, ndtb, rfl⟩) | (go_at_call 21; (with_reducible refine (spinetref01_Signed.calls n tn _ Atn.out).mono ?_); rintro e w' ⟨rfl, ndtn, rfl⟩) | go_in)
  refine bodyPost_ret (v := _) (by first | (simp [results, Try.results10, go_sem]; done) | (simp [results, Try.results10, go_sem]; rfl)) rfl ⟨?_, ?_⟩
  · first | rfl | (simp [rw64z, rw64o, rw64i]; done)
  · exact by repeat (first | (with_reducible exact Below.refl _ _) | (with_reducible apply below_alloc) | (with_reducible apply pw_below_drewN) | (with_reducible apply Below.drew) | (refine Below.setCell ?_ (by first | exact Nat.le_refl _ | exact Nat.le_succ _ | (simp; done) | (simp; omega)) _))

set_option maxRecDepth 100000 in
set_option maxHeartbeats 4000000 in
theorem rdo_1_f (k : Nat) (b n h : Int) (N Z C V : Bool) (r1 r2 : Int) (r3 r4 r5 r6 r7 : Bool) (w : World) (H : spinetref03_Do.j0 (k + 1) 1 false b n h false N Z C V = some (r1, r2, r3, r4, r5, r6, r7)) :
    Calls Try.prog 10 #[.int .i64 1, .bool false, .int .u32 b, .int .u32 n, .int .u32 h, .agg #[.bool N, .bool Z, .bool C, .bool V]] w fun e w' => e = .returned (.agg #[.int .u32 r1, .int .u32 r2, .bool r3, .bool r4, .bool r5, .bool r6, .bool r7]) ∧ Below w.heap.size w w' := by
  simp only [spinetref03_Do.j0, spinetref03_carry.f, Int.add_zero, Int.sub_zero, Int.reduceEq, Int.reduceLT, Int.reduceGT, Bool.false_eq_true, reduceIte, Option.bind_some, decide_true, decide_false] at H
  obtain ⟨tb, Btb, H⟩ := Option.bind_eq_some_iff.mp H
  have Atb := Aside0.mk Btb
  clear Btb
  obtain ⟨tn, Btn, H⟩ := Option.bind_eq_some_iff.mp H
  have Atn := Aside0.mk Btn
  clear Btn
  obtain ⟨t, Bt, H⟩ := Option.bind_eq_some_iff.mp H
  have At := Aside0.mk Bt
  clear Bt
  obtain ⟨rfl, rfl, rfl, rfl, rfl, rfl, rfl⟩ : _ = r1 ∧ _ = r2 ∧ _ = r3 ∧ _ = r4 ∧ _ = r5 ∧ _ = r6 ∧ _ = r7 := by simpa only [Option.some.injEq, Prod.mk.injEq] using H
  clear H
  go_enter Try.func10, Try.ntmps10
  go_wp2_with (first | (go_at_call 21; (with_reducible refine (spinetref01_Signed.calls b tb _ Atb.out).mono ?_); rintro e w' ⟨rfl, ndtb, rfl⟩) | (go_at_call 21; (with_reducible refine (spinetref01_Signed.calls n tn _ Atn.out).mono ?_); rintro e w' ⟨rfl, ndtn, rfl⟩) | (go_at_call 22; (with_reducible refine (spinetref01_Lsl.calls k b n t _ At.out).mono ?_); rintro e w' ⟨rfl, ndt, rfl⟩) | go_in)
  refine bodyPost_ret (v := _) (by first | (simp [results, Try.results10, go_sem]; done) | (simp [results, Try.results10, go_sem]; rfl)) rfl ⟨?_, ?_⟩
  · first | rfl | (simp [rw64z, rw64o, rw64i]; done)
  · exact by repeat (first | (with_reducible exact Below.refl _ _) | (with_reducible apply below_alloc) | (with_reducible apply pw_below_drewN) | (with_reducible apply Below.drew) | (refine Below.setCell ?_ (by first | exact Nat.le_refl _ | exact Nat.le_succ _ | (simp; done) | (simp; omega)) _))

set_option maxRecDepth 100000 in
set_option maxHeartbeats 4000000 in
theorem rdo_2_f (k : Nat) (b n h : Int) (N Z C V : Bool) (r1 r2 : Int) (r3 r4 r5 r6 r7 : Bool) (w : World) (H : spinetref03_Do.j0 (k + 1) 2 false b n h false N Z C V = some (r1, r2, r3, r4, r5, r6, r7)) :
    Calls Try.prog 10 #[.int .i64 2, .bool false, .int .u32 b, .int .u32 n, .int .u32 h, .agg #[.bool N, .bool Z, .bool C, .bool V]] w fun e w' => e = .returned (.agg #[.int .u32 r1, .int .u32 r2, .bool r3, .bool r4, .bool r5, .bool r6, .bool r7]) ∧ Below w.heap.size w w' := by
  simp only [spinetref03_Do.j0, spinetref03_carry.f, Int.add_zero, Int.sub_zero, Int.reduceEq, Int.reduceLT, Int.reduceGT, Bool.false_eq_true, reduceIte, Option.bind_some, decide_true, decide_false] at H
  obtain ⟨tb, Btb, H⟩ := Option.bind_eq_some_iff.mp H
  have Atb := Aside0.mk Btb
  clear Btb
  obtain ⟨tn, Btn, H⟩ := Option.bind_eq_some_iff.mp H
  have Atn := Aside0.mk Btn
  clear Btn
  obtain ⟨t, Bt, H⟩ := Option.bind_eq_some_iff.mp H
  have At := Aside0.mk Bt
  clear Bt
  obtain ⟨rfl, rfl, rfl, rfl, rfl, rfl, rfl⟩ : _ = r1 ∧ _ = r2 ∧ _ = r3 ∧ _ = r4 ∧ _ = r5 ∧ _ = r6 ∧ _ = r7 := by simpa only [Option.some.injEq, Prod.mk.injEq] using H
  clear H
  go_enter Try.func10, Try.ntmps10
  go_wp2_with (first | (go_at_call 21; (with_reducible refine (spinetref01_Signed.calls b tb _ Atb.out).mono ?_); rintro e w' ⟨rfl, ndtb, rfl⟩) | (go_at_call 21; (with_reducible refine (spinetref01_Signed.calls n tn _ Atn.out).mono ?_); rintro e w' ⟨rfl, ndtn, rfl⟩) | (go_at_call 23; (with_reducible refine (spinetref01_Asr.calls k b n t _ At.out).mono ?_); rintro e w' ⟨rfl, ndt, rfl⟩) | go_in)
  refine bodyPost_ret (v := _) (by first | (simp [results, Try.results10, go_sem]; done) | (simp [results, Try.results10, go_sem]; rfl)) rfl ⟨?_, ?_⟩
  · first | rfl | (simp [rw64z, rw64o, rw64i]; done)
  · exact by repeat (first | (with_reducible exact Below.refl _ _) | (with_reducible apply below_alloc) | (with_reducible apply pw_below_drewN) | (with_reducible apply Below.drew) | (refine Below.setCell ?_ (by first | exact Nat.le_refl _ | exact Nat.le_succ _ | (simp; done) | (simp; omega)) _))

set_option maxRecDepth 100000 in
set_option maxHeartbeats 4000000 in
theorem rdo_3_f (k : Nat) (b n h : Int) (N Z C V : Bool) (r1 r2 : Int) (r3 r4 r5 r6 r7 : Bool) (w : World) (H : spinetref03_Do.j0 (k + 1) 3 false b n h false N Z C V = some (r1, r2, r3, r4, r5, r6, r7)) :
    Calls Try.prog 10 #[.int .i64 3, .bool false, .int .u32 b, .int .u32 n, .int .u32 h, .agg #[.bool N, .bool Z, .bool C, .bool V]] w fun e w' => e = .returned (.agg #[.int .u32 r1, .int .u32 r2, .bool r3, .bool r4, .bool r5, .bool r6, .bool r7]) ∧ Below w.heap.size w w' := by
  simp only [spinetref03_Do.j0, spinetref03_carry.f, Int.add_zero, Int.sub_zero, Int.reduceEq, Int.reduceLT, Int.reduceGT, Bool.false_eq_true, reduceIte, Option.bind_some, decide_true, decide_false] at H
  obtain ⟨tb, Btb, H⟩ := Option.bind_eq_some_iff.mp H
  have Atb := Aside0.mk Btb
  clear Btb
  obtain ⟨tn, Btn, H⟩ := Option.bind_eq_some_iff.mp H
  have Atn := Aside0.mk Btn
  clear Btn
  obtain ⟨t, Bt, H⟩ := Option.bind_eq_some_iff.mp H
  have At := Aside0.mk Bt
  clear Bt
  obtain ⟨rfl, rfl, rfl, rfl, rfl, rfl, rfl⟩ : _ = r1 ∧ _ = r2 ∧ _ = r3 ∧ _ = r4 ∧ _ = r5 ∧ _ = r6 ∧ _ = r7 := by simpa only [Option.some.injEq, Prod.mk.injEq] using H
  clear H
  go_enter Try.func10, Try.ntmps10
  go_wp2_with (first | (go_at_call 21; (with_reducible refine (spinetref01_Signed.calls b tb _ Atb.out).mono ?_); rintro e w' ⟨rfl, ndtb, rfl⟩) | (go_at_call 21; (with_reducible refine (spinetref01_Signed.calls n tn _ Atn.out).mono ?_); rintro e w' ⟨rfl, ndtn, rfl⟩) | (go_at_call 24; (with_reducible refine (spinetref01_Ror.calls k b n t _ At.out).mono ?_); rintro e w' ⟨rfl, ndt, rfl⟩) | go_in)
  refine bodyPost_ret (v := _) (by first | (simp [results, Try.results10, go_sem]; done) | (simp [results, Try.results10, go_sem]; rfl)) rfl ⟨?_, ?_⟩
  · first | rfl | (simp [rw64z, rw64o, rw64i]; done)
  · exact by repeat (first | (with_reducible exact Below.refl _ _) | (with_reducible apply below_alloc) | (with_reducible apply pw_below_drewN) | (with_reducible apply Below.drew) | (refine Below.setCell ?_ (by first | exact Nat.le_refl _ | exact Nat.le_succ _ | (simp; done) | (simp; omega)) _))

set_option maxRecDepth 100000 in
set_option maxHeartbeats 4000000 in
theorem rdo_4_f (k : Nat) (b n h : Int) (N Z C V : Bool) (r1 r2 : Int) (r3 r4 r5 r6 r7 : Bool) (w : World) (H : spinetref03_Do.j0 (k + 1) 4 false b n h false N Z C V = some (r1, r2, r3, r4, r5, r6, r7)) :
    Calls Try.prog 10 #[.int .i64 4, .bool false, .int .u32 b, .int .u32 n, .int .u32 h, .agg #[.bool N, .bool Z, .bool C, .bool V]] w fun e w' => e = .returned (.agg #[.int .u32 r1, .int .u32 r2, .bool r3, .bool r4, .bool r5, .bool r6, .bool r7]) ∧ Below w.heap.size w w' := by
  simp only [spinetref03_Do.j0, spinetref03_carry.f, Int.add_zero, Int.sub_zero, Int.reduceEq, Int.reduceLT, Int.reduceGT, Bool.false_eq_true, reduceIte, Option.bind_some, decide_true, decide_false] at H
  obtain ⟨tb, Btb, H⟩ := Option.bind_eq_some_iff.mp H
  have Atb := Aside0.mk Btb
  clear Btb
  obtain ⟨tn, Btn, H⟩ := Option.bind_eq_some_iff.mp H
  have Atn := Aside0.mk Btn
  clear Btn
  obtain ⟨rfl, rfl, rfl, rfl, rfl, rfl, rfl⟩ : _ = r1 ∧ _ = r2 ∧ _ = r3 ∧ _ = r4 ∧ _ = r5 ∧ _ = r6 ∧ _ = r7 := by simpa only [Option.some.injEq, Prod.mk.injEq] using H
  clear H
  go_enter Try.func10, Try.ntmps10
  go_wp2_with (first | (go_at_call 21; (with_reducible refine (spinetref01_Signed.calls b tb _ Atb.out).mono ?_); rintro e w' ⟨rfl, ndtb, rfl⟩) | (go_at_call 21; (with_reducible refine (spinetref01_Signed.calls n tn _ Atn.out).mono ?_); rintro e w' ⟨rfl, ndtn, rfl⟩) | go_in)
  refine bodyPost_ret (v := _) (by first | (simp [results, Try.results10, go_sem]; done) | (simp [results, Try.results10, go_sem]; rfl)) rfl ⟨?_, ?_⟩
  · first | rfl | (simp [rw64z, rw64o, rw64i]; done)
  · exact by repeat (first | (with_reducible exact Below.refl _ _) | (with_reducible apply below_alloc) | (with_reducible apply pw_below_drewN) | (with_reducible apply Below.drew) | (refine Below.setCell ?_ (by first | exact Nat.le_refl _ | exact Nat.le_succ _ | (simp; done) | (simp; omega)) _))

set_option maxRecDepth 100000 in
set_option maxHeartbeats 4000000 in
theorem rdo_5_f (k : Nat) (b n h : Int) (N Z C V : Bool) (r1 r2 : Int) (r3 r4 r5 r6 r7 : Bool) (w : World) (H : spinetref03_Do.j0 (k + 1) 5 false b n h false N Z C V = some (r1, r2, r3, r4, r5, r6, r7)) :
    Calls Try.prog 10 #[.int .i64 5, .bool false, .int .u32 b, .int .u32 n, .int .u32 h, .agg #[.bool N, .bool Z, .bool C, .bool V]] w fun e w' => e = .returned (.agg #[.int .u32 r1, .int .u32 r2, .bool r3, .bool r4, .bool r5, .bool r6, .bool r7]) ∧ Below w.heap.size w w' := by
  simp only [spinetref03_Do.j0, spinetref03_carry.f, Int.add_zero, Int.sub_zero, Int.reduceEq, Int.reduceLT, Int.reduceGT, Bool.false_eq_true, reduceIte, Option.bind_some, decide_true, decide_false] at H
  obtain ⟨tb, Btb, H⟩ := Option.bind_eq_some_iff.mp H
  have Atb := Aside0.mk Btb
  clear Btb
  obtain ⟨tn, Btn, H⟩ := Option.bind_eq_some_iff.mp H
  have Atn := Aside0.mk Btn
  clear Btn
  obtain ⟨rfl, rfl, rfl, rfl, rfl, rfl, rfl⟩ : _ = r1 ∧ _ = r2 ∧ _ = r3 ∧ _ = r4 ∧ _ = r5 ∧ _ = r6 ∧ _ = r7 := by simpa only [Option.some.injEq, Prod.mk.injEq] using H
  clear H
  go_enter Try.func10, Try.ntmps10
  go_wp2_with (first | (go_at_call 21; (with_reducible refine (spinetref01_Signed.calls b tb _ Atb.out).mono ?_); rintro e w' ⟨rfl, ndtb, rfl⟩) | (go_at_call 21; (with_reducible refine (spinetref01_Signed.calls n tn _ Atn.out).mono ?_); rintro e w' ⟨rfl, ndtn, rfl⟩) | go_in)
  refine bodyPost_ret (v := _) (by first | (simp [results, Try.results10, go_sem]; done) | (simp [results, Try.results10, go_sem]; rfl)) rfl ⟨?_, ?_⟩
  · first | rfl | (simp [rw64z, rw64o, rw64i]; done)
  · exact by repeat (first | (with_reducible exact Below.refl _ _) | (with_reducible apply below_alloc) | (with_reducible apply pw_below_drewN) | (with_reducible apply Below.drew) | (refine Below.setCell ?_ (by first | exact Nat.le_refl _ | exact Nat.le_succ _ | (simp; done) | (simp; omega)) _))

set_option maxRecDepth 100000 in
set_option maxHeartbeats 4000000 in
theorem rdo_6_f (k : Nat) (b n h : Int) (N Z C V : Bool) (r1 r2 : Int) (r3 r4 r5 r6 r7 : Bool) (w : World) (H : spinetref03_Do.j0 (k + 1) 6 false b n h false N Z C V = some (r1, r2, r3, r4, r5, r6, r7)) :
    Calls Try.prog 10 #[.int .i64 6, .bool false, .int .u32 b, .int .u32 n, .int .u32 h, .agg #[.bool N, .bool Z, .bool C, .bool V]] w fun e w' => e = .returned (.agg #[.int .u32 r1, .int .u32 r2, .bool r3, .bool r4, .bool r5, .bool r6, .bool r7]) ∧ Below w.heap.size w w' := by
  simp only [spinetref03_Do.j0, spinetref03_carry.f, Int.add_zero, Int.sub_zero, Int.reduceEq, Int.reduceLT, Int.reduceGT, Bool.false_eq_true, reduceIte, Option.bind_some, decide_true, decide_false] at H
  obtain ⟨tb, Btb, H⟩ := Option.bind_eq_some_iff.mp H
  have Atb := Aside0.mk Btb
  clear Btb
  obtain ⟨tn, Btn, H⟩ := Option.bind_eq_some_iff.mp H
  have Atn := Aside0.mk Btn
  clear Btn
  obtain ⟨rfl, rfl, rfl, rfl, rfl, rfl, rfl⟩ : _ = r1 ∧ _ = r2 ∧ _ = r3 ∧ _ = r4 ∧ _ = r5 ∧ _ = r6 ∧ _ = r7 := by simpa only [Option.some.injEq, Prod.mk.injEq] using H
  clear H
  go_enter Try.func10, Try.ntmps10
  go_wp2_with (first | (go_at_call 21; (with_reducible refine (spinetref01_Signed.calls b tb _ Atb.out).mono ?_); rintro e w' ⟨rfl, ndtb, rfl⟩) | (go_at_call 21; (with_reducible refine (spinetref01_Signed.calls n tn _ Atn.out).mono ?_); rintro e w' ⟨rfl, ndtn, rfl⟩) | go_in)
  refine bodyPost_ret (v := _) (by first | (simp [results, Try.results10, go_sem]; done) | (simp [results, Try.results10, go_sem]; rfl)) rfl ⟨?_, ?_⟩
  · first | rfl | (simp [rw64z, rw64o, rw64i]; done)
  · exact by repeat (first | (with_reducible exact Below.refl _ _) | (with_reducible apply below_alloc) | (with_reducible apply pw_below_drewN) | (with_reducible apply Below.drew) | (refine Below.setCell ?_ (by first | exact Nat.le_refl _ | exact Nat.le_succ _ | (simp; done) | (simp; omega)) _))

set_option maxRecDepth 100000 in
set_option maxHeartbeats 4000000 in
theorem rdo_7_f (k : Nat) (b n h : Int) (N Z C V : Bool) (r1 r2 : Int) (r3 r4 r5 r6 r7 : Bool) (w : World) (H : spinetref03_Do.j0 (k + 1) 7 false b n h false N Z C V = some (r1, r2, r3, r4, r5, r6, r7)) :
    Calls Try.prog 10 #[.int .i64 7, .bool false, .int .u32 b, .int .u32 n, .int .u32 h, .agg #[.bool N, .bool Z, .bool C, .bool V]] w fun e w' => e = .returned (.agg #[.int .u32 r1, .int .u32 r2, .bool r3, .bool r4, .bool r5, .bool r6, .bool r7]) ∧ Below w.heap.size w w' := by
  simp only [spinetref03_Do.j0, spinetref03_carry.f, Int.add_zero, Int.sub_zero, Int.reduceEq, Int.reduceLT, Int.reduceGT, Bool.false_eq_true, reduceIte, Option.bind_some, decide_true, decide_false] at H
  obtain ⟨tb, Btb, H⟩ := Option.bind_eq_some_iff.mp H
  have Atb := Aside0.mk Btb
  clear Btb
  obtain ⟨tn, Btn, H⟩ := Option.bind_eq_some_iff.mp H
  have Atn := Aside0.mk Btn
  clear Btn
  obtain ⟨rfl, rfl, rfl, rfl, rfl, rfl, rfl⟩ : _ = r1 ∧ _ = r2 ∧ _ = r3 ∧ _ = r4 ∧ _ = r5 ∧ _ = r6 ∧ _ = r7 := by simpa only [Option.some.injEq, Prod.mk.injEq] using H
  clear H
  go_enter Try.func10, Try.ntmps10
  go_wp2_with (first | (go_at_call 21; (with_reducible refine (spinetref01_Signed.calls b tb _ Atb.out).mono ?_); rintro e w' ⟨rfl, ndtb, rfl⟩) | (go_at_call 21; (with_reducible refine (spinetref01_Signed.calls n tn _ Atn.out).mono ?_); rintro e w' ⟨rfl, ndtn, rfl⟩) | go_in)
  refine bodyPost_ret (v := _) (by first | (simp [results, Try.results10, go_sem]; done) | (simp [results, Try.results10, go_sem]; rfl)) rfl ⟨?_, ?_⟩
  · first | rfl | (simp [rw64z, rw64o, rw64i]; done)
  · exact by repeat (first | (with_reducible exact Below.refl _ _) | (with_reducible apply below_alloc) | (with_reducible apply pw_below_drewN) | (with_reducible apply Below.drew) | (refine Below.setCell ?_ (by first | exact Nat.le_refl _ | exact Nat.le_succ _ | (simp; done) | (simp; omega)) _))

set_option maxRecDepth 100000 in
set_option maxHeartbeats 4000000 in
theorem rdo_8_f (k : Nat) (b n h : Int) (N Z C V : Bool) (r1 r2 : Int) (r3 r4 r5 r6 r7 : Bool) (w : World) (H : spinetref03_Do.j0 (k + 1) 8 false b n h false N Z C V = some (r1, r2, r3, r4, r5, r6, r7)) :
    Calls Try.prog 10 #[.int .i64 8, .bool false, .int .u32 b, .int .u32 n, .int .u32 h, .agg #[.bool N, .bool Z, .bool C, .bool V]] w fun e w' => e = .returned (.agg #[.int .u32 r1, .int .u32 r2, .bool r3, .bool r4, .bool r5, .bool r6, .bool r7]) ∧ Below w.heap.size w w' := by
  simp only [spinetref03_Do.j0, spinetref03_carry.f, Int.add_zero, Int.sub_zero, Int.reduceEq, Int.reduceLT, Int.reduceGT, Bool.false_eq_true, reduceIte, Option.bind_some, decide_true, decide_false] at H
  obtain ⟨tb, Btb, H⟩ := Option.bind_eq_some_iff.mp H
  have Atb := Aside0.mk Btb
  clear Btb
  try simp only [Int.add_zero, Int.sub_zero, Int.reduceEq, Int.reduceLT, Int.reduceGT, Bool.false_eq_true, reduceIte, Option.bind_some, decide_true, decide_false] at H
  obtain ⟨tn, Btn, H⟩ := Option.bind_eq_some_iff.mp H
  have Atn := Aside0.mk Btn
  clear Btn
  try simp only [Int.add_zero, Int.sub_zero, Int.reduceEq, Int.reduceLT, Int.reduceGT, Bool.false_eq_true, reduceIte, Option.bind_some, decide_true, decide_false] at H
  obtain ⟨tw, Btw, H⟩ := Option.bind_eq_some_iff.mp H
  have Atw := Aside0.mk Btw
  clear Btw
  try simp only [Int.add_zero, Int.sub_zero, Int.reduceEq, Int.reduceLT, Int.reduceGT, Bool.false_eq_true, reduceIte, Option.bind_some, decide_true, decide_false] at H
  obtain ⟨tf, Btf, H⟩ := Option.bind_eq_some_iff.mp H
  have Atf := Aside0.mk Btf
  clear Btf
  try simp only [Int.add_zero, Int.sub_zero, Int.reduceEq, Int.reduceLT, Int.reduceGT, Bool.false_eq_true, reduceIte, Option.bind_some, decide_true, decide_false] at H
  obtain ⟨rfl, rfl, rfl, rfl, rfl, rfl, rfl⟩ : _ = r1 ∧ _ = r2 ∧ _ = r3 ∧ _ = r4 ∧ _ = r5 ∧ _ = r6 ∧ _ = r7 := by simpa only [Option.some.injEq, Prod.mk.injEq] using H
  clear H
  go_enter Try.func10, Try.ntmps10
  go_wp2_with (first | (go_at_call 21; (with_reducible refine (spinetref01_Signed.calls b tb _ Atb.out).mono ?_); rintro e w' ⟨rfl, ndtb, rfl⟩) | (go_at_call 21; (with_reducible refine (spinetref01_Signed.calls n tn _ Atn.out).mono ?_); rintro e w' ⟨rfl, ndtn, rfl⟩) | (go_at_call 26; (with_reducible refine (spinetref01_Word.calls _ tw _ Atw.out).mono ?_); rintro e w' ⟨rfl, ndtw, rfl⟩) | (go_at_call 27; (with_reducible refine (spinetref01_Fits.calls k _ _ tf _ Atf.out).mono ?_); rintro e w' ⟨rfl, ndtf, rfl⟩) | go_in)
  refine bodyPost_ret (v := _) (by first | (simp [results, Try.results10, go_sem]; done) | (simp [results, Try.results10, go_sem]; rfl)) rfl ⟨?_, ?_⟩
  · first | rfl | (simp [rw64z, rw64o, rw64i]; done)
  · exact by repeat (first | (with_reducible exact Below.refl _ _) | (with_reducible apply below_alloc) | (with_reducible apply pw_below_drewN) | (with_reducible apply Below.drew) | (refine Below.setCell ?_ (by first | exact Nat.le_refl _ | exact Nat.le_succ _ | (simp; done) | (simp; omega)) _))

set_option maxRecDepth 100000 in
set_option maxHeartbeats 4000000 in
theorem rdo_8_u_n (k : Nat) (b n h : Int) (N Z V : Bool) (r1 r2 : Int) (r3 r4 r5 r6 r7 : Bool) (w : World) (H : spinetref03_Do.j0 (k + 1) 8 true b n h false N Z false V = some (r1, r2, r3, r4, r5, r6, r7)) :
    Calls Try.prog 10 #[.int .i64 8, .bool true, .int .u32 b, .int .u32 n, .int .u32 h, .agg #[.bool N, .bool Z, .bool false, .bool V]] w fun e w' => e = .returned (.agg #[.int .u32 r1, .int .u32 r2, .bool r3, .bool r4, .bool r5, .bool r6, .bool r7]) ∧ Below w.heap.size w w' := by
  simp only [spinetref03_Do.j0, spinetref03_carry.f, Int.add_zero, Int.sub_zero, Int.reduceEq, Int.reduceLT, Int.reduceGT, Bool.false_eq_true, reduceIte, Option.bind_some, decide_true, decide_false] at H
  obtain ⟨tb, Btb, H⟩ := Option.bind_eq_some_iff.mp H
  have Atb := Aside0.mk Btb
  clear Btb
  try simp only [Int.add_zero, Int.sub_zero, Int.reduceEq, Int.reduceLT, Int.reduceGT, Bool.false_eq_true, reduceIte, Option.bind_some, decide_true, decide_false] at H
  obtain ⟨tn, Btn, H⟩ := Option.bind_eq_some_iff.mp H
  have Atn := Aside0.mk Btn
  clear Btn
  try simp only [Int.add_zero, Int.sub_zero, Int.reduceEq, Int.reduceLT, Int.reduceGT, Bool.false_eq_true, reduceIte, Option.bind_some, decide_true, decide_false] at H
  obtain ⟨tw, Btw, H⟩ := Option.bind_eq_some_iff.mp H
  have Atw := Aside0.mk Btw
  clear Btw
  try simp only [Int.add_zero, Int.sub_zero, Int.reduceEq, Int.reduceLT, Int.reduceGT, Bool.false_eq_true, reduceIte, Option.bind_some, decide_true, decide_false] at H
  obtain ⟨tf, Btf, H⟩ := Option.bind_eq_some_iff.mp H
  have Atf := Aside0.mk Btf
  clear Btf
  try simp only [Int.add_zero, Int.sub_zero, Int.reduceEq, Int.reduceLT, Int.reduceGT, Bool.false_eq_true, reduceIte, Option.bind_some, decide_true, decide_false] at H
  obtain ⟨rfl, rfl, rfl, rfl, rfl, rfl, rfl⟩ : _ = r1 ∧ _ = r2 ∧ _ = r3 ∧ _ = r4 ∧ _ = r5 ∧ _ = r6 ∧ _ = r7 := by simpa only [Option.some.injEq, Prod.mk.injEq] using H
  clear H
  go_enter Try.func10, Try.ntmps10
  go_wp2_with (first | (go_at_call 21; (with_reducible refine (spinetref01_Signed.calls b tb _ Atb.out).mono ?_); rintro e w' ⟨rfl, ndtb, rfl⟩) | (go_at_call 21; (with_reducible refine (spinetref01_Signed.calls n tn _ Atn.out).mono ?_); rintro e w' ⟨rfl, ndtn, rfl⟩) | (go_at_call 26; (with_reducible refine (spinetref01_Word.calls _ tw _ Atw.out).mono ?_); rintro e w' ⟨rfl, ndtw, rfl⟩) | (go_at_call 27; (with_reducible refine (spinetref01_Fits.calls k _ _ tf _ Atf.out).mono ?_); rintro e w' ⟨rfl, ndtf, rfl⟩) | go_in)
  refine bodyPost_ret (v := _) (by first | (simp [results, Try.results10, go_sem]; done) | (simp [results, Try.results10, go_sem]; rfl)) rfl ⟨?_, ?_⟩
  · first | rfl | (simp [rw64z, rw64o, rw64i]; done)
  · exact by repeat (first | (with_reducible exact Below.refl _ _) | (with_reducible apply below_alloc) | (with_reducible apply pw_below_drewN) | (with_reducible apply Below.drew) | (refine Below.setCell ?_ (by first | exact Nat.le_refl _ | exact Nat.le_succ _ | (simp; done) | (simp; omega)) _))

set_option maxRecDepth 100000 in
set_option maxHeartbeats 4000000 in
theorem rdo_8_u_c (k : Nat) (b n h : Int) (N Z V : Bool) (r1 r2 : Int) (r3 r4 r5 r6 r7 : Bool) (w : World) (H : spinetref03_Do.j0 (k + 1) 8 true b n h false N Z true V = some (r1, r2, r3, r4, r5, r6, r7)) :
    Calls Try.prog 10 #[.int .i64 8, .bool true, .int .u32 b, .int .u32 n, .int .u32 h, .agg #[.bool N, .bool Z, .bool true, .bool V]] w fun e w' => e = .returned (.agg #[.int .u32 r1, .int .u32 r2, .bool r3, .bool r4, .bool r5, .bool r6, .bool r7]) ∧ Below w.heap.size w w' := by
  simp only [spinetref03_Do.j0, spinetref03_carry.f, Int.add_zero, Int.sub_zero, Int.reduceEq, Int.reduceLT, Int.reduceGT, Bool.false_eq_true, reduceIte, Option.bind_some, decide_true, decide_false] at H
  obtain ⟨tb, Btb, H⟩ := Option.bind_eq_some_iff.mp H
  have Atb := Aside0.mk Btb
  clear Btb
  try simp only [Int.add_zero, Int.sub_zero, Int.reduceEq, Int.reduceLT, Int.reduceGT, Bool.false_eq_true, reduceIte, Option.bind_some, decide_true, decide_false] at H
  obtain ⟨tn, Btn, H⟩ := Option.bind_eq_some_iff.mp H
  have Atn := Aside0.mk Btn
  clear Btn
  try simp only [Int.add_zero, Int.sub_zero, Int.reduceEq, Int.reduceLT, Int.reduceGT, Bool.false_eq_true, reduceIte, Option.bind_some, decide_true, decide_false] at H
  obtain ⟨tw, Btw, H⟩ := Option.bind_eq_some_iff.mp H
  have Atw := Aside0.mk Btw
  clear Btw
  try simp only [Int.add_zero, Int.sub_zero, Int.reduceEq, Int.reduceLT, Int.reduceGT, Bool.false_eq_true, reduceIte, Option.bind_some, decide_true, decide_false] at H
  obtain ⟨tf, Btf, H⟩ := Option.bind_eq_some_iff.mp H
  have Atf := Aside0.mk Btf
  clear Btf
  try simp only [Int.add_zero, Int.sub_zero, Int.reduceEq, Int.reduceLT, Int.reduceGT, Bool.false_eq_true, reduceIte, Option.bind_some, decide_true, decide_false] at H
  obtain ⟨rfl, rfl, rfl, rfl, rfl, rfl, rfl⟩ : _ = r1 ∧ _ = r2 ∧ _ = r3 ∧ _ = r4 ∧ _ = r5 ∧ _ = r6 ∧ _ = r7 := by simpa only [Option.some.injEq, Prod.mk.injEq] using H
  clear H
  go_enter Try.func10, Try.ntmps10
  go_wp2_with (first | (go_at_call 21; (with_reducible refine (spinetref01_Signed.calls b tb _ Atb.out).mono ?_); rintro e w' ⟨rfl, ndtb, rfl⟩) | (go_at_call 21; (with_reducible refine (spinetref01_Signed.calls n tn _ Atn.out).mono ?_); rintro e w' ⟨rfl, ndtn, rfl⟩) | (go_at_call 26; (with_reducible refine (spinetref01_Word.calls _ tw _ Atw.out).mono ?_); rintro e w' ⟨rfl, ndtw, rfl⟩) | (go_at_call 27; (with_reducible refine (spinetref01_Fits.calls k _ _ tf _ Atf.out).mono ?_); rintro e w' ⟨rfl, ndtf, rfl⟩) | go_in)
  refine bodyPost_ret (v := _) (by first | (simp [results, Try.results10, go_sem]; done) | (simp [results, Try.results10, go_sem]; rfl)) rfl ⟨?_, ?_⟩
  · first | rfl | (simp [rw64z, rw64o, rw64i]; done)
  · exact by repeat (first | (with_reducible exact Below.refl _ _) | (with_reducible apply below_alloc) | (with_reducible apply pw_below_drewN) | (with_reducible apply Below.drew) | (refine Below.setCell ?_ (by first | exact Nat.le_refl _ | exact Nat.le_succ _ | (simp; done) | (simp; omega)) _))

set_option maxRecDepth 100000 in
set_option maxHeartbeats 4000000 in
theorem rdo_9_f (k : Nat) (b n h : Int) (N Z C V : Bool) (r1 r2 : Int) (r3 r4 r5 r6 r7 : Bool) (w : World) (H : spinetref03_Do.j0 (k + 1) 9 false b n h false N Z C V = some (r1, r2, r3, r4, r5, r6, r7)) :
    Calls Try.prog 10 #[.int .i64 9, .bool false, .int .u32 b, .int .u32 n, .int .u32 h, .agg #[.bool N, .bool Z, .bool C, .bool V]] w fun e w' => e = .returned (.agg #[.int .u32 r1, .int .u32 r2, .bool r3, .bool r4, .bool r5, .bool r6, .bool r7]) ∧ Below w.heap.size w w' := by
  simp only [spinetref03_Do.j0, spinetref03_carry.f, Int.add_zero, Int.sub_zero, Int.reduceEq, Int.reduceLT, Int.reduceGT, Bool.false_eq_true, reduceIte, Option.bind_some, decide_true, decide_false] at H
  obtain ⟨tb, Btb, H⟩ := Option.bind_eq_some_iff.mp H
  have Atb := Aside0.mk Btb
  clear Btb
  try simp only [Int.add_zero, Int.sub_zero, Int.reduceEq, Int.reduceLT, Int.reduceGT, Bool.false_eq_true, reduceIte, Option.bind_some, decide_true, decide_false] at H
  obtain ⟨tn, Btn, H⟩ := Option.bind_eq_some_iff.mp H
  have Atn := Aside0.mk Btn
  clear Btn
  try simp only [Int.add_zero, Int.sub_zero, Int.reduceEq, Int.reduceLT, Int.reduceGT, Bool.false_eq_true, reduceIte, Option.bind_some, decide_true, decide_false] at H
  obtain ⟨tw, Btw, H⟩ := Option.bind_eq_some_iff.mp H
  have Atw := Aside0.mk Btw
  clear Btw
  try simp only [Int.add_zero, Int.sub_zero, Int.reduceEq, Int.reduceLT, Int.reduceGT, Bool.false_eq_true, reduceIte, Option.bind_some, decide_true, decide_false] at H
  obtain ⟨tf, Btf, H⟩ := Option.bind_eq_some_iff.mp H
  have Atf := Aside0.mk Btf
  clear Btf
  try simp only [Int.add_zero, Int.sub_zero, Int.reduceEq, Int.reduceLT, Int.reduceGT, Bool.false_eq_true, reduceIte, Option.bind_some, decide_true, decide_false] at H
  obtain ⟨rfl, rfl, rfl, rfl, rfl, rfl, rfl⟩ : _ = r1 ∧ _ = r2 ∧ _ = r3 ∧ _ = r4 ∧ _ = r5 ∧ _ = r6 ∧ _ = r7 := by simpa only [Option.some.injEq, Prod.mk.injEq] using H
  clear H
  go_enter Try.func10, Try.ntmps10
  go_wp2_with (first | (go_at_call 21; (with_reducible refine (spinetref01_Signed.calls b tb _ Atb.out).mono ?_); rintro e w' ⟨rfl, ndtb, rfl⟩) | (go_at_call 21; (with_reducible refine (spinetref01_Signed.calls n tn _ Atn.out).mono ?_); rintro e w' ⟨rfl, ndtn, rfl⟩) | (go_at_call 26; (with_reducible refine (spinetref01_Word.calls _ tw _ Atw.out).mono ?_); rintro e w' ⟨rfl, ndtw, rfl⟩) | (go_at_call 27; (with_reducible refine (spinetref01_Fits.calls k _ _ tf _ Atf.out).mono ?_); rintro e w' ⟨rfl, ndtf, rfl⟩) | go_in)
  refine bodyPost_ret (v := _) (by first | (simp [results, Try.results10, go_sem]; done) | (simp [results, Try.results10, go_sem]; rfl)) rfl ⟨?_, ?_⟩
  · first | rfl | (simp [rw64z, rw64o, rw64i]; done)
  · exact by repeat (first | (with_reducible exact Below.refl _ _) | (with_reducible apply below_alloc) | (with_reducible apply pw_below_drewN) | (with_reducible apply Below.drew) | (refine Below.setCell ?_ (by first | exact Nat.le_refl _ | exact Nat.le_succ _ | (simp; done) | (simp; omega)) _))

set_option maxRecDepth 100000 in
set_option maxHeartbeats 4000000 in
theorem rdo_9_u_n (k : Nat) (b n h : Int) (N Z V : Bool) (r1 r2 : Int) (r3 r4 r5 r6 r7 : Bool) (w : World) (H : spinetref03_Do.j0 (k + 1) 9 true b n h false N Z false V = some (r1, r2, r3, r4, r5, r6, r7)) :
    Calls Try.prog 10 #[.int .i64 9, .bool true, .int .u32 b, .int .u32 n, .int .u32 h, .agg #[.bool N, .bool Z, .bool false, .bool V]] w fun e w' => e = .returned (.agg #[.int .u32 r1, .int .u32 r2, .bool r3, .bool r4, .bool r5, .bool r6, .bool r7]) ∧ Below w.heap.size w w' := by
  simp only [spinetref03_Do.j0, spinetref03_carry.f, Int.add_zero, Int.sub_zero, Int.reduceEq, Int.reduceLT, Int.reduceGT, Bool.false_eq_true, reduceIte, Option.bind_some, decide_true, decide_false] at H
  obtain ⟨tb, Btb, H⟩ := Option.bind_eq_some_iff.mp H
  have Atb := Aside0.mk Btb
  clear Btb
  try simp only [Int.add_zero, Int.sub_zero, Int.reduceEq, Int.reduceLT, Int.reduceGT, Bool.false_eq_true, reduceIte, Option.bind_some, decide_true, decide_false] at H
  obtain ⟨tn, Btn, H⟩ := Option.bind_eq_some_iff.mp H
  have Atn := Aside0.mk Btn
  clear Btn
  try simp only [Int.add_zero, Int.sub_zero, Int.reduceEq, Int.reduceLT, Int.reduceGT, Bool.false_eq_true, reduceIte, Option.bind_some, decide_true, decide_false] at H
  obtain ⟨tw, Btw, H⟩ := Option.bind_eq_some_iff.mp H
  have Atw := Aside0.mk Btw
  clear Btw
  try simp only [Int.add_zero, Int.sub_zero, Int.reduceEq, Int.reduceLT, Int.reduceGT, Bool.false_eq_true, reduceIte, Option.bind_some, decide_true, decide_false] at H
  obtain ⟨tf, Btf, H⟩ := Option.bind_eq_some_iff.mp H
  have Atf := Aside0.mk Btf
  clear Btf
  try simp only [Int.add_zero, Int.sub_zero, Int.reduceEq, Int.reduceLT, Int.reduceGT, Bool.false_eq_true, reduceIte, Option.bind_some, decide_true, decide_false] at H
  obtain ⟨rfl, rfl, rfl, rfl, rfl, rfl, rfl⟩ : _ = r1 ∧ _ = r2 ∧ _ = r3 ∧ _ = r4 ∧ _ = r5 ∧ _ = r6 ∧ _ = r7 := by simpa only [Option.some.injEq, Prod.mk.injEq] using H
  clear H
  go_enter Try.func10, Try.ntmps10
  go_wp2_with (first | (go_at_call 21; (with_reducible refine (spinetref01_Signed.calls b tb _ Atb.out).mono ?_); rintro e w' ⟨rfl, ndtb, rfl⟩) | (go_at_call 21; (with_reducible refine (spinetref01_Signed.calls n tn _ Atn.out).mono ?_); rintro e w' ⟨rfl, ndtn, rfl⟩) | (go_at_call 26; (with_reducible refine (spinetref01_Word.calls _ tw _ Atw.out).mono ?_); rintro e w' ⟨rfl, ndtw, rfl⟩) | (go_at_call 27; (with_reducible refine (spinetref01_Fits.calls k _ _ tf _ Atf.out).mono ?_); rintro e w' ⟨rfl, ndtf, rfl⟩) | go_in)
  refine bodyPost_ret (v := _) (by first | (simp [results, Try.results10, go_sem]; done) | (simp [results, Try.results10, go_sem]; rfl)) rfl ⟨?_, ?_⟩
  · first | rfl | (simp [rw64z, rw64o, rw64i]; done)
  · exact by repeat (first | (with_reducible exact Below.refl _ _) | (with_reducible apply below_alloc) | (with_reducible apply pw_below_drewN) | (with_reducible apply Below.drew) | (refine Below.setCell ?_ (by first | exact Nat.le_refl _ | exact Nat.le_succ _ | (simp; done) | (simp; omega)) _))

set_option maxRecDepth 100000 in
set_option maxHeartbeats 4000000 in
theorem rdo_9_u_c (k : Nat) (b n h : Int) (N Z V : Bool) (r1 r2 : Int) (r3 r4 r5 r6 r7 : Bool) (w : World) (H : spinetref03_Do.j0 (k + 1) 9 true b n h false N Z true V = some (r1, r2, r3, r4, r5, r6, r7)) :
    Calls Try.prog 10 #[.int .i64 9, .bool true, .int .u32 b, .int .u32 n, .int .u32 h, .agg #[.bool N, .bool Z, .bool true, .bool V]] w fun e w' => e = .returned (.agg #[.int .u32 r1, .int .u32 r2, .bool r3, .bool r4, .bool r5, .bool r6, .bool r7]) ∧ Below w.heap.size w w' := by
  simp only [spinetref03_Do.j0, spinetref03_carry.f, Int.add_zero, Int.sub_zero, Int.reduceEq, Int.reduceLT, Int.reduceGT, Bool.false_eq_true, reduceIte, Option.bind_some, decide_true, decide_false] at H
  obtain ⟨tb, Btb, H⟩ := Option.bind_eq_some_iff.mp H
  have Atb := Aside0.mk Btb
  clear Btb
  try simp only [Int.add_zero, Int.sub_zero, Int.reduceEq, Int.reduceLT, Int.reduceGT, Bool.false_eq_true, reduceIte, Option.bind_some, decide_true, decide_false] at H
  obtain ⟨tn, Btn, H⟩ := Option.bind_eq_some_iff.mp H
  have Atn := Aside0.mk Btn
  clear Btn
  try simp only [Int.add_zero, Int.sub_zero, Int.reduceEq, Int.reduceLT, Int.reduceGT, Bool.false_eq_true, reduceIte, Option.bind_some, decide_true, decide_false] at H
  obtain ⟨tw, Btw, H⟩ := Option.bind_eq_some_iff.mp H
  have Atw := Aside0.mk Btw
  clear Btw
  try simp only [Int.add_zero, Int.sub_zero, Int.reduceEq, Int.reduceLT, Int.reduceGT, Bool.false_eq_true, reduceIte, Option.bind_some, decide_true, decide_false] at H
  obtain ⟨tf, Btf, H⟩ := Option.bind_eq_some_iff.mp H
  have Atf := Aside0.mk Btf
  clear Btf
  try simp only [Int.add_zero, Int.sub_zero, Int.reduceEq, Int.reduceLT, Int.reduceGT, Bool.false_eq_true, reduceIte, Option.bind_some, decide_true, decide_false] at H
  obtain ⟨rfl, rfl, rfl, rfl, rfl, rfl, rfl⟩ : _ = r1 ∧ _ = r2 ∧ _ = r3 ∧ _ = r4 ∧ _ = r5 ∧ _ = r6 ∧ _ = r7 := by simpa only [Option.some.injEq, Prod.mk.injEq] using H
  clear H
  go_enter Try.func10, Try.ntmps10
  go_wp2_with (first | (go_at_call 21; (with_reducible refine (spinetref01_Signed.calls b tb _ Atb.out).mono ?_); rintro e w' ⟨rfl, ndtb, rfl⟩) | (go_at_call 21; (with_reducible refine (spinetref01_Signed.calls n tn _ Atn.out).mono ?_); rintro e w' ⟨rfl, ndtn, rfl⟩) | (go_at_call 26; (with_reducible refine (spinetref01_Word.calls _ tw _ Atw.out).mono ?_); rintro e w' ⟨rfl, ndtw, rfl⟩) | (go_at_call 27; (with_reducible refine (spinetref01_Fits.calls k _ _ tf _ Atf.out).mono ?_); rintro e w' ⟨rfl, ndtf, rfl⟩) | go_in)
  refine bodyPost_ret (v := _) (by first | (simp [results, Try.results10, go_sem]; done) | (simp [results, Try.results10, go_sem]; rfl)) rfl ⟨?_, ?_⟩
  · first | rfl | (simp [rw64z, rw64o, rw64i]; done)
  · exact by repeat (first | (with_reducible exact Below.refl _ _) | (with_reducible apply below_alloc) | (with_reducible apply pw_below_drewN) | (with_reducible apply Below.drew) | (refine Below.setCell ?_ (by first | exact Nat.le_refl _ | exact Nat.le_succ _ | (simp; done) | (simp; omega)) _))

set_option maxRecDepth 100000 in
set_option maxHeartbeats 4000000 in
theorem rdo_10_f (k : Nat) (b n h : Int) (N Z C V : Bool) (r1 r2 : Int) (r3 r4 r5 r6 r7 : Bool) (w : World) (H : spinetref03_Do.j0 (k + 1) 10 false b n h false N Z C V = some (r1, r2, r3, r4, r5, r6, r7)) :
    Calls Try.prog 10 #[.int .i64 10, .bool false, .int .u32 b, .int .u32 n, .int .u32 h, .agg #[.bool N, .bool Z, .bool C, .bool V]] w fun e w' => e = .returned (.agg #[.int .u32 r1, .int .u32 r2, .bool r3, .bool r4, .bool r5, .bool r6, .bool r7]) ∧ Below w.heap.size w w' := by
  simp only [spinetref03_Do.j0, spinetref03_carry.f, Int.add_zero, Int.sub_zero, Int.reduceEq, Int.reduceLT, Int.reduceGT, Bool.false_eq_true, reduceIte, Option.bind_some, decide_true, decide_false] at H
  obtain ⟨tb, Btb, H⟩ := Option.bind_eq_some_iff.mp H
  have Atb := Aside0.mk Btb
  clear Btb
  obtain ⟨tn, Btn, H⟩ := Option.bind_eq_some_iff.mp H
  have Atn := Aside0.mk Btn
  clear Btn
  obtain ⟨tw, Btw, H⟩ := Option.bind_eq_some_iff.mp H
  have Atw := Aside0.mk Btw
  clear Btw
  obtain ⟨tq, Btq, H⟩ := Option.bind_eq_some_iff.mp H
  have Atq := Aside0.mk Btq
  clear Btq
  obtain ⟨tv, Btv, H⟩ := Option.bind_eq_some_iff.mp H
  have Atv := Aside0.mk Btv
  clear Btv
  obtain ⟨rfl, rfl, rfl, rfl, rfl, rfl, rfl⟩ : _ = r1 ∧ _ = r2 ∧ _ = r3 ∧ _ = r4 ∧ _ = r5 ∧ _ = r6 ∧ _ = r7 := by simpa only [Option.some.injEq, Prod.mk.injEq] using H
  clear H
  go_enter Try.func10, Try.ntmps10
  go_wp2_with (first | (go_at_call 21; (with_reducible refine (spinetref01_Signed.calls b tb _ Atb.out).mono ?_); rintro e w' ⟨rfl, ndtb, rfl⟩) | (go_at_call 21; (with_reducible refine (spinetref01_Signed.calls n tn _ Atn.out).mono ?_); rintro e w' ⟨rfl, ndtn, rfl⟩) | (go_at_call 26; (with_reducible refine (spinetref01_Word.calls _ tw _ Atw.out).mono ?_); rintro e w' ⟨rfl, ndtw, rfl⟩) | (go_at_call 28; (with_reducible refine (spinetref03_floor.calls _ _ tq _ Atq.out).mono ?_); rintro e w' ⟨rfl, ndtq, rfl⟩) | (go_at_call 26; (with_reducible refine (spinetref01_Word.calls _ tv _ Atv.out).mono ?_); rintro e w' ⟨rfl, ndtv, rfl⟩) | go_in)
  refine bodyPost_ret (v := _) (by first | (simp [results, Try.results10, go_sem]; done) | (simp [results, Try.results10, go_sem]; rfl)) rfl ⟨?_, ?_⟩
  · first | rfl | (simp [rw64z, rw64o, rw64i]; done)
  · exact by repeat (first | (with_reducible exact Below.refl _ _) | (with_reducible apply below_alloc) | (with_reducible apply pw_below_drewN) | (with_reducible apply Below.drew) | (refine Below.setCell ?_ (by first | exact Nat.le_refl _ | exact Nat.le_succ _ | (simp; done) | (simp; omega)) _))

set_option maxRecDepth 100000 in
set_option maxHeartbeats 4000000 in
theorem rdo_10_u_n (k : Nat) (b n h : Int) (N Z V : Bool) (r1 r2 : Int) (r3 r4 r5 r6 r7 : Bool) (w : World) (H : spinetref03_Do.j0 (k + 1) 10 true b n h false N Z false V = some (r1, r2, r3, r4, r5, r6, r7)) :
    Calls Try.prog 10 #[.int .i64 10, .bool true, .int .u32 b, .int .u32 n, .int .u32 h, .agg #[.bool N, .bool Z, .bool false, .bool V]] w fun e w' => e = .returned (.agg #[.int .u32 r1, .int .u32 r2, .bool r3, .bool r4, .bool r5, .bool r6, .bool r7]) ∧ Below w.heap.size w w' := by
  simp only [spinetref03_Do.j0, spinetref03_carry.f, Int.add_zero, Int.sub_zero, Int.reduceEq, Int.reduceLT, Int.reduceGT, Bool.false_eq_true, reduceIte, Option.bind_some, decide_true, decide_false] at H
  obtain ⟨tb, Btb, H⟩ := Option.bind_eq_some_iff.mp H
  have Atb := Aside0.mk Btb
  clear Btb
  obtain ⟨tn, Btn, H⟩ := Option.bind_eq_some_iff.mp H
  have Atn := Aside0.mk Btn
  clear Btn
  obtain ⟨rfl, rfl, rfl, rfl, rfl, rfl, rfl⟩ : _ = r1 ∧ _ = r2 ∧ _ = r3 ∧ _ = r4 ∧ _ = r5 ∧ _ = r6 ∧ _ = r7 := by simpa only [Option.some.injEq, Prod.mk.injEq] using H
  clear H
  go_enter Try.func10, Try.ntmps10
  go_wp2_with (first | (go_at_call 21; (with_reducible refine (spinetref01_Signed.calls b tb _ Atb.out).mono ?_); rintro e w' ⟨rfl, ndtb, rfl⟩) | (go_at_call 21; (with_reducible refine (spinetref01_Signed.calls n tn _ Atn.out).mono ?_); rintro e w' ⟨rfl, ndtn, rfl⟩) | go_in)
  refine bodyPost_ret (v := _) (by first | (simp [results, Try.results10, go_sem]; done) | (simp [results, Try.results10, go_sem]; rfl)) rfl ⟨?_, ?_⟩
  · first | rfl | (simp [rw64z, rw64o, rw64i]; done)
  · exact by repeat (first | (with_reducible exact Below.refl _ _) | (with_reducible apply below_alloc) | (with_reducible apply pw_below_drewN) | (with_reducible apply Below.drew) | (refine Below.setCell ?_ (by first | exact Nat.le_refl _ | exact Nat.le_succ _ | (simp; done) | (simp; omega)) _))

set_option maxRecDepth 100000 in
set_option maxHeartbeats 4000000 in
theorem rdo_10_u_c (k : Nat) (b n h : Int) (N Z V : Bool) (r1 r2 : Int) (r3 r4 r5 r6 r7 : Bool) (w : World) (H : spinetref03_Do.j0 (k + 1) 10 true b n h false N Z true V = some (r1, r2, r3, r4, r5, r6, r7)) :
    Calls Try.prog 10 #[.int .i64 10, .bool true, .int .u32 b, .int .u32 n, .int .u32 h, .agg #[.bool N, .bool Z, .bool true, .bool V]] w fun e w' => e = .returned (.agg #[.int .u32 r1, .int .u32 r2, .bool r3, .bool r4, .bool r5, .bool r6, .bool r7]) ∧ Below w.heap.size w w' := by
  simp only [spinetref03_Do.j0, spinetref03_carry.f, Int.add_zero, Int.sub_zero, Int.reduceEq, Int.reduceLT, Int.reduceGT, Bool.false_eq_true, reduceIte, Option.bind_some, decide_true, decide_false] at H
  obtain ⟨tb, Btb, H⟩ := Option.bind_eq_some_iff.mp H
  have Atb := Aside0.mk Btb
  clear Btb
  obtain ⟨tn, Btn, H⟩ := Option.bind_eq_some_iff.mp H
  have Atn := Aside0.mk Btn
  clear Btn
  obtain ⟨rfl, rfl, rfl, rfl, rfl, rfl, rfl⟩ : _ = r1 ∧ _ = r2 ∧ _ = r3 ∧ _ = r4 ∧ _ = r5 ∧ _ = r6 ∧ _ = r7 := by simpa only [Option.some.injEq, Prod.mk.injEq] using H
  clear H
  go_enter Try.func10, Try.ntmps10
  go_wp2_with (first | (go_at_call 21; (with_reducible refine (spinetref01_Signed.calls b tb _ Atb.out).mono ?_); rintro e w' ⟨rfl, ndtb, rfl⟩) | (go_at_call 21; (with_reducible refine (spinetref01_Signed.calls n tn _ Atn.out).mono ?_); rintro e w' ⟨rfl, ndtn, rfl⟩) | go_in)
  refine bodyPost_ret (v := _) (by first | (simp [results, Try.results10, go_sem]; done) | (simp [results, Try.results10, go_sem]; rfl)) rfl ⟨?_, ?_⟩
  · first | rfl | (simp [rw64z, rw64o, rw64i]; done)
  · exact by repeat (first | (with_reducible exact Below.refl _ _) | (with_reducible apply below_alloc) | (with_reducible apply pw_below_drewN) | (with_reducible apply Below.drew) | (refine Below.setCell ?_ (by first | exact Nat.le_refl _ | exact Nat.le_succ _ | (simp; done) | (simp; omega)) _))

set_option maxRecDepth 100000 in
set_option maxHeartbeats 4000000 in
theorem rdo_11_f_y (k : Nat) (b n h z : Int) (N Z C V : Bool) (r1 r2 : Int) (r3 r4 r5 r6 r7 : Bool) (w : World) (hy : spinetref01_Signed.f n = some z ∧ z > 0) (H : spinetref03_Do.j0 (k + 1) 11 false b n h false N Z C V = some (r1, r2, r3, r4, r5, r6, r7)) :
    Calls Try.prog 10 #[.int .i64 11, .bool false, .int .u32 b, .int .u32 n, .int .u32 h, .agg #[.bool N, .bool Z, .bool C, .bool V]] w fun e w' => e = .returned (.agg #[.int .u32 r1, .int .u32 r2, .bool r3, .bool r4, .bool r5, .bool r6, .bool r7]) ∧ Below w.heap.size w w' := by
  simp only [spinetref03_Do.j0, spinetref03_carry.f, Int.add_zero, Int.sub_zero, Int.reduceEq, Int.reduceLT, Int.reduceGT, Bool.false_eq_true, reduceIte, Option.bind_some, decide_true, decide_false] at H
  obtain ⟨hz, hy⟩ := hy
  obtain ⟨tb, Btb, H⟩ := Option.bind_eq_some_iff.mp H
  have Atb := Aside0.mk Btb
  clear Btb
  rw [hz] at H
  simp only [Option.bind_some] at H
  rw [if_pos hy] at H
  have Atn := Aside0.mk hz
  clear hz
  have hyb : decide (z > 0) = true := decide_eq_true hy
  obtain ⟨tq, Btq, H⟩ := Option.bind_eq_some_iff.mp H
  have Atq := Aside0.mk Btq
  clear Btq
  obtain ⟨tw, Btw, H⟩ := Option.bind_eq_some_iff.mp H
  have Atw := Aside0.mk Btw
  clear Btw
  obtain ⟨tv, Btv, H⟩ := Option.bind_eq_some_iff.mp H
  have Atv := Aside0.mk Btv
  clear Btv
  obtain ⟨rfl, rfl, rfl, rfl, rfl, rfl, rfl⟩ : _ = r1 ∧ _ = r2 ∧ _ = r3 ∧ _ = r4 ∧ _ = r5 ∧ _ = r6 ∧ _ = r7 := by simpa only [Option.some.injEq, Prod.mk.injEq] using H
  clear H
  go_enter Try.func10, Try.ntmps10
  go_wp2_with (first | (go_at_call 21; (with_reducible refine (spinetref01_Signed.calls b tb _ Atb.out).mono ?_); rintro e w' ⟨rfl, ndb, rfl⟩) | (go_at_call 21; (with_reducible refine (spinetref01_Signed.calls n z _ Atn.out).mono ?_); rintro e w' ⟨rfl, ndn, rfl⟩) | (go_at_call 28; (with_reducible refine (spinetref03_floor.calls _ _ tq _ Atq.out).mono ?_); rintro e w' ⟨rfl, ndtq, rfl⟩) | (go_at_call 26; (with_reducible refine (spinetref01_Word.calls _ tw _ Atw.out).mono ?_); rintro e w' ⟨rfl, ndtw, rfl⟩) | (go_at_call 26; (with_reducible refine (spinetref01_Word.calls _ tv _ Atv.out).mono ?_); rintro e w' ⟨rfl, ndtv, rfl⟩) | go_in)
  refine bodyPost_ret (v := _) (by first | (simp [results, Try.results10, go_sem]; done) | (simp [results, Try.results10, go_sem]; rfl)) rfl ⟨?_, ?_⟩
  · first | rfl | (simp [rw64z, rw64o, rw64i]; done)
  · exact by repeat (first | (with_reducible exact Below.refl _ _) | (with_reducible apply below_alloc) | (with_reducible apply pw_below_drewN) | (with_reducible apply Below.drew) | (refine Below.setCell ?_ (by first | exact Nat.le_refl _ | exact Nat.le_succ _ | (simp; done) | (simp; omega)) _))

set_option maxRecDepth 100000 in
set_option maxHeartbeats 4000000 in
theorem rdo_11_f_z (k : Nat) (b n h z : Int) (N Z C V : Bool) (r1 r2 : Int) (r3 r4 r5 r6 r7 : Bool) (w : World) (hy : spinetref01_Signed.f n = some z ∧ ¬ z > 0) (H : spinetref03_Do.j0 (k + 1) 11 false b n h false N Z C V = some (r1, r2, r3, r4, r5, r6, r7)) :
    Calls Try.prog 10 #[.int .i64 11, .bool false, .int .u32 b, .int .u32 n, .int .u32 h, .agg #[.bool N, .bool Z, .bool C, .bool V]] w fun e w' => e = .returned (.agg #[.int .u32 r1, .int .u32 r2, .bool r3, .bool r4, .bool r5, .bool r6, .bool r7]) ∧ Below w.heap.size w w' := by
  simp only [spinetref03_Do.j0, spinetref03_carry.f, Int.add_zero, Int.sub_zero, Int.reduceEq, Int.reduceLT, Int.reduceGT, Bool.false_eq_true, reduceIte, Option.bind_some, decide_true, decide_false] at H
  obtain ⟨hz, hy⟩ := hy
  obtain ⟨tb, Btb, H⟩ := Option.bind_eq_some_iff.mp H
  have Atb := Aside0.mk Btb
  clear Btb
  rw [hz] at H
  simp only [Option.bind_some] at H
  rw [if_neg hy] at H
  have Atn := Aside0.mk hz
  clear hz
  have hyb : decide (z > 0) = false := decide_eq_false hy
  obtain ⟨rfl, rfl, rfl, rfl, rfl, rfl, rfl⟩ : _ = r1 ∧ _ = r2 ∧ _ = r3 ∧ _ = r4 ∧ _ = r5 ∧ _ = r6 ∧ _ = r7 := by simpa only [Option.some.injEq, Prod.mk.injEq] using H
  clear H
  go_enter Try.func10, Try.ntmps10
  go_wp2_with (first | (go_at_call 21; (with_reducible refine (spinetref01_Signed.calls b tb _ Atb.out).mono ?_); rintro e w' ⟨rfl, ndb, rfl⟩) | (go_at_call 21; (with_reducible refine (spinetref01_Signed.calls n z _ Atn.out).mono ?_); rintro e w' ⟨rfl, ndn, rfl⟩) | go_in)
  refine bodyPost_ret (v := _) (by first | (simp [results, Try.results10, go_sem]; done) | (simp [results, Try.results10, go_sem]; rfl)) rfl ⟨?_, ?_⟩
  · first | rfl | (simp [rw64z, rw64o, rw64i]; done)
  · exact by repeat (first | (with_reducible exact Below.refl _ _) | (with_reducible apply below_alloc) | (with_reducible apply pw_below_drewN) | (with_reducible apply Below.drew) | (refine Below.setCell ?_ (by first | exact Nat.le_refl _ | exact Nat.le_succ _ | (simp; done) | (simp; omega)) _))

theorem rf_in (k : Nat) (op b n h : Int) (u N Z C V : Bool) (hn : ¬ (op < 0 ∨ op > 11 ∨ u = true ∧ op ≠ 0 ∧ op ≠ 8 ∧ op ≠ 9 ∧ op ≠ 10)) :
    spinetref03_Do.f k op u b n h N Z C V = spinetref03_Do.j0 k op u b n h false N Z C V := by
  have e1 : ¬ op < 0 := by omega
  have e2 : ¬ op > 11 := by omega
  cases u
  · simp [spinetref03_Do.f, e1, e2]
  · have hu : op = 0 ∨ op = 8 ∨ op = 9 ∨ op = 10 := by simp only [true_and] at hn; omega
    rcases hu with rfl | rfl | rfl | rfl <;> simp [spinetref03_Do.f]
set_option maxRecDepth 100000 in
set_option maxHeartbeats 2000000 in
theorem rdo_out (a0 : Int) (a1 : Bool) (a2 a3 a4 : Int) (N Z C V : Bool) (w : World) (hn : a0 < 0 ∨ a0 > 11 ∨ a1 = true ∧ a0 ≠ 0 ∧ a0 ≠ 8 ∧ a0 ≠ 9 ∧ a0 ≠ 10) :
    Calls Try.prog 10 #[.int .i64 a0, .bool a1, .int .u32 a2, .int .u32 a3, .int .u32 a4, .agg #[.bool N, .bool Z, .bool C, .bool V]] w fun e w' => e = .returned (.agg #[.int .u32 0, .int .u32 0, .bool false, .bool false, .bool false, .bool false, .bool false]) ∧ Below w.heap.size w w' := by
  have cs : a0 < 0 ∨ ¬ a0 < 0 ∧ a0 > 11 ∨ a1 = true ∧ a0 = 1 ∨ a1 = true ∧ a0 = 2 ∨ a1 = true ∧ a0 = 3 ∨ a1 = true ∧ a0 = 4 ∨ a1 = true ∧ a0 = 5 ∨ a1 = true ∧ a0 = 6 ∨ a1 = true ∧ a0 = 7 ∨ a1 = true ∧ a0 = 11 := by
    cases a1 <;> simp at hn ⊢ <;> omega
  clear hn
  rcases cs with h | ⟨h, h2⟩ | ⟨rfl, rfl⟩ | ⟨rfl, rfl⟩ | ⟨rfl, rfl⟩ | ⟨rfl, rfl⟩ | ⟨rfl, rfl⟩ | ⟨rfl, rfl⟩ | ⟨rfl, rfl⟩ | ⟨rfl, rfl⟩
  all_goals
    go_enter Try.func10, Try.ntmps10
    go_wp2
    refine bodyPost_ret (v := _) (by first | (simp [results, Try.results10, go_sem]; done) | (simp [results, Try.results10, go_sem]; rfl)) rfl ⟨rfl, ?_⟩
    exact by repeat (first | (with_reducible exact Below.refl _ _) | (with_reducible apply below_alloc) | (with_reducible apply pw_below_drewN) | (with_reducible apply Below.drew) | (refine Below.setCell ?_ (by first | exact Nat.le_refl _ | exact Nat.le_succ _ | (simp; done) | (simp; omega)) _))

set_option maxHeartbeats 2000000 in
theorem spinetref03_Do.calls (k : Nat) (a0 : Int) (a1 : Bool) (a2 : Int) (a3 : Int) (a4 : Int) (a5_0 : Bool) (a5_1 : Bool) (a5_2 : Bool) (a5_3 : Bool) (r1 : Int) (r2 : Int) (r3 : Bool) (r4 : Bool) (r5 : Bool) (r6 : Bool) (r7 : Bool) (w : World) (h : spinetref03_Do.f k a0 a1 a2 a3 a4 a5_0 a5_1 a5_2 a5_3 = some (r1, r2, r3, r4, r5, r6, r7)) :
    Calls Try.prog 10 #[.int .i64 a0, .bool a1, .int .u32 a2, .int .u32 a3, .int .u32 a4, .agg #[.bool a5_0, .bool a5_1, .bool a5_2, .bool a5_3]] w fun e w' => e = .returned (.agg #[.int .u32 r1, .int .u32 r2, .bool r3, .bool r4, .bool r5, .bool r6, .bool r7]) ∧ Below w.heap.size w w' := by
  by_cases hn : a0 < 0 ∨ a0 > 11 ∨ a1 = true ∧ a0 ≠ 0 ∧ a0 ≠ 8 ∧ a0 ≠ 9 ∧ a0 ≠ 10
  · have e : (0, 0, false, false, false, false, false) = (r1, r2, r3, r4, r5, r6, r7) := by
      cases k with
      | zero =>
        exfalso; revert h; unfold spinetref03_Do.f; simp only [spinetref03_Do.j0]; repeat split <;> simp
      | succ k =>
        by_cases h0 : a0 < 0
        · simpa [spinetref03_Do.f, h0, spinetref03_Do.j0] using h
        · by_cases h1 : a0 > 11
          · simpa [spinetref03_Do.f, h0, h1, spinetref03_Do.j0] using h
          · obtain ⟨rfl, a, b, c, d⟩ : a1 = true ∧ a0 ≠ 0 ∧ a0 ≠ 8 ∧ a0 ≠ 9 ∧ a0 ≠ 10 := (hn.resolve_left h0).resolve_left h1
            simpa [spinetref03_Do.f, h0, h1, a, b, c, d, spinetref03_Do.j0] using h
    simp only [Prod.mk.injEq] at e
    obtain ⟨rfl, rfl, rfl, rfl, rfl, rfl, rfl⟩ := e
    exact rdo_out a0 a1 a2 a3 a4 a5_0 a5_1 a5_2 a5_3 w hn
  · rw [rf_in k a0 a2 a3 a4 a1 a5_0 a5_1 a5_2 a5_3 hn] at h
    obtain ⟨k, rfl⟩ : ∃ j, k = j + 1 := by
      match k, h with
      | 0, h => simp [spinetref03_Do.j0] at h
      | j + 1, _ => exact ⟨j, rfl⟩
    have cs : a0 = 0 ∨ a0 = 1 ∨ a0 = 2 ∨ a0 = 3 ∨ a0 = 4 ∨ a0 = 5 ∨ a0 = 6 ∨ a0 = 7 ∨ a0 = 8 ∨ a0 = 9 ∨ a0 = 10 ∨ a0 = 11 := by omega
    rcases cs with rfl | rfl | rfl | rfl | rfl | rfl | rfl | rfl | rfl | rfl | rfl | rfl
    · cases a1
      · exact rdo_0_f k a2 a3 a4 a5_0 a5_1 a5_2 a5_3 r1 r2 r3 r4 r5 r6 r7 w h
      · cases a5_2
        · exact rdo_0_u_n k a2 a3 a4 a5_0 a5_1 a5_3 r1 r2 r3 r4 r5 r6 r7 w h
        · exact rdo_0_u_c k a2 a3 a4 a5_0 a5_1 a5_3 r1 r2 r3 r4 r5 r6 r7 w h
    · cases a1
      · exact rdo_1_f k a2 a3 a4 a5_0 a5_1 a5_2 a5_3 r1 r2 r3 r4 r5 r6 r7 w h
      · exact absurd (by simp : (1 : Int) < 0 ∨ (1 : Int) > 11 ∨ true = true ∧ (1 : Int) ≠ 0 ∧ (1 : Int) ≠ 8 ∧ (1 : Int) ≠ 9 ∧ (1 : Int) ≠ 10) hn
    · cases a1
      · exact rdo_2_f k a2 a3 a4 a5_0 a5_1 a5_2 a5_3 r1 r2 r3 r4 r5 r6 r7 w h
      · exact absurd (by simp : (2 : Int) < 0 ∨ (2 : Int) > 11 ∨ true = true ∧ (2 : Int) ≠ 0 ∧ (2 : Int) ≠ 8 ∧ (2 : Int) ≠ 9 ∧ (2 : Int) ≠ 10) hn
    · cases a1
      · exact rdo_3_f k a2 a3 a4 a5_0 a5_1 a5_2 a5_3 r1 r2 r3 r4 r5 r6 r7 w h
      · exact absurd (by simp : (3 : Int) < 0 ∨ (3 : Int) > 11 ∨ true = true ∧ (3 : Int) ≠ 0 ∧ (3 : Int) ≠ 8 ∧ (3 : Int) ≠ 9 ∧ (3 : Int) ≠ 10) hn
    · cases a1
      · exact rdo_4_f k a2 a3 a4 a5_0 a5_1 a5_2 a5_3 r1 r2 r3 r4 r5 r6 r7 w h
      · exact absurd (by simp : (4 : Int) < 0 ∨ (4 : Int) > 11 ∨ true = true ∧ (4 : Int) ≠ 0 ∧ (4 : Int) ≠ 8 ∧ (4 : Int) ≠ 9 ∧ (4 : Int) ≠ 10) hn
    · cases a1
      · exact rdo_5_f k a2 a3 a4 a5_0 a5_1 a5_2 a5_3 r1 r2 r3 r4 r5 r6 r7 w h
      · exact absurd (by simp : (5 : Int) < 0 ∨ (5 : Int) > 11 ∨ true = true ∧ (5 : Int) ≠ 0 ∧ (5 : Int) ≠ 8 ∧ (5 : Int) ≠ 9 ∧ (5 : Int) ≠ 10) hn
    · cases a1
      · exact rdo_6_f k a2 a3 a4 a5_0 a5_1 a5_2 a5_3 r1 r2 r3 r4 r5 r6 r7 w h
      · exact absurd (by simp : (6 : Int) < 0 ∨ (6 : Int) > 11 ∨ true = true ∧ (6 : Int) ≠ 0 ∧ (6 : Int) ≠ 8 ∧ (6 : Int) ≠ 9 ∧ (6 : Int) ≠ 10) hn
    · cases a1
      · exact rdo_7_f k a2 a3 a4 a5_0 a5_1 a5_2 a5_3 r1 r2 r3 r4 r5 r6 r7 w h
      · exact absurd (by simp : (7 : Int) < 0 ∨ (7 : Int) > 11 ∨ true = true ∧ (7 : Int) ≠ 0 ∧ (7 : Int) ≠ 8 ∧ (7 : Int) ≠ 9 ∧ (7 : Int) ≠ 10) hn
    · cases a1
      · exact rdo_8_f k a2 a3 a4 a5_0 a5_1 a5_2 a5_3 r1 r2 r3 r4 r5 r6 r7 w h
      · cases a5_2
        · exact rdo_8_u_n k a2 a3 a4 a5_0 a5_1 a5_3 r1 r2 r3 r4 r5 r6 r7 w h
        · exact rdo_8_u_c k a2 a3 a4 a5_0 a5_1 a5_3 r1 r2 r3 r4 r5 r6 r7 w h
    · cases a1
      · exact rdo_9_f k a2 a3 a4 a5_0 a5_1 a5_2 a5_3 r1 r2 r3 r4 r5 r6 r7 w h
      · cases a5_2
        · exact rdo_9_u_n k a2 a3 a4 a5_0 a5_1 a5_3 r1 r2 r3 r4 r5 r6 r7 w h
        · exact rdo_9_u_c k a2 a3 a4 a5_0 a5_1 a5_3 r1 r2 r3 r4 r5 r6 r7 w h
    · cases a1
      · exact rdo_10_f k a2 a3 a4 a5_0 a5_1 a5_2 a5_3 r1 r2 r3 r4 r5 r6 r7 w h
      · cases a5_2
        · exact rdo_10_u_n k a2 a3 a4 a5_0 a5_1 a5_3 r1 r2 r3 r4 r5 r6 r7 w h
        · exact rdo_10_u_c k a2 a3 a4 a5_0 a5_1 a5_3 r1 r2 r3 r4 r5 r6 r7 w h
    · cases a1
      · obtain ⟨z, hz⟩ : ∃ z, spinetref01_Signed.f a3 = some z := by unfold spinetref01_Signed.f; split <;> exact ⟨_, rfl⟩
        by_cases hy : z > 0
        · exact rdo_11_f_y k a2 a3 a4 z a5_0 a5_1 a5_2 a5_3 r1 r2 r3 r4 r5 r6 r7 w ⟨hz, hy⟩ h
        · exact rdo_11_f_z k a2 a3 a4 z a5_0 a5_1 a5_2 a5_3 r1 r2 r3 r4 r5 r6 r7 w ⟨hz, hy⟩ h
      · exact absurd (by simp : (11 : Int) < 0 ∨ (11 : Int) > 11 ∨ true = true ∧ (11 : Int) ≠ 0 ∧ (11 : Int) ≠ 8 ∧ (11 : Int) ≠ 9 ∧ (11 : Int) ≠ 10) hn

/-! ### spinetlaw03_same: function 11 -/
def spinetlaw03_same.f (a0_0 : Bool) (a0_1 : Bool) (a0_2 : Bool) (a0_3 : Bool) (a1_0 : Bool) (a1_1 : Bool) (a1_2 : Bool) (a1_3 : Bool) : Option (Bool) := if (a0_0 == a1_0) = true then (if (a0_1 == a1_1) = true then (if (a0_2 == a1_2) = true then (some (a0_3 == a1_3)) else (some false)) else (some false)) else (some false)
set_option maxHeartbeats 8000000 in
set_option maxRecDepth 100000 in
theorem spinetlaw03_same.calls (a0_0 : Bool) (a0_1 : Bool) (a0_2 : Bool) (a0_3 : Bool) (a1_0 : Bool) (a1_1 : Bool) (a1_2 : Bool) (a1_3 : Bool) (r : Bool) (w : World) (h : spinetlaw03_same.f a0_0 a0_1 a0_2 a0_3 a1_0 a1_1 a1_2 a1_3 = some r) :
    Calls Try.prog 11 #[.agg #[.bool a0_0, .bool a0_1, .bool a0_2, .bool a0_3], .agg #[.bool a1_0, .bool a1_1, .bool a1_2, .bool a1_3]] w fun e w' => e = .returned (.bool r) ∧ Below w.heap.size w w' := by
  have hu24 := Try.underlying24
  have HB := Aside0.mk (Below.refl w.heap.size w)
  have H : (if (a0_0 == a1_0) = true then (if (a0_1 == a1_1) = true then (if (a0_2 == a1_2) = true then (some (a0_3 == a1_3)) else (some false)) else (some false)) else (some false)) = some r := h
  clear h
  by_cases c3 : (a0_0 == a1_0) = true
  · rw [if_pos c3] at H
    have c3b0 : (a0_0 == a1_0) = true := c3
    (try (have c3b1 : decide (a0_0 = a1_0) = true := by simpa using c3))
    (try (have c3b2 : (a0_0 == a1_0) = true := by simpa using c3))
    clear c3
    by_cases c4 : (a0_1 == a1_1) = true
    · rw [if_pos c4] at H
      have c4b0 : (a0_1 == a1_1) = true := c4
      (try (have c4b1 : decide (a0_1 = a1_1) = true := by simpa using c4))
      (try (have c4b2 : (a0_1 == a1_1) = true := by simpa using c4))
      clear c4
      by_cases c5 : (a0_2 == a1_2) = true
      · rw [if_pos c5] at H
        have c5b0 : (a0_2 == a1_2) = true := c5
        (try (have c5b1 : decide (a0_2 = a1_2) = true := by simpa using c5))
        (try (have c5b2 : (a0_2 == a1_2) = true := by simpa using c5))
        clear c5
        obtain rfl := Option.some.inj H
        go_enter Try.func11, Try.ntmps11
        go_wp2_with (first | ((with_reducible refine gate_dst (N := 2) rfl ?_); refine box_event ?hg (N := 2) ?hd (cs := #[.bool a0_0, .bool a0_1, .bool a0_2, .bool a0_3]) (t := 24) ?hr ?_; (case hd => rfl); (case hg => rfl); (case hr => first | (go_simp; done) | (go_simp; rfl)); intro gb138 hg w6 hbox hb; have n0_ := Aside0.mk (below_step (by repeat (first | (with_reducible first | exact HB.out | apply below_alloc | apply pw_below_drewN | apply below_drew1) | exact HB.out)) hb); have n1_ := Aside0.mk (hbox); have n2_ := Aside0.mk ((by rw [hg]; exact (below_size (by repeat (first | (with_reducible first | exact HB.out | apply below_alloc | apply pw_below_drewN | apply below_drew1) | exact HB.out))) : w.heap.size ≤ gb138)); have n3_ := Aside0.mk ((by rw [hg]; exact (below_size (by repeat (first | (with_reducible first | exact HB.out | apply below_alloc | apply pw_below_drewN | apply below_drew1) | exact HB.out))) : w.heap.size ≤ gb138)); clear HB; have HB := n0_; have BK138 := n1_; have GW138 := n2_; have GE138 := n3_; clear n0_ n1_ n2_ n3_; clear hb hbox hg) | ((with_reducible refine gate_dst (N := 3) rfl ?_); refine box_event ?hg (N := 3) ?hd (cs := #[.bool a1_0, .bool a1_1, .bool a1_2, .bool a1_3]) (t := 24) ?hr ?_; (case hd => rfl); (case hg => rfl); (case hr => first | (go_simp; done) | (go_simp; rfl)); intro gb139 hg w7 hbox hb; have n0_ := Aside0.mk (blk_below (g := gb138) (o := .cells #[.bool a0_0, .bool a0_1, .bool a0_2, .bool a0_3] 24 (0, 0)) (by (with_reducible repeat (first | refine blk_drewN ?_ _ | refine blk_drew ?_ | refine blk_alloc ?_ _)); exact BK138.out) hb); have n1_ := Aside0.mk (below_step (by repeat (first | (with_reducible first | exact HB.out | apply below_alloc | apply pw_below_drewN | apply below_drew1 | refine below_set ?_ GE138.out) | exact HB.out)) hb); have n2_ := Aside0.mk (hbox); have n3_ := Aside0.mk ((by rw [hg]; exact (below_size (by repeat (first | (with_reducible first | exact HB.out | apply below_alloc | apply pw_below_drewN | apply below_drew1 | refine below_set ?_ GE138.out) | exact HB.out))) : w.heap.size ≤ gb139)); have n4_ := Aside0.mk ((by rw [hg]; exact (below_size (by repeat (first | (with_reducible first | exact HB.out | apply below_alloc | apply pw_below_drewN | apply below_drew1 | refine below_set ?_ GE138.out) | exact HB.out))) : w.heap.size ≤ gb139)); have n5_ := Aside0.mk ((by rw [hg]; exact Nat.ne_of_lt (blk_lt (g := gb138) (o := .cells #[.bool a0_0, .bool a0_1, .bool a0_2, .bool a0_3] 24 (0, 0)) (by (with_reducible repeat (first | refine blk_drewN ?_ _ | refine blk_drew ?_ | refine blk_alloc ?_ _)); exact BK138.out)) : gb138 ≠ gb139)); have n6_ := Aside0.mk ((by rw [hg]; exact Nat.ne_of_gt (blk_lt (g := gb138) (o := .cells #[.bool a0_0, .bool a0_1, .bool a0_2, .bool a0_3] 24 (0, 0)) (by (with_reducible repeat (first | refine blk_drewN ?_ _ | refine blk_drew ?_ | refine blk_alloc ?_ _)); exact BK138.out)) : gb139 ≠ gb138)); clear BK138; clear HB; have BK138 := n0_; have HB := n1_; have BK139 := n2_; have GW139 := n3_; have GE139 := n4_; have NB138_139 := n5_; have NB139_138 := n6_; clear n0_ n1_ n2_ n3_ n4_ n5_ n6_; clear hb hbox hg; have hnb8 := NB138_139.out; have hnc8 := NB139_138.out; have hcz9_0 : w7.cell? ⟨gb138, 0, none⟩ = some (.bool a0_0) := (blk_cell BK138.out 0).trans rfl; have hcz9_1 : w7.cell? ⟨gb138, 1, none⟩ = some (.bool a0_1) := (blk_cell BK138.out 1).trans rfl; have hcz9_2 : w7.cell? ⟨gb138, 2, none⟩ = some (.bool a0_2) := (blk_cell BK138.out 2).trans rfl; have hcz9_3 : w7.cell? ⟨gb138, 3, none⟩ = some (.bool a0_3) := (blk_cell BK138.out 3).trans rfl; have hfz9_0 := blk_frozen BK138.out 0; have hfz9_1 := blk_frozen BK138.out 1; have hfz9_2 := blk_frozen BK138.out 2; have hfz9_3 := blk_frozen BK138.out 3; have hcz10_0 : w7.cell? ⟨gb139, 0, none⟩ = some (.bool a1_0) := (blk_cell BK139.out 0).trans rfl; have hcz10_1 : w7.cell? ⟨gb139, 1, none⟩ = some (.bool a1_1) := (blk_cell BK139.out 1).trans rfl; have hcz10_2 : w7.cell? ⟨gb139, 2, none⟩ = some (.bool a1_2) := (blk_cell BK139.out 2).trans rfl; have hcz10_3 : w7.cell? ⟨gb139, 3, none⟩ = some (.bool a1_3) := (blk_cell BK139.out 3).trans rfl; have hfz10_0 := blk_frozen BK139.out 0; have hfz10_1 := blk_frozen BK139.out 1; have hfz10_2 := blk_frozen BK139.out 2; have hfz10_3 := blk_frozen BK139.out 3))
        go_ret
        exact ⟨by first | rfl | (simp [errW_none, errW_some] <;> rfl) | (simp [*, errW_none, errW_some] <;> rfl), by repeat (first | (with_reducible first | exact HB.out | apply below_alloc | apply pw_below_drewN | apply below_drew1 | refine below_set ?_ GE138.out | refine below_set ?_ GE139.out) | exact HB.out)⟩
      · rw [if_neg c5] at H
        have c5b0 : (a0_2 == a1_2) = false := by simpa using c5
        (try (have c5b1 : decide (a0_2 = a1_2) = false := by simpa using c5))
        (try (have c5b2 : (a0_2 == a1_2) = false := by simpa using c5))
        (try (have c5b3 : ¬ (a0_2 = a1_2) := by simpa using c5))
        clear c5
        obtain rfl := Option.some.inj H
        go_enter Try.func11, Try.ntmps11
        go_wp2_with (first | ((with_reducible refine gate_dst (N := 2) rfl ?_); refine box_event ?hg (N := 2) ?hd (cs := #[.bool a0_0, .bool a0_1, .bool a0_2, .bool a0_3]) (t := 24) ?hr ?_; (case hd => rfl); (case hg => rfl); (case hr => first | (go_simp; done) | (go_simp; rfl)); intro gb138 hg w11 hbox hb; have n0_ := Aside0.mk (below_step (by repeat (first | (with_reducible first | exact HB.out | apply below_alloc | apply pw_below_drewN | apply below_drew1) | exact HB.out)) hb); have n1_ := Aside0.mk (hbox); have n2_ := Aside0.mk ((by rw [hg]; exact (below_size (by repeat (first | (with_reducible first | exact HB.out | apply below_alloc | apply pw_below_drewN | apply below_drew1) | exact HB.out))) : w.heap.size ≤ gb138)); have n3_ := Aside0.mk ((by rw [hg]; exact (below_size (by repeat (first | (with_reducible first | exact HB.out | apply below_alloc | apply pw_below_drewN | apply below_drew1) | exact HB.out))) : w.heap.size ≤ gb138)); clear HB; have HB := n0_; have BK138 := n1_; have GW138 := n2_; have GE138 := n3_; clear n0_ n1_ n2_ n3_; clear hb hbox hg) | ((with_reducible refine gate_dst (N := 3) rfl ?_); refine box_event ?hg (N := 3) ?hd (cs := #[.bool a1_0, .bool a1_1, .bool a1_2, .bool a1_3]) (t := 24) ?hr ?_; (case hd => rfl); (case hg => rfl); (case hr => first | (go_simp; done) | (go_simp; rfl)); intro gb139 hg w12 hbox hb; have n0_ := Aside0.mk (blk_below (g := gb138) (o := .cells #[.bool a0_0, .bool a0_1, .bool a0_2, .bool a0_3] 24 (0, 0)) (by (with_reducible repeat (first | refine blk_drewN ?_ _ | refine blk_drew ?_ | refine blk_alloc ?_ _)); exact BK138.out) hb); have n1_ := Aside0.mk (below_step (by repeat (first | (with_reducible first | exact HB.out | apply below_alloc | apply pw_below_drewN | apply below_drew1 | refine below_set ?_ GE138.out) | exact HB.out)) hb); have n2_ := Aside0.mk (hbox); have n3_ := Aside0.mk ((by rw [hg]; exact (below_size (by repeat (first | (with_reducible first | exact HB.out | apply below_alloc | apply pw_below_drewN | apply below_drew1 | refine below_set ?_ GE138.out) | exact HB.out))) : w.heap.size ≤ gb139)); have n4_ := Aside0.mk ((by rw [hg]; exact (below_size (by repeat (first | (with_reducible first | exact HB.out | apply below_alloc | apply pw_below_drewN | apply below_drew1 | refine below_set ?_ GE138.out) | exact HB.out))) : w.heap.size ≤ gb139)); have n5_ := Aside0.mk ((by rw [hg]; exact Nat.ne_of_lt (blk_lt (g := gb138) (o := .cells #[.bool a0_0, .bool a0_1, .bool a0_2, .bool a0_3] 24 (0, 0)) (by (with_reducible repeat (first | refine blk_drewN ?_ _ | refine blk_drew ?_ | refine blk_alloc ?_ _)); exact BK138.out)) : gb138 ≠ gb139)); have n6_ := Aside0.mk ((by rw [hg]; exact Nat.ne_of_gt (blk_lt (g := gb138) (o := .cells #[.bool a0_0, .bool a0_1, .bool a0_2, .bool a0_3] 24 (0, 0)) (by (with_reducible repeat (first | refine blk_drewN ?_ _ | refine blk_drew ?_ | refine blk_alloc ?_ _)); exact BK138.out)) : gb139 ≠ gb138)); clear BK138; clear HB; have BK138 := n0_; have HB := n1_; have BK139 := n2_; have GW139 := n3_; have GE139 := n4_; have NB138_139 := n5_; have NB139_138 := n6_; clear n0_ n1_ n2_ n3_ n4_ n5_ n6_; clear hb hbox hg; have hnb13 := NB138_139.out; have hnc13 := NB139_138.out; have hcz14_0 : w12.cell? ⟨gb138, 0, none⟩ = some (.bool a0_0) := (blk_cell BK138.out 0).trans rfl; have hcz14_1 : w12.cell? ⟨gb138, 1, none⟩ = some (.bool a0_1) := (blk_cell BK138.out 1).trans rfl; have hcz14_2 : w12.cell? ⟨gb138, 2, none⟩ = some (.bool a0_2) := (blk_cell BK138.out 2).trans rfl; have hcz14_3 : w12.cell? ⟨gb138, 3, none⟩ = some (.bool a0_3) := (blk_cell BK138.out 3).trans rfl; have hfz14_0 := blk_frozen BK138.out 0; have hfz14_1 := blk_frozen BK138.out 1; have hfz14_2 := blk_frozen BK138.out 2; have hfz14_3 := blk_frozen BK138.out 3; have hcz15_0 : w12.cell? ⟨gb139, 0, none⟩ = some (.bool a1_0) := (blk_cell BK139.out 0).trans rfl; have hcz15_1 : w12.cell? ⟨gb139, 1, none⟩ = some (.bool a1_1) := (blk_cell BK139.out 1).trans rfl; have hcz15_2 : w12.cell? ⟨gb139, 2, none⟩ = some (.bool a1_2) := (blk_cell BK139.out 2).trans rfl; have hcz15_3 : w12.cell? ⟨gb139, 3, none⟩ = some (.bool a1_3) := (blk_cell BK139.out 3).trans rfl; have hfz15_0 := blk_frozen BK139.out 0; have hfz15_1 := blk_frozen BK139.out 1; have hfz15_2 := blk_frozen BK139.out 2; have hfz15_3 := blk_frozen BK139.out 3))
        go_ret
        exact ⟨by first | rfl | (simp [errW_none, errW_some] <;> rfl) | (simp [*, errW_none, errW_some] <;> rfl), by repeat (first | (with_reducible first | exact HB.out | apply below_alloc | apply pw_below_drewN | apply below_drew1 | refine below_set ?_ GE138.out | refine below_set ?_ GE139.out) | exact HB.out)⟩
    · rw [if_neg c4] at H
      have c4b0 : (a0_1 == a1_1) = false := by simpa using c4
      (try (have c4b1 : decide (a0_1 = a1_1) = false := by simpa using c4))
      (try (have c4b2 : (a0_1 == a1_1) = false := by simpa using c4))
      (try (have c4b3 : ¬ (a0_1 = a1_1) := by simpa using c4))
      clear c4
      obtain rfl := Option.some.inj H
      go_enter Try.func11, Try.ntmps11
      go_wp2_with (first | ((with_reducible refine gate_dst (N := 2) rfl ?_); refine box_event ?hg (N := 2) ?hd (cs := #[.bool a0_0, .bool a0_1, .bool a0_2, .bool a0_3]) (t := 24) ?hr ?_; (case hd => rfl); (case hg => rfl); (case hr => first | (go_simp; done) | (go_simp; rfl)); intro gb138 hg w16 hbox hb; have n0_ := Aside0.mk (below_step (by repeat (first | (with_reducible first | exact HB.out | apply below_alloc | apply pw_below_drewN | apply below_drew1) | exact HB.out)) hb); have n1_ := Aside0.mk (hbox); have n2_ := Aside0.mk ((by rw [hg]; exact (below_size (by repeat (first | (with_reducible first | exact HB.out | apply below_alloc | apply pw_below_drewN | apply below_drew1) | exact HB.out))) : w.heap.size ≤ gb138)); have n3_ := Aside0.mk ((by rw [hg]; exact (below_size (by repeat (first | (with_reducible first | exact HB.out | apply below_alloc | apply pw_below_drewN | apply below_drew1) | exact HB.out))) : w.heap.size ≤ gb138)); clear HB; have HB := n0_; have BK138 := n1_; have GW138 := n2_; have GE138 := n3_; clear n0_ n1_ n2_ n3_; clear hb hbox hg) | ((with_reducible refine gate_dst (N := 3) rfl ?_); refine box_event ?hg (N := 3) ?hd (cs := #[.bool a1_0, .bool a1_1, .bool a1_2, .bool a1_3]) (t := 24) ?hr ?_; (case hd => rfl); (case hg => rfl); (case hr => first | (go_simp; done) | (go_simp; rfl)); intro gb139 hg w17 hbox hb; have n0_ := Aside0.mk (blk_below (g := gb138) (o := .cells #[.bool a0_0, .bool a0_1, .bool a0_2, .bool a0_3] 24 (0, 0)) (by (with_reducible repeat (first | refine blk_drewN ?_ _ | refine blk_drew ?_ | refine blk_alloc ?_ _)); exact BK138.out) hb); have n1_ := Aside0.mk (below_step (by repeat (first | (with_reducible first | exact HB.out | apply below_alloc | apply pw_below_drewN | apply below_drew1 | refine below_set ?_ GE138.out) | exact HB.out)) hb); have n2_ := Aside0.mk (hbox); have n3_ := Aside0.mk ((by rw [hg]; exact (below_size (by repeat (first | (with_reducible first | exact HB.out | apply below_alloc | apply pw_below_drewN | apply below_drew1 | refine below_set ?_ GE138.out) | exact HB.out))) : w.heap.size ≤ gb139)); have n4_ := Aside0.mk ((by rw [hg]; exact (below_size (by repeat (first | (with_reducible first | exact HB.out | apply below_alloc | apply pw_below_drewN | apply below_drew1 | refine below_set ?_ GE138.out) | exact HB.out))) : w.heap.size ≤ gb139)); have n5_ := Aside0.mk ((by rw [hg]; exact Nat.ne_of_lt (blk_lt (g := gb138) (o := .cells #[.bool a0_0, .bool a0_1, .bool a0_2, .bool a0_3] 24 (0, 0)) (by (with_reducible repeat (first | refine blk_drewN ?_ _ | refine blk_drew ?_ | refine blk_alloc ?_ _)); exact BK138.out)) : gb138 ≠ gb139)); have n6_ := Aside0.mk ((by rw [hg]; exact Nat.ne_of_gt (blk_lt (g := gb138) (o := .cells #[.bool a0_0, .bool a0_1, .bool a0_2, .bool a0_3] 24 (0, 0)) (by (with_reducible repeat (first | refine blk_drewN ?_ _ | refine blk_drew ?_ | refine blk_alloc ?_ _)); exact BK138.out)) : gb139 ≠ gb138)); clear BK138; clear HB; have BK138 := n0_; have HB := n1_; have BK139 := n2_; have GW139 := n3_; have GE139 := n4_; have NB138_139 := n5_; have NB139_138 := n6_; clear n0_ n1_ n2_ n3_ n4_ n5_ n6_; clear hb hbox hg; have hnb18 := NB138_139.out; have hnc18 := NB139_138.out; have hcz19_0 : w17.cell? ⟨gb138, 0, none⟩ = some (.bool a0_0) := (blk_cell BK138.out 0).trans rfl; have hcz19_1 : w17.cell? ⟨gb138, 1, none⟩ = some (.bool a0_1) := (blk_cell BK138.out 1).trans rfl; have hcz19_2 : w17.cell? ⟨gb138, 2, none⟩ = some (.bool a0_2) := (blk_cell BK138.out 2).trans rfl; have hcz19_3 : w17.cell? ⟨gb138, 3, none⟩ = some (.bool a0_3) := (blk_cell BK138.out 3).trans rfl; have hfz19_0 := blk_frozen BK138.out 0; have hfz19_1 := blk_frozen BK138.out 1; have hfz19_2 := blk_frozen BK138.out 2; have hfz19_3 := blk_frozen BK138.out 3; have hcz20_0 : w17.cell? ⟨gb139, 0, none⟩ = some (.bool a1_0) := (blk_cell BK139.out 0).trans rfl; have hcz20_1 : w17.cell? ⟨gb139, 1, none⟩ = some (.bool a1_1) := (blk_cell BK139.out 1).trans rfl; have hcz20_2 : w17.cell? ⟨gb139, 2, none⟩ = some (.bool a1_2) := (blk_cell BK139.out 2).trans rfl; have hcz20_3 : w17.cell? ⟨gb139, 3, none⟩ = some (.bool a1_3) := (blk_cell BK139.out 3).trans rfl; have hfz20_0 := blk_frozen BK139.out 0; have hfz20_1 := blk_frozen BK139.out 1; have hfz20_2 := blk_frozen BK139.out 2; have hfz20_3 := blk_frozen BK139.out 3))
      go_ret
      exact ⟨by first | rfl | (simp [errW_none, errW_some] <;> rfl) | (simp [*, errW_none, errW_some] <;> rfl), by repeat (first | (with_reducible first | exact HB.out | apply below_alloc | apply pw_below_drewN | apply below_drew1 | refine below_set ?_ GE138.out | refine below_set ?_ GE139.out) | exact HB.out)⟩
  · rw [if_neg c3] at H
    have c3b0 : (a0_0 == a1_0) = false := by simpa using c3
    (try (have c3b1 : decide (a0_0 = a1_0) = false := by simpa using c3))
    (try (have c3b2 : (a0_0 == a1_0) = false := by simpa using c3))
    (try (have c3b3 : ¬ (a0_0 = a1_0) := by simpa using c3))
    clear c3
    obtain rfl := Option.some.inj H
    go_enter Try.func11, Try.ntmps11
    go_wp2_with (first | ((with_reducible refine gate_dst (N := 2) rfl ?_); refine box_event ?hg (N := 2) ?hd (cs := #[.bool a0_0, .bool a0_1, .bool a0_2, .bool a0_3]) (t := 24) ?hr ?_; (case hd => rfl); (case hg => rfl); (case hr => first | (go_simp; done) | (go_simp; rfl)); intro gb138 hg w21 hbox hb; have n0_ := Aside0.mk (below_step (by repeat (first | (with_reducible first | exact HB.out | apply below_alloc | apply pw_below_drewN | apply below_drew1) | exact HB.out)) hb); have n1_ := Aside0.mk (hbox); have n2_ := Aside0.mk ((by rw [hg]; exact (below_size (by repeat (first | (with_reducible first | exact HB.out | apply below_alloc | apply pw_below_drewN | apply below_drew1) | exact HB.out))) : w.heap.size ≤ gb138)); have n3_ := Aside0.mk ((by rw [hg]; exact (below_size (by repeat (first | (with_reducible first | exact HB.out | apply below_alloc | apply pw_below_drewN | apply below_drew1) | exact HB.out))) : w.heap.size ≤ gb138)); clear HB; have HB := n0_; have BK138 := n1_; have GW138 := n2_; have GE138 := n3_; clear n0_ n1_ n2_ n3_; clear hb hbox hg) | ((with_reducible refine gate_dst (N := 3) rfl ?_); refine box_event ?hg (N := 3) ?hd (cs := #[.bool a1_0, .bool a1_1, .bool a1_2, .bool a1_3]) (t := 24) ?hr ?_; (case hd => rfl); (case hg => rfl); (case hr => first | (go_simp; done) | (go_simp; rfl)); intro gb139 hg w22 hbox hb; have n0_ := Aside0.mk (blk_below (g := gb138) (o := .cells #[.bool a0_0, .bool a0_1, .bool a0_2, .bool a0_3] 24 (0, 0)) (by (with_reducible repeat (first | refine blk_drewN ?_ _ | refine blk_drew ?_ | refine blk_alloc ?_ _)); exact BK138.out) hb); have n1_ := Aside0.mk (below_step (by repeat (first | (with_reducible first | exact HB.out | apply below_alloc | apply pw_below_drewN | apply below_drew1 | refine below_set ?_ GE138.out) | exact HB.out)) hb); have n2_ := Aside0.mk (hbox); have n3_ := Aside0.mk ((by rw [hg]; exact (below_size (by repeat (first | (with_reducible first | exact HB.out | apply below_alloc | apply pw_below_drewN | apply below_drew1 | refine below_set ?_ GE138.out) | exact HB.out))) : w.heap.size ≤ gb139)); have n4_ := Aside0.mk ((by rw [hg]; exact (below_size (by repeat (first | (with_reducible first | exact HB.out | apply below_alloc | apply pw_below_drewN | apply below_drew1 | refine below_set ?_ GE138.out) | exact HB.out))) : w.heap.size ≤ gb139)); have n5_ := Aside0.mk ((by rw [hg]; exact Nat.ne_of_lt (blk_lt (g := gb138) (o := .cells #[.bool a0_0, .bool a0_1, .bool a0_2, .bool a0_3] 24 (0, 0)) (by (with_reducible repeat (first | refine blk_drewN ?_ _ | refine blk_drew ?_ | refine blk_alloc ?_ _)); exact BK138.out)) : gb138 ≠ gb139)); have n6_ := Aside0.mk ((by rw [hg]; exact Nat.ne_of_gt (blk_lt (g := gb138) (o := .cells #[.bool a0_0, .bool a0_1, .bool a0_2, .bool a0_3] 24 (0, 0)) (by (with_reducible repeat (first | refine blk_drewN ?_ _ | refine blk_drew ?_ | refine blk_alloc ?_ _)); exact BK138.out)) : gb139 ≠ gb138)); clear BK138; clear HB; have BK138 := n0_; have HB := n1_; have BK139 := n2_; have GW139 := n3_; have GE139 := n4_; have NB138_139 := n5_; have NB139_138 := n6_; clear n0_ n1_ n2_ n3_ n4_ n5_ n6_; clear hb hbox hg; have hnb23 := NB138_139.out; have hnc23 := NB139_138.out; have hcz24_0 : w22.cell? ⟨gb138, 0, none⟩ = some (.bool a0_0) := (blk_cell BK138.out 0).trans rfl; have hcz24_1 : w22.cell? ⟨gb138, 1, none⟩ = some (.bool a0_1) := (blk_cell BK138.out 1).trans rfl; have hcz24_2 : w22.cell? ⟨gb138, 2, none⟩ = some (.bool a0_2) := (blk_cell BK138.out 2).trans rfl; have hcz24_3 : w22.cell? ⟨gb138, 3, none⟩ = some (.bool a0_3) := (blk_cell BK138.out 3).trans rfl; have hfz24_0 := blk_frozen BK138.out 0; have hfz24_1 := blk_frozen BK138.out 1; have hfz24_2 := blk_frozen BK138.out 2; have hfz24_3 := blk_frozen BK138.out 3; have hcz25_0 : w22.cell? ⟨gb139, 0, none⟩ = some (.bool a1_0) := (blk_cell BK139.out 0).trans rfl; have hcz25_1 : w22.cell? ⟨gb139, 1, none⟩ = some (.bool a1_1) := (blk_cell BK139.out 1).trans rfl; have hcz25_2 : w22.cell? ⟨gb139, 2, none⟩ = some (.bool a1_2) := (blk_cell BK139.out 2).trans rfl; have hcz25_3 : w22.cell? ⟨gb139, 3, none⟩ = some (.bool a1_3) := (blk_cell BK139.out 3).trans rfl; have hfz25_0 := blk_frozen BK139.out 0; have hfz25_1 := blk_frozen BK139.out 1; have hfz25_2 := blk_frozen BK139.out 2; have hfz25_3 := blk_frozen BK139.out 3))
    go_ret
    exact ⟨by first | rfl | (simp [errW_none, errW_some] <;> rfl) | (simp [*, errW_none, errW_some] <;> rfl), by repeat (first | (with_reducible first | exact HB.out | apply below_alloc | apply pw_below_drewN | apply below_drew1 | refine below_set ?_ GE138.out | refine below_set ?_ GE139.out) | exact HB.out)⟩


end Go.Proofs.Ytbcoanjgpebedaa.PAluDoes
