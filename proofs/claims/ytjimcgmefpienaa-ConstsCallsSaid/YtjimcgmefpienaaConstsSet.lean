/- consts.Set, walked. -/
import Derived.Test.YtjimcgmefpienaaConstsSmall
namespace Go.Proofs.Ytjimcgmefpienaa.SetOf
open Go.RowKit Go.Maps Go.Proofs.Ytjimcgmefpienaa.Tab Go.Proofs.Ytjimcgmefpienaa.Plain Go.Proofs.Ytjimcgmefpienaa.Small Go.Proofs.YtjimcgmefpienaaW.PrintWords Go.Proofs.YtjimcgmefpienaaW.PrintLast Go.Proofs.YtjimcgmefpienaaW.PrintMore
set_option linter.unusedVariables false
set_option linter.unusedSimpArgs false

/-- d elements from n on are put into a set. -/
def orF : Nat → Int → Int → Int
  | 0, _, s => s
  | d + 1, n, s => orF d (n + 1) (Go.bits .or .u32 s (shl .u32 1 n))
def setR : List (Int × Int) → Int → Int × Int × Int
  | [], s => (4, s, 0)
  | (x, y) :: ps, s => if mn x y < 0 ∨ mx x y > 31 then (0, 0, 91) else setR ps (orF (y + 1 - x).toNat x s)
structure Pairs (w : World) (b o : Nat) (ps : List (Int × Int)) : Prop where
  cells : ∀ i x y, ps[i]? = some (x, y) → w.cell? ⟨b, o + i * 2, none⟩ = some (.int .i64 x) ∧ w.cell? ⟨b, o + i * 2 + 1, none⟩ = some (.int .i64 y)
set_option maxRecDepth 100000 in
set_option maxHeartbeats 4000000 in
theorem set_of (b o cap : Nat) (ps : List (Int × Int)) (w : World) (P : Pairs w b o ps) (hl : ps.length ≤ cap) (hm : ps.length < 100000)
    (hw : ∀ p ∈ ps, (-9223372036854775808 ≤ p.1 ∧ p.1 ≤ 9223372036854775807) ∧ (-9223372036854775808 ≤ p.2 ∧ p.2 ≤ 9223372036854775807)) :
    Calls Try.prog 15 #[.slice (some ⟨b, o, none⟩) ps.length cap] w fun e w' => e = .returned (VR (setR ps 0)) ∧ Below w.heap.size w w' := by
  obtain ⟨⟨r1, r2, r3⟩, hR⟩ : ∃ r, setR ps 0 = r := ⟨_, rfl⟩
  rw [hR]
  have hR := Aside0.mk hR
  have hP := Aside0.mk P
  have hw := Aside0.mk hw
  have hl0 := Aside0.mk hl
  have hm0 := Aside0.mk hm
  clear P hl
  go_enter Try.func15, Try.ntmps15
  go_wp2_with fail
  go_loopg [10, 4] (ps.length + 1) (fun kq v10 v4 w' => ∃ (i : Nat) (s : Int), v10 = .int .i64 i ∧ v4 = .int .u32 s ∧ i + kq = ps.length + 1 ∧ 0 < kq ∧ Aside0 (setR (ps.drop i) s = (r1, r2, r3)) ∧ (0 ≤ s ∧ s < 4294967296) ∧
    w'.heap[w.heap.size]? = some (.cells #[.int .i64 0, .int .i64 0, .string E0] 23 (0, 0)) ∧ Aside0 (Below w.heap.size w w'))
  case atStart => exact ⟨0, 0, rfl, rfl, by omega, by omega, hR, ⟨by decide, by decide⟩, (MapKept.heap_alloc w _).1, ⟨by (repeat (first | (with_reducible exact Below.refl _ _) | (with_reducible exact Aside0.out (by assumption)) | (with_reducible apply below_alloc) | (with_reducible apply pw_below_drewN) | (with_reducible apply Below.drew) | ((with_reducible refine Below.setCell ?_ ?_ _); rotate_left; (first | (simp; done) | (simp; omega) | exact Nat.le_refl _))))⟩⟩
  case round =>
    obtain ⟨i, s, rfl, rfl, hik, hk0, hs, ⟨s0, s1⟩, hblk, hB⟩ := hrel
    by_cases hi : i < ps.length
    · have d : decide ((i : Int) < (ps.length : Int)) = true := decide_eq_true (by omega)
      obtain ⟨⟨x, y⟩, hxy⟩ : ∃ p, ps[i]? = some p := ⟨ps[i], List.getElem?_eq_getElem hi⟩
      obtain ⟨c0, c1⟩ := hP.out.cells i x y hxy
      replace c0 := pw_cell_below hB.out c0
      replace c1 := pw_cell_below hB.out c1
      have hw1 := hw.out _ (List.mem_of_getElem? hxy)
      have hdr : ps.drop i = (x, y) :: ps.drop (i + 1) := by
        rw [List.drop_eq_getElem_cons hi]
        congr 1
        exact Option.some.inj ((List.getElem?_eq_getElem hi).symm.trans hxy)
      have hs' := hs.out
      rw [hdr] at hs'
      simp only [setR] at hs'
      have hblk2 := blk_alloc hblk (.cells #[.int .i64 x, .int .i64 y] 47)
      obtain ⟨q0, q1, q2, qf0, qf1, qf2⟩ := cells3 hblk2
      have hB2 : Aside0 (Below w.heap.size w (wr.alloc (.cells #[.int .i64 x, .int .i64 y] 47))) := ⟨below_alloc hB.out _⟩
      by_cases hbad : mn x y < 0 ∨ mx x y > 31
      · rw [if_pos hbad] at hs'
        have hq : (0, 0, 91) = (r1, r2, r3) := hs'
        simp only [Prod.mk.injEq] at hq
        obtain ⟨rfl, rfl, rfl⟩ := hq
        have hR2 : Aside0 (mn x y < 0 ∨ mx x y > 31) := ⟨hbad⟩
        have hdb : (decide (mn x y < 0) || decide (mx x y > 31)) = true := by simpa using hbad
        clear hs' hbad hdr hs hR
        rcases Int.lt_or_le y x with hyx | hyx
        · have l1 : decide (y < x) = true := decide_eq_true hyx
          have l2 : decide (x ≤ y) = false := decide_eq_false (by omega)
          have l3 : decide (x < y) = false := decide_eq_false (by omega)
          have l4 : decide (y ≤ x) = true := decide_eq_true (by omega)
          by_cases h0 : y < 0
          · have k1 : decide (y < 0) = true := decide_eq_true h0
            go_wp2_with fail
            refine bodyPost_ret (v := _) (by first | (simp [results, Try.results15, go_sem, *]; done) | (simp [results, Try.results15, go_sem, *]; rfl)) rfl ⟨rfl, ?_⟩
            (repeat (first | (with_reducible exact Below.refl _ _) | (with_reducible exact Aside0.out (by assumption)) | (with_reducible apply below_alloc) | (with_reducible apply pw_below_drewN) | (with_reducible apply Below.drew) | ((with_reducible refine Below.setCell ?_ ?_ _); rotate_left; (first | (simp; done) | (simp; omega) | exact Nat.le_refl _))))
          · have k1 : decide (y < 0) = false := decide_eq_false h0
            have k2 : decide (31 < x) = true := decide_eq_true (by have := hR2.out; simp only [mn, mx] at this; (repeat' split at this) <;> omega)
            go_wp2_with fail
            refine bodyPost_ret (v := _) (by first | (simp [results, Try.results15, go_sem, *]; done) | (simp [results, Try.results15, go_sem, *]; rfl)) rfl ⟨rfl, ?_⟩
            (repeat (first | (with_reducible exact Below.refl _ _) | (with_reducible exact Aside0.out (by assumption)) | (with_reducible apply below_alloc) | (with_reducible apply pw_below_drewN) | (with_reducible apply Below.drew) | ((with_reducible refine Below.setCell ?_ ?_ _); rotate_left; (first | (simp; done) | (simp; omega) | exact Nat.le_refl _))))
        · rcases Int.lt_or_le x y with hlt | hge
          · have l1 : decide (y < x) = false := decide_eq_false (by omega)
            have l2 : decide (x ≤ y) = true := decide_eq_true hyx
            have l3 : decide (x < y) = true := decide_eq_true hlt
            have l4 : decide (y ≤ x) = false := decide_eq_false (by omega)
            by_cases h0 : x < 0
            · have k1 : decide (x < 0) = true := decide_eq_true h0
              go_wp2_with fail
              refine bodyPost_ret (v := _) (by first | (simp [results, Try.results15, go_sem, *]; done) | (simp [results, Try.results15, go_sem, *]; rfl)) rfl ⟨rfl, ?_⟩
              (repeat (first | (with_reducible exact Below.refl _ _) | (with_reducible exact Aside0.out (by assumption)) | (with_reducible apply below_alloc) | (with_reducible apply pw_below_drewN) | (with_reducible apply Below.drew) | ((with_reducible refine Below.setCell ?_ ?_ _); rotate_left; (first | (simp; done) | (simp; omega) | exact Nat.le_refl _))))
            · have k1 : decide (x < 0) = false := decide_eq_false h0
              have k2 : decide (31 < y) = true := decide_eq_true (by have := hR2.out; simp only [mn, mx] at this; (repeat' split at this) <;> omega)
              go_wp2_with fail
              refine bodyPost_ret (v := _) (by first | (simp [results, Try.results15, go_sem, *]; done) | (simp [results, Try.results15, go_sem, *]; rfl)) rfl ⟨rfl, ?_⟩
              (repeat (first | (with_reducible exact Below.refl _ _) | (with_reducible exact Aside0.out (by assumption)) | (with_reducible apply below_alloc) | (with_reducible apply pw_below_drewN) | (with_reducible apply Below.drew) | ((with_reducible refine Below.setCell ?_ ?_ _); rotate_left; (first | (simp; done) | (simp; omega) | exact Nat.le_refl _))))
          · obtain rfl : x = y := by omega
            by_cases h0 : x < 0
            · have k1 : decide (x < 0) = true := decide_eq_true h0
              go_wp2_with fail
              refine bodyPost_ret (v := _) (by first | (simp [results, Try.results15, go_sem, *]; done) | (simp [results, Try.results15, go_sem, *]; rfl)) rfl ⟨rfl, ?_⟩
              (repeat (first | (with_reducible exact Below.refl _ _) | (with_reducible exact Aside0.out (by assumption)) | (with_reducible apply below_alloc) | (with_reducible apply pw_below_drewN) | (with_reducible apply Below.drew) | ((with_reducible refine Below.setCell ?_ ?_ _); rotate_left; (first | (simp; done) | (simp; omega) | exact Nat.le_refl _))))
            · have k1 : decide (x < 0) = false := decide_eq_false h0
              have k2 : decide (31 < x) = true := decide_eq_true (by have := hR2.out; simp only [mn, mx] at this; (repeat' split at this) <;> omega)
              go_wp2_with fail
              refine bodyPost_ret (v := _) (by first | (simp [results, Try.results15, go_sem, *]; done) | (simp [results, Try.results15, go_sem, *]; rfl)) rfl ⟨rfl, ?_⟩
              (repeat (first | (with_reducible exact Below.refl _ _) | (with_reducible exact Aside0.out (by assumption)) | (with_reducible apply below_alloc) | (with_reducible apply pw_below_drewN) | (with_reducible apply Below.drew) | ((with_reducible refine Below.setCell ?_ ?_ _); rotate_left; (first | (simp; done) | (simp; omega) | exact Nat.le_refl _))))
      · rw [if_neg hbad] at hs'
        have hs2 := Aside0.mk hs'
        have hxy0 : 0 ≤ x ∧ 0 ≤ y ∧ x ≤ 31 ∧ y ≤ 31 := by
          unfold mn mx at hbad
          split at hbad <;> split at hbad <;> omega
        obtain ⟨x0, y0, x31, y31⟩ := hxy0
        have k1 : decide (x < 0) = false := decide_eq_false (by omega)
        have k2 : decide (y < 0) = false := decide_eq_false (by omega)
        have k3 : decide (31 < x) = false := decide_eq_false (by omega)
        have k4 : decide (31 < y) = false := decide_eq_false (by omega)
        obtain ⟨F, hF⟩ : ∃ F, orF (y + 1 - x).toNat x s = F := ⟨_, rfl⟩
        rw [hF] at hs2
        have hF := Aside0.mk hF
        clear hs' hbad hdr hs hR q0 q1 q2 qf0 qf1 qf2
        go_upto_region 5 with (fail)
        go_cut [27] (fun v wc => v = .bool false ∧ wc = wr.alloc (.cells #[.int .i64 x, .int .i64 y] 47))
        case first =>
          rcases Int.lt_or_le y x with hyx | hyx
          · have l1 : decide (y < x) = true := decide_eq_true hyx
            have l2 : decide (x ≤ y) = false := decide_eq_false (by omega)
            have l3 : decide (x < y) = false := decide_eq_false (by omega)
            have l4 : decide (y ≤ x) = true := decide_eq_true (by omega)
            go_wp2_with fail
            go_meet
            exact ⟨rfl, rfl⟩
          · rcases Int.lt_or_le x y with hlt | hge
            · have l1 : decide (y < x) = false := decide_eq_false (by omega)
              have l2 : decide (x ≤ y) = true := decide_eq_true hyx
              have l3 : decide (x < y) = true := decide_eq_true hlt
              have l4 : decide (y ≤ x) = false := decide_eq_false (by omega)
              go_wp2_with fail
              go_meet
              exact ⟨rfl, rfl⟩
            · obtain rfl : x = y := by omega
              go_wp2_with fail
              go_meet
              exact ⟨rfl, rfl⟩
        case rest =>
        obtain ⟨rfl, rfl⟩ := hcut
        go_wp2_with fail
        go_loopg [7, 4] (40 - x).toNat (fun kq v7 v4 w' => ∃ n s', v7 = .int .i64 n ∧ v4 = .int .u32 s' ∧ x ≤ n ∧ n ≤ 32 ∧ n + kq = 40 ∧ Aside0 (orF (y + 1 - n).toNat n s' = F) ∧ (0 ≤ s' ∧ s' < 4294967296) ∧ w' = wr.alloc (.cells #[.int .i64 x, .int .i64 y] 47))
        case atStart => exact ⟨x, s, rfl, rfl, by omega, by omega, by omega, hF, ⟨s0, s1⟩, rfl⟩
        case round =>
          obtain ⟨n, s', rfl, rfl, xn, n32, nk, hf, ⟨s0', s1'⟩, rfl⟩ := hrel
          by_cases hny : n ≤ y
          · have d1 : decide (n ≤ y) = true := decide_eq_true hny
            have n0 : decide (0 ≤ n) = true := decide_eq_true (by omega)
            have n1 : 0 ≤ n := by omega
            have hew : wrap64 (n + 1) = n + 1 := w64 (by omega) (by omega)
            have hf2 : Aside0 (orF (y + 1 - (n + 1)).toNat (n + 1) (Go.bits .or .u32 s' (shl .u32 1 n)) = F) := ⟨by have := hf.out; rwa [show (y + 1 - n).toNat = (y + 1 - (n + 1)).toNat + 1 by omega] at this⟩
            have hbu : 0 ≤ Go.bits .or .u32 s' (shl .u32 1 n) ∧ Go.bits .or .u32 s' (shl .u32 1 n) < 4294967296 := by unfold Go.bits; rw [IntKind.wrap_u32]; omega
            have hsh : Aside0 (shl .u32 1 n = 2 ^ n.toNat % 4294967296) := ⟨by simp only [shl, IntKind.bits, Int.one_mul]; rw [show min n.toNat 32 = n.toNat by omega, IntKind.wrap_u32]⟩
            have hsh2 : Aside0 (shl .u32 1 n = 2 ^ n.toNat) := ⟨by rw [hsh.out]; have := pow_le' n.toNat 31 (by omega); have := pow_pos' n.toNat; omega⟩
            go_wp2_with fail
            go_roundg (gk - 1)
            case measure => omega
            case rel => exact ⟨n + 1, _, by first | rfl | (simp [hew]; done), by first | rfl | (rw [hsh.out]) | (rw [hsh2.out]), by omega, by omega, by omega, hf2, hbu, rfl⟩
          · have d1 : decide (n ≤ y) = false := decide_eq_false hny
            have hFs : Aside0 (F = s') := ⟨by have := hf.out; rw [show (y + 1 - n).toNat = 0 by omega] at this; exact this.symm⟩
            have hew : Aside0 (wrap64 ((i : Int) + 1) = ((i + 1 : Nat) : Int)) := ⟨by have := hm0.out; rw [w64 (by omega) (by omega)]; omega⟩
            go_wp2_with fail
            go_roundg (ps.length - i)
            case measure => omega
            case rel => exact ⟨i + 1, s', by first | rfl | (rw [hew.out]), rfl, by omega, by omega, ⟨by rw [← hFs.out]; exact hs2.out⟩, ⟨s0', s1'⟩, hblk2, hB2⟩
    · obtain rfl : i = ps.length := by omega
      have d : decide ((ps.length : Int) < (ps.length : Int)) = false := decide_eq_false (by omega)
      have hs' := hs.out
      rw [List.drop_length] at hs'
      have hq : (4, s, 0) = (r1, r2, r3) := hs'
      simp only [Prod.mk.injEq] at hq
      obtain ⟨rfl, rfl, rfl⟩ := hq
      have S := Aside0.mk (fun W => set_any s W s0 s1)
      clear hs' hs hR
      go_wp2_with fail
      refine (S.out _).mono ?_
      rintro e w5 ⟨rfl, hb5⟩
      obtain ⟨c0, c1, c2, f0, f1, f2⟩ := cells3 (blk_below hblk hb5)
      have G5 : Aside0 (Below w.heap.size w w5) := ⟨below_step hB.out hb5⟩
      clear hb5
      go_wp2_with fail
      refine bodyPost_ret (v := _) (by first | (simp [results, Try.results15, go_sem, *]; done) | (simp [results, Try.results15, go_sem, *]; rfl)) rfl ⟨rfl, ?_⟩
      (repeat (first | (with_reducible exact Below.refl _ _) | (with_reducible exact Aside0.out (by assumption)) | (with_reducible apply below_alloc) | (with_reducible apply pw_below_drewN) | (with_reducible apply Below.drew) | ((with_reducible refine Below.setCell ?_ ?_ _); rotate_left; (first | (simp; done) | (simp; omega) | exact Nat.le_refl _))))
end Go.Proofs.Ytjimcgmefpienaa.SetOf
