/- The document's Set, walked: it tells what consts.Set tells. -/
import Derived.Test.YtjimcgmefpienaaConstsSet
import Derived.Test.YtjimcgmefpienaaRef12e
import Derived.Test.YtjimcgmefpienaaRefOne
import Derived.Test.YtjimcgmefpienaaBits12
namespace Go.Proofs.Ytjimcgmefpienaa.RefSet
open Go.RowKit Go.Maps Go.Proofs.Ytjimcgmefpienaa.Tab Go.Proofs.Ytjimcgmefpienaa.Plain Go.Proofs.Ytjimcgmefpienaa.Small Go.Proofs.Ytjimcgmefpienaa.SetOf Go.Proofs.Ytjimcgmefpienaa.Pure12 Go.Proofs.Ytjimcgmefpienaa.RefOne Go.Proofs.Ytjimcgmefpienaa.PConstsCalls Go.Proofs.YtjimcgmefpienaaW.PrintWords Go.Proofs.YtjimcgmefpienaaW.PrintLast Go.Proofs.YtjimcgmefpienaaW.PrintMore
set_option linter.unusedVariables false
set_option linter.unusedSimpArgs false

theorem or_held (a m : Nat) (h : a.testBit m = true) : a ||| 2 ^ m = a := by
  apply Nat.eq_of_testBit_eq
  intro i
  rw [Nat.testBit_or, Nat.testBit_two_pow]
  by_cases e : m = i
  · subst e; rw [h]; rfl
  · simp [e]
theorem or_free (a m : Nat) (ha : a < 4294967296) (hm : m < 32) (h : a.testBit m = false) : a ||| 2 ^ m = a + 2 ^ m := by
  have hp : 2 ^ m < 4294967296 := Nat.pow_lt_pow_right (n := 32) (by decide) hm
  have hz : a &&& 2 ^ m = 0 := by rw [Bits12.and_pow, h]; rfl
  have hb : (BitVec.ofNat 64 a) &&& (BitVec.ofNat 64 (2 ^ m)) = 0#64 := by
    apply BitVec.eq_of_toNat_eq
    rw [BitVec.toNat_and, BitVec.toNat_ofNat, BitVec.toNat_ofNat, Nat.mod_eq_of_lt (by omega), Nat.mod_eq_of_lt (by omega), hz]; rfl
  have := congrArg BitVec.toNat (BitVec.add_eq_or_of_and_eq_zero _ _ hb)
  rw [BitVec.toNat_or, BitVec.toNat_add, BitVec.toNat_ofNat, BitVec.toNat_ofNat, Nat.mod_eq_of_lt (a := a) (by omega), Nat.mod_eq_of_lt (a := 2 ^ m) (by omega), Nat.mod_eq_of_lt (show a + 2 ^ m < 2 ^ 64 by omega)] at this
  exact this.symm
/-- One bit is put into a word: as 'or' does. -/
theorem put_or (k : Nat) (s n : Int) (hk : 33 < k) (s0 : 0 ≤ s) (s1 : s < 4294967296) (n0 : 0 ≤ n) (n1 : n < 32) : spinetref01_Put.f k s n 1 1 = some (Go.bits .or .u32 s (shl .u32 1 n)) := by
  obtain ⟨a, rfl, ha⟩ := Bits12.nat_of s s0 s1
  obtain ⟨m, rfl⟩ : ∃ m : Nat, n = m := ⟨n.toNat, by omega⟩
  have hm : m < 32 := by omega
  have hp : 2 ^ m < 4294967296 := Nat.pow_lt_pow_right (n := 32) (by decide) hm
  have e1 : shl .u32 1 (m : Int) = ((2 ^ m : Nat) : Int) := by
    unfold shl
    rw [IntKind.wrap_u32, Int.toNat_natCast, Nat.min_eq_left (by simp [IntKind.bits]; omega), Int.one_mul, show ((2 : Int) ^ m) = ((2 ^ m : Nat) : Int) from (Int.natCast_pow 2 m).symm]
    exact Int.emod_eq_of_lt (Int.natCast_nonneg _) (Int.ofNat_lt.2 hp)
  rw [e1, Bits12.or_nat a (2 ^ m) ha hp]
  have hq := pow_le' m 31 (by omega)
  have hpp := pow_pos' m
  have e2 : (2 : Int) ^ (1 : Int).toNat = 2 := by decide
  have e3 : Int.tmod (IntKind.u64.wrap 1) 2 = 1 := by decide
  have hbit : a / 2 ^ m % 2 = 0 ∨ a / 2 ^ m % 2 = 1 := by omega
  have hcast : (a : Int) / 2 ^ m % 2 = ((a / 2 ^ m % 2 : Nat) : Int) := by simp
  have hge : a / 2 ^ m % 2 * 2 ^ m ≤ a := Nat.le_trans (Nat.mul_le_mul_right _ (Nat.mod_le _ _)) (Nat.div_mul_le_self _ _)
  have hor : a ||| 2 ^ m = a - a / 2 ^ m % 2 * 2 ^ m + 2 ^ m := by
    rcases hbit with h | h
    · rw [h, Nat.zero_mul, Nat.sub_zero]
      exact or_free a m ha hm (by rw [Nat.testBit_eq_decide_div_mod_eq, h]; rfl)
    · rw [h, Nat.one_mul]
      rw [h, Nat.one_mul] at hge
      rw [or_held a m (by rw [Nat.testBit_eq_decide_div_mod_eq, h]; rfl)]
      omega
  have hle : a - a / 2 ^ m % 2 * 2 ^ m + 2 ^ m < 4294967296 := by
    rw [← hor]; exact Nat.or_lt_two_pow (n := 32) (by omega) hp
  unfold spinetref01_Put.f
  rw [may_1 m (by omega) (by omega)]
  simp only [Option.bind_some, if_true]
  rw [get_1 k a m hk s0 s1 (by omega) (by omega), pow_any' m k (by omega) (by omega) hk, pow_any' 1 k (by decide) (by decide) hk, e2]
  simp only [Option.bind_some, Int.toNat_natCast]
  rw [if_neg (by decide), hcast, e3, Int.one_mul, u64w (n := ((a / 2 ^ m % 2 : Nat) : Int)) (by omega) (by omega)]
  rw [hor]
  rw [show ((2 : Int) ^ m) = ((2 ^ m : Nat) : Int) from (Int.natCast_pow 2 m).symm]
  rw [← Int.natCast_mul]
  generalize a / 2 ^ m % 2 * 2 ^ m = X at *
  generalize 2 ^ m = Y at *
  rw [u64w (n := (a : Int)) (by omega) (by omega), u64w (n := (X : Int)) (by omega) (by omega), u64w (n := (a : Int) - X) (by omega) (by omega), u64w (n := (Y : Int)) (by omega) (by omega), u64w (by omega) (by omega)]
  congr 1
  omega
structure PairsA (w : World) (ad : Addr) (ps : List (Int × Int)) : Prop where
  cells : ∀ i x y, ps[i]? = some (x, y) → w.cell? (ad.add (i * 2)) = some (.int .i64 x) ∧ w.cell? ⟨(ad.add (i * 2)).block, (ad.add (i * 2)).off + 1, none⟩ = some (.int .i64 y)
set_option maxRecDepth 100000 in
set_option maxHeartbeats 4000000 in
theorem rset_of (ad : Addr) (cap : Nat) (ps : List (Int × Int)) (w : World) (P : PairsA w ad ps) (hl : ps.length ≤ cap) (hm : ps.length < 100000)
    (hw : ∀ p ∈ ps, (-9223372036854775808 ≤ p.1 ∧ p.1 ≤ 9223372036854775807) ∧ (-9223372036854775808 ≤ p.2 ∧ p.2 ≤ 9223372036854775807)) :
    Calls Try.prog 16 #[.slice (some ad) ps.length cap] w fun e w' => e = .returned (VR (setR ps 0)) ∧ Below w.heap.size w w' := by
  obtain ⟨⟨r1, r2, r3⟩, hR⟩ : ∃ r, setR ps 0 = r := ⟨_, rfl⟩
  rw [hR]
  have hR := Aside0.mk hR
  have hP := Aside0.mk P
  have hw := Aside0.mk hw
  have hl0 := Aside0.mk hl
  have hm0 := Aside0.mk hm
  clear P hl
  go_enter Try.func16, Try.ntmps16
  go_wp2_with fail
  go_loopg [5, 4] (ps.length + 1) (fun kq v5 v4 w' => ∃ (i : Nat) (s : Int), v5 = .int .i64 i ∧ v4 = .int .u32 s ∧ i + kq = ps.length + 1 ∧ 0 < kq ∧ Aside0 (setR (ps.drop i) s = (r1, r2, r3)) ∧ (0 ≤ s ∧ s < 4294967296) ∧
    w'.heap[w.heap.size]? = some (.cells #[.int .i64 0, .int .i64 0, .string E0] 23 (0, 0)) ∧ Aside0 (Below w.heap.size w w'))
  case atStart => exact ⟨0, 0, rfl, rfl, by omega, by omega, hR, ⟨by decide, by decide⟩, (MapKept.heap_alloc w _).1, ⟨by (repeat (first | (with_reducible exact Below.refl _ _) | (with_reducible exact Aside0.out (by assumption)) | (with_reducible apply below_alloc) | (with_reducible apply pw_below_drewN) | (with_reducible apply Below.drew) | ((with_reducible refine Below.setCell ?_ ?_ _); rotate_left; (first | (simp; done) | (simp; omega) | exact Nat.le_refl _))))⟩⟩
  case round =>
    obtain ⟨i, s, rfl, rfl, hik, hk0, hs, ⟨s0, s1⟩, hblk, hB⟩ := hrel
    by_cases hi : i < ps.length
    · have d : decide ((i : Int) < (ps.length : Int)) = true := decide_eq_true (by omega)
      have p1 := eq_true (show (0 : Int) ≤ (i : Int) by omega)
      have q1 := eq_true (show (i : Int) < (ps.length : Int) by omega)
      obtain ⟨⟨x, y⟩, hxy⟩ : ∃ p, ps[i]? = some p := ⟨ps[i], List.getElem?_eq_getElem hi⟩
      obtain ⟨c0, c1⟩ := hP.out.cells i x y hxy
      replace c0 := pw_cell_below hB.out c0
      replace c1 := pw_cell_below hB.out c1
      have hw1 := hw.out _ (List.mem_of_getElem? hxy)
      have hdr : ps.drop i = (x, y) :: ps.drop (i + 1) := by
        rw [List.drop_eq_getElem_cons hi]
        congr 1
        exact Option.some.inj ((List.getElem?_eq_getElem hi).symm.trans hxy)
      have hs' := hs.out
      rw [hdr] at hs'
      simp only [setR] at hs'
      by_cases hbad : mn x y < 0 ∨ mx x y > 31
      · rw [if_pos hbad] at hs'
        have hq : (0, 0, 91) = (r1, r2, r3) := hs'
        simp only [Prod.mk.injEq] at hq
        obtain ⟨rfl, rfl, rfl⟩ := hq
        have hR2 : x < 0 ∨ (¬ x < 0 ∧ x > 31) ∨ (¬ x < 0 ∧ ¬ x > 31 ∧ y < 0) ∨ (¬ x < 0 ∧ ¬ x > 31 ∧ ¬ y < 0 ∧ y > 31) := by
          unfold mn mx at hbad
          split at hbad <;> split at hbad <;> omega
        obtain ⟨q0, q1', q2, qf0, qf1, qf2⟩ := cells3 hblk
        clear hs' hbad hdr hs hR hi hw1 hxy
        rcases hR2 with h | ⟨h, h'⟩ | ⟨h, h', h2⟩ | ⟨h, h', h2, h3⟩
        · have k1 : decide (x < 0) = true := decide_eq_true h
          clear h
          go_wp2_with fail
          go_quiet (fail)
          go_wp2_with fail
          refine bodyPost_ret (v := _) (by first | (simp [results, Try.results16, go_sem, *]; done) | (simp [results, Try.results16, go_sem, *]; rfl)) rfl ⟨rfl, ?_⟩
          exact ((((pw_below_drewN hB.out _)).setCell (Nat.le_refl _) _).setCell (Nat.le_refl _) _).setCell (Nat.le_refl _) _
        · have k1 : decide (x < 0) = false := decide_eq_false h
          have k2 : decide (31 < x) = true := decide_eq_true h'
          clear h h'
          go_wp2_with fail
          go_quiet (fail)
          go_wp2_with fail
          refine bodyPost_ret (v := _) (by first | (simp [results, Try.results16, go_sem, *]; done) | (simp [results, Try.results16, go_sem, *]; rfl)) rfl ⟨rfl, ?_⟩
          exact ((((pw_below_drewN hB.out _)).setCell (Nat.le_refl _) _).setCell (Nat.le_refl _) _).setCell (Nat.le_refl _) _
        · have k1 : decide (x < 0) = false := decide_eq_false h
          have k2 : decide (31 < x) = false := decide_eq_false h'
          have k3 : decide (y < 0) = true := decide_eq_true h2
          clear h h' h2
          go_wp2_with fail
          go_quiet (fail)
          go_wp2_with fail
          refine bodyPost_ret (v := _) (by first | (simp [results, Try.results16, go_sem, *]; done) | (simp [results, Try.results16, go_sem, *]; rfl)) rfl ⟨rfl, ?_⟩
          exact ((((pw_below_drewN hB.out _)).setCell (Nat.le_refl _) _).setCell (Nat.le_refl _) _).setCell (Nat.le_refl _) _
        · have k1 : decide (x < 0) = false := decide_eq_false h
          have k2 : decide (31 < x) = false := decide_eq_false h'
          have k3 : decide (y < 0) = false := decide_eq_false h2
          have k4 : decide (31 < y) = true := decide_eq_true h3
          clear h h' h2 h3
          go_wp2_with fail
          go_quiet (fail)
          go_wp2_with fail
          refine bodyPost_ret (v := _) (by first | (simp [results, Try.results16, go_sem, *]; done) | (simp [results, Try.results16, go_sem, *]; rfl)) rfl ⟨rfl, ?_⟩
          exact ((((pw_below_drewN hB.out _)).setCell (Nat.le_refl _) _).setCell (Nat.le_refl _) _).setCell (Nat.le_refl _) _
      · rw [if_neg hbad] at hs'
        have hs2 := Aside0.mk hs'
        have hxy0 : 0 ≤ x ∧ 0 ≤ y ∧ x ≤ 31 ∧ y ≤ 31 := by
          unfold mn mx at hbad
          split at hbad <;> split at hbad <;> omega
        obtain ⟨x0, y0, x31, y31⟩ := hxy0
        have k1 : decide (x < 0) = false := decide_eq_false (by omega)
        have k2 : decide (y < 0) = false := decide_eq_false (by omega)
        have k3 : decide (31 < x) = false := decide_eq_false (by omega)
        have k4 : decide (31 < y) = false := decide_eq_false (by omega)
        obtain ⟨F, hF⟩ : ∃ F, orF (y + 1 - x).toNat x s = F := ⟨_, rfl⟩
        rw [hF] at hs2
        have hF := Aside0.mk hF
        clear hs' hbad hdr hs hR
        have hblk' := Aside0.mk hblk
        clear hblk
        go_wp2_with fail
        go_quiet (fail)
        go_wp2_with fail
        go_loopg [8, 4] (40 - x).toNat (fun kq v8 v4 w' => ∃ n s', v8 = .int .i64 n ∧ v4 = .int .u32 s' ∧ x ≤ n ∧ n ≤ 32 ∧ n + kq = 40 ∧ Aside0 (orF (y + 1 - n).toNat n s' = F) ∧ (0 ≤ s' ∧ s' < 4294967296) ∧ Aside0 (w'.heap[w.heap.size]? = some (.cells #[.int .i64 0, .int .i64 0, .string E0] 23 (0, 0))) ∧ Aside0 (Below w.heap.size w w'))
        case atStart => exact ⟨x, s, rfl, rfl, by omega, by omega, by omega, hF, ⟨s0, s1⟩, ⟨hblk'.out⟩, ⟨pw_below_drewN hB.out _⟩⟩
        case round =>
          obtain ⟨n, s', rfl, rfl, xn, n32, nk, hf, ⟨s0', s1'⟩, hb2, hB2⟩ := hrel
          by_cases hny : n ≤ y
          · have d1 : decide (n ≤ y) = true := decide_eq_true hny
            have hew : wrap64 (n + 1) = n + 1 := w64 (by omega) (by omega)
            have hf2 : Aside0 (orF (y + 1 - (n + 1)).toNat (n + 1) (Go.bits .or .u32 s' (shl .u32 1 n)) = F) := ⟨by have := hf.out; rwa [show (y + 1 - n).toNat = (y + 1 - (n + 1)).toNat + 1 by omega] at this⟩
            have hbu : 0 ≤ Go.bits .or .u32 s' (shl .u32 1 n) ∧ Go.bits .or .u32 s' (shl .u32 1 n) < 4294967296 := by unfold Go.bits; rw [IntKind.wrap_u32]; omega
            have PU := Aside0.mk (fun W => spinetref01_Put.calls 40 s' n 1 1 _ W (put_or 40 s' n (by decide) s0' s1' (by omega) (by omega)))
            generalize Go.bits .or .u32 s' (shl .u32 1 n) = s2 at *
            go_wp2_with fail
            refine (PU.out _).mono ?_
            rintro e w5 ⟨rfl, nd, rfl⟩
            go_wp2_with fail
            go_roundg (gk - 1)
            case measure => omega
            case rel => exact ⟨n + 1, _, by first | rfl | (simp [hew]; done), rfl, by omega, by omega, by omega, hf2, hbu, ⟨hb2.out⟩, ⟨pw_below_drewN hB2.out _⟩⟩
          · have d1 : decide (n ≤ y) = false := decide_eq_false hny
            have hFs : Aside0 (F = s') := ⟨by have := hf.out; rw [show (y + 1 - n).toNat = 0 by omega] at this; exact this.symm⟩
            have hew : Aside0 (wrap64 ((i : Int) + 1) = ((i + 1 : Nat) : Int)) := ⟨by have := hm0.out; rw [w64 (by omega) (by omega)]; omega⟩
            go_wp2_with fail
            go_roundg (ps.length - i)
            case measure => omega
            case rel => exact ⟨i + 1, s', by first | rfl | (rw [hew.out]), rfl, by omega, by omega, ⟨by rw [← hFs.out]; exact hs2.out⟩, ⟨s0', s1'⟩, hb2.out, hB2⟩
    · obtain rfl : i = ps.length := by omega
      have d : decide ((ps.length : Int) < (ps.length : Int)) = false := decide_eq_false (by omega)
      have hs' := hs.out
      rw [List.drop_length] at hs'
      have hq : (4, s, 0) = (r1, r2, r3) := hs'
      simp only [Prod.mk.injEq] at hq
      obtain ⟨rfl, rfl, rfl⟩ := hq
      have S := Aside0.mk (fun W => rset_any s W s0 s1)
      clear hs' hs hR
      go_wp2_with fail
      refine (S.out _).mono ?_
      rintro e w5 ⟨rfl, hb5⟩
      obtain ⟨c0, c1, c2, f0, f1, f2⟩ := cells3 (blk_below hblk hb5)
      have G5 := Aside0.mk (below_step hB.out hb5)
      clear hb5
      go_wp2_with fail
      refine bodyPost_ret (v := _) (by first | (simp [results, Try.results16, go_sem, *]; done) | (simp [results, Try.results16, go_sem, *]; rfl)) rfl ⟨rfl, ?_⟩
      exact ((G5.out.setCell (Nat.le_refl _) _).setCell (Nat.le_refl _) _).setCell (Nat.le_refl _) _
end Go.Proofs.Ytjimcgmefpienaa.RefSet
