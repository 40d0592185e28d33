/- The law ConstsSets: both tell the same set of any pairs; walked. -/
import Derived.Test.YtjimcgmefpienaaLaw12
import Derived.Test.YtjimcgmefpienaaRefSet
import Derived.Laws.AppendOwn
import Derived.Deep.AppendLies
namespace Go.Proofs.Ytjimcgmefpienaa.LawSets
open Go.RowKit Go.Maps Go.Proofs.Ytjimcgmefpienaa.Tab Go.Proofs.Ytjimcgmefpienaa.Plain Go.Proofs.Ytjimcgmefpienaa.Small Go.Proofs.Ytjimcgmefpienaa.Rels Go.Proofs.Ytjimcgmefpienaa.Two Go.Proofs.Ytjimcgmefpienaa.Wakes Go.Proofs.Ytjimcgmefpienaa.SetOf Go.Proofs.Ytjimcgmefpienaa.RefSet Go.Proofs.Ytjimcgmefpienaa.Law12 Go.Proofs.YtjimcgmefpienaaW.PrintWords Go.Proofs.YtjimcgmefpienaaW.PrintLast Go.Proofs.YtjimcgmefpienaaW.PrintMore
set_option linter.unusedVariables false
set_option linter.unusedSimpArgs false

set_option maxRecDepth 100000 in
set_option maxHeartbeats 4000000 in
theorem walk_big (A : Option Addr) (n cap : Nat) (w : World) (hn : n > 2000) :
    Calls Try.prog 4 #[.slice A n cap] w fun e w' => e = .returned (.bool true) ∧ Below w.heap.size w w' := by
  have Wk := Aside0.mk wakes_any
  have d : decide (2000 < (n : Int)) = true := decide_eq_true (by omega)
  have d2 : decide (2000 < n) = true := decide_eq_true (by omega)
  clear hn
  go_enter Try.func4, Try.ntmps4
  go_wp2_with fail
  refine (Wk.out _).mono ?_
  rintro e w1 ⟨rfl, hb1⟩
  have G := Aside0.mk hb1
  clear hb1
  go_wp2_with fail
  go_ret
  exact ⟨rfl, G.out⟩
theorem infoPair : (Try.prog.info? 47).map (fun i => (i.zero, i.size, i.bytes)) = some (some (.agg #[.int .i64 0, .int .i64 0]), 2, 16) := by kernel_rfl
/-- The cells of pairs, one behind the other. -/
def cellsOf (ps : List (Int × Int)) : List Value := ps.flatMap fun p => [.int .i64 p.1, .int .i64 p.2]
theorem cellsOf_len (ps : List (Int × Int)) : (cellsOf ps).length = ps.length * 2 := by
  induction ps with
  | nil => rfl
  | cons p ps ih => simp only [cellsOf, List.flatMap_cons, List.length_append, List.length_cons, List.length_nil] at ih ⊢; omega
theorem cellsOf_get : ∀ (ps : List (Int × Int)) (j : Nat) (u : Value), (cellsOf ps)[j]? = some u → ∃ i x y, ps[i]? = some (x, y) ∧ ((j = i * 2 ∧ u = .int .i64 x) ∨ (j = i * 2 + 1 ∧ u = .int .i64 y))
  | [], j, u, h => by simp [cellsOf] at h
  | (x, y) :: ps, 0, u, h => ⟨0, x, y, rfl, Or.inl ⟨rfl, by simp [cellsOf] at h; exact h.symm⟩⟩
  | (x, y) :: ps, 1, u, h => ⟨0, x, y, rfl, Or.inr ⟨rfl, by simp [cellsOf] at h; exact h.symm⟩⟩
  | (x, y) :: ps, j + 2, u, h => by
    have h' : (cellsOf ps)[j]? = some u := by simpa [cellsOf] using h
    obtain ⟨i, a, b, hi, hj⟩ := cellsOf_get ps j u h'
    refine ⟨i + 1, a, b, by simpa using hi, ?_⟩
    rcases hj with ⟨h1, h2⟩ | ⟨h1, h2⟩
    · exact Or.inl ⟨by omega, h2⟩
    · exact Or.inr ⟨by omega, h2⟩
theorem cellsOf_at : ∀ (ps : List (Int × Int)) (i : Nat) (x y : Int), ps[i]? = some (x, y) → (cellsOf ps)[i * 2]? = some (.int .i64 x) ∧ (cellsOf ps)[i * 2 + 1]? = some (.int .i64 y)
  | [], i, x, y, h => by simp at h
  | (a, b) :: ps, 0, x, y, h => by
    simp at h
    obtain ⟨rfl, rfl⟩ := h
    exact ⟨rfl, rfl⟩
  | (a, b) :: ps, i + 1, x, y, h => by
    have h' : ps[i]? = some (x, y) := by simpa using h
    have := cellsOf_at ps i x y h'
    rw [show (i + 1) * 2 = i * 2 + 2 by omega, show i * 2 + 2 + 1 = i * 2 + 1 + 2 by omega]
    exact this
theorem cellsOf_one (ps : List (Int × Int)) : ∀ u ∈ cellsOf ps, u.oneCell' = true := by
  intro u hu
  simp only [cellsOf, List.mem_flatMap] at hu
  obtain ⟨p, _, h⟩ := hu
  simp at h
  rcases h with rfl | rfl <;> rfl
theorem pairs_below {w w' : World} {ad : Addr} {ps : List (Int × Int)} (h : PairsA w ad ps) (k : Below w.heap.size w w') : PairsA w' ad ps :=
  ⟨fun i x y hi => ⟨pw_cell_below k (h.cells i x y hi).1, pw_cell_below k (h.cells i x y hi).2⟩⟩
theorem pairs_at {w : World} {ad : Addr} {ps : List (Int × Int)} (h : PairsA w ad ps) : ∀ j u, (cellsOf ps)[j]? = some u → w.cell? (ad.add j) = some u := by
  intro j u hu
  obtain ⟨i, x, y, hi, hj⟩ := cellsOf_get ps j u hu
  have hc := h.cells i x y hi
  rcases hj with ⟨rfl, rfl⟩ | ⟨rfl, rfl⟩
  · exact hc.1
  · rw [add_field _ _ 1 (by decide)]; exact hc.2
set_option maxRecDepth 100000 in
set_option maxHeartbeats 8000000 in
theorem walk_some (ad : Addr) (cap : Nat) (ps : List (Int × Int)) (w : World) (P : PairsA w ad ps) (hl : ps.length ≤ cap) (hm : ps.length ≤ 2000)
    (hw : ∀ p ∈ ps, (-9223372036854775808 ≤ p.1 ∧ p.1 ≤ 9223372036854775807) ∧ (-9223372036854775808 ≤ p.2 ∧ p.2 ≤ 9223372036854775807)) :
    Calls Try.prog 4 #[.slice (some ad) ps.length cap] w fun e w' => e = .returned (.bool true) ∧ Below w.heap.size w w' := by
  have Wk := Aside0.mk wakes_any
  have d : decide (2000 < (ps.length : Int)) = false := decide_eq_false (by omega)
  have d2 : decide (2000 < ps.length) = false := decide_eq_false (by omega)
  have hP := Aside0.mk P
  have hw := Aside0.mk hw
  have hl := Aside0.mk hl
  have hm := Aside0.mk hm
  clear P
  obtain ⟨i0, hi, hz0, hz1, hz2⟩ := info_parts infoPair
  go_enter Try.func4, Try.ntmps4
  have H1 := Aside0.mk (World.ownsRow_made (base := w.heap.size) (e := 47) (size := 2) w #[] 0 (Nat.le_refl _) (by decide) rfl)
  go_wp2_with (at_builtin; refine wpList_append_own _ rfl _ _ 33 rfl w.heap.size 47 i0 (.agg #[.int .i64 0, .int .i64 0]) 2 16 Try.underlying33 hi hz0 hz1 hz2 rfl (by decide) _ _ _ rfl H1.out ad ps.length cap (cellsOf ps) rfl ?c0 ?c1 ?c2 ?c3 ?c4 ?c5 ?_)
  case c0 => exact cellsOf_len ps
  case c1 => exact pairs_at (pairs_below hP.out (below_alloc (Below.refl _ _) _))
  case c2 => exact cellsOf_one ps
  case c3 => have := hm.out; unfold maxLen; omega
  case c4 => have := hm.out; omega
  case c5 => simp
  intro v' w1 hown' hgrow hnil
  have hB1 : Below w.heap.size w w1 := (below_alloc (Below.refl _ _) _).grown hgrow (by simp) (fun k hk => by cases hk; exact Nat.le_refl _)
  have PA := Aside0.mk (pairs_below hP.out hB1)
  obtain ⟨g, cap', rfl, hcap⟩ : ∃ g cap', v' = .slice (some ⟨g, 0, none⟩) ps.length cap' ∧ ps.length ≤ cap' := by
    rcases hown'.2 with ⟨rfl, _⟩ | ⟨g, cap', cur, rfl, _, _, h1, _⟩
    · exact absurd (by simp) hnil
    · exact ⟨g, cap', rfl, by omega⟩
  have PS : Pairs w1 g 0 ps := ⟨fun i x y hxy => by
    have hc := cellsOf_at ps i x y hxy
    have h1 := hown'.cells (g := g) rfl _ _ hc.1
    have h2 := hown'.cells (g := g) rfl _ _ hc.2
    rw [Nat.zero_add]
    refine ⟨?_, ?_⟩
    · rw [← h1]
      congr 1
      unfold Addr.add
      split
      · rename_i h; rw [h]
      · simp
    · rw [← h2]; simp [Addr.add]⟩
  have hm1 := hm.out
  have I1 := Aside0.mk (set_of g 0 cap' ps w1 PS hcap (by omega) hw.out)
  have I2 := Aside0.mk (fun W (PW : PairsA W ad ps) => rset_of ad cap ps W PW hl.out (by omega) hw.out)
  obtain ⟨⟨r1, r2, r3⟩, hr⟩ : ∃ r, setR ps 0 = r := ⟨_, rfl⟩
  rw [hr] at I1 I2
  have SM := Aside0.mk (fun W => same_self r1 r2 E0 W)
  have he : (r3 == r3) = true := by simp
  have hB1 := Aside0.mk hB1
  clear hown' hgrow hnil PS hr hm1 H1 hP hi hz0 hz1 hz2
  go_wp2_with fail
  refine I1.out.mono ?_
  rintro e w2 ⟨rfl, hb2⟩
  have PA := Aside0.mk (pairs_below PA.out hb2)
  have H : Fb w [] w2 := ⟨fun x hx => (by cases hx), below_step hB1.out hb2⟩
  clear hb2 hB1
  have J := H.push r1 r2 E0
  have PA := Aside0.mk (pairs_below PA.out (below_alloc (Below.refl _ _) (.cells #[.int .i64 r1, .int .i64 r2, .string E0] 23)))
  clear H
  go_upto_region 4 with (fail)
  refine wp_of_world (fun W => Fb w [(w2.heap.size, r1, r2, E0)] W ∧ PairsA W ad ps) ⟨J, PA.out⟩ ?_
  clear J PA I1
  generalize w2.heap.size = p3 at *
  rintro W4 ⟨H, PA⟩
  have HH := Aside0.mk H
  have PA := Aside0.mk PA
  clear H
  go_wp2_with fail
  refine (I2.out _ PA.out).mono ?_
  rintro e w3 ⟨rfl, hb3⟩
  have H := Fb.step hb3 HH.out
  clear hb3 HH PA I2
  have J := H.push r1 r2 E0
  clear H
  go_upto_region 5 with (fail)
  refine wp_of_world (fun W => Fb w [(w3.heap.size, r1, r2, E0), (p3, r1, r2, E0)] W) J ?_
  clear J
  generalize w3.heap.size = p5 at *
  rintro W5 H
  obtain ⟨l00, l01, l02⟩ := H.get p3 r1 r2 E0 (by simp)
  obtain ⟨l10, l11, l12⟩ := H.get p5 r1 r2 E0 (by simp)
  have HH := Aside0.mk H
  clear H
  go_wp2_with fail
  refine (SM.out _).mono ?_
  rintro e w6 ⟨rfl, hb⟩
  have H := Aside0.mk (Fb.step hb HH.out)
  clear hb HH l00 l01 l02 l10 l11 l12
  go_wp2_with fail
  refine (Wk.out _).mono ?_
  rintro e w7 ⟨rfl, hb⟩
  have G := Aside0.mk (Fb.step hb H.out).2
  clear hb H
  go_wp2_with fail
  go_ret
  exact ⟨rfl, G.out⟩
set_option maxRecDepth 100000 in
set_option maxHeartbeats 4000000 in
theorem rset_nil (w : World) : Calls Try.prog 16 #[.slice none 0 0] w fun e w' => e = .returned (VR (4, 0, 0)) ∧ Below w.heap.size w w' := by
  have S := Aside0.mk (fun W => RefOne.rset_any 0 W (by decide) (by decide))
  go_enter Try.func16, Try.ntmps16
  have hb0 := Aside0.mk (MapKept.heap_alloc w (.cells #[.int .i64 0, .int .i64 0, .string E0] 23)).1
  go_wp2_with fail
  refine wp_loop_rounds 1 ?_
  rw [rounds_succ]
  go_wp2_with fail
  refine (S.out _).mono ?_
  rintro e w5 ⟨rfl, hb5⟩
  obtain ⟨c0, c1, c2, f0, f1, f2⟩ := cells3 (blk_below hb0.out hb5)
  have G5 := Aside0.mk (below_step (below_alloc (Below.refl _ _) _) hb5)
  clear hb5
  go_wp2_with fail
  refine bodyPost_ret (v := _) (by first | (simp [results, Try.results16, go_sem, *]; done) | (simp [results, Try.results16, go_sem, *]; rfl)) rfl ⟨rfl, ?_⟩
  exact ((G5.out.setCell (Nat.le_refl _) _).setCell (Nat.le_refl _) _).setCell (Nat.le_refl _) _
set_option maxRecDepth 100000 in
set_option maxHeartbeats 4000000 in
theorem walk_nil (w : World) : Calls Try.prog 4 #[.slice none 0 0] w fun e w' => e = .returned (.bool true) ∧ Below w.heap.size w w' := by
  have Wk := Aside0.mk wakes_any
  have I1 := Aside0.mk (fun b W => set_of b 0 0 [] W ⟨fun i x y h => by simp at h⟩ (Nat.le_refl _) (by decide) (fun p hp => by cases hp))
  have I2 := Aside0.mk rset_nil
  have SM := Aside0.mk (fun W => same_self 4 0 E0 W)
  go_enter Try.func4, Try.ntmps4
  go_wp2_with fail
  refine (I1.out _ _).mono ?_
  rintro e w2 ⟨rfl, hb2⟩
  have H : Fb w [] w2 := ⟨fun x hx => (by cases hx), below_step (below_alloc (Below.refl _ _) _) hb2⟩
  clear hb2
  have J := H.push 4 0 E0
  clear H
  go_upto_region 4 with (fail)
  refine wp_of_world (fun W => Fb w [(w2.heap.size, 4, 0, E0)] W) J ?_
  clear J I1
  generalize w2.heap.size = p3 at *
  rintro W4 H
  have HH := Aside0.mk H
  clear H
  go_wp2_with fail
  refine (I2.out _).mono ?_
  rintro e w3 ⟨rfl, hb3⟩
  have H := Fb.step hb3 HH.out
  clear hb3 HH I2
  have J := H.push 4 0 E0
  clear H
  go_upto_region 5 with (fail)
  refine wp_of_world (fun W => Fb w [(w3.heap.size, 4, 0, E0), (p3, 4, 0, E0)] W) J ?_
  clear J
  generalize w3.heap.size = p5 at *
  rintro W5 H
  obtain ⟨l00, l01, l02⟩ := H.get p3 4 0 E0 (by simp)
  obtain ⟨l10, l11, l12⟩ := H.get p5 4 0 E0 (by simp)
  have HH := Aside0.mk H
  clear H
  go_wp2_with fail
  refine (SM.out _).mono ?_
  rintro e w6 ⟨rfl, hb⟩
  have H := Aside0.mk (Fb.step hb HH.out)
  clear hb HH l00 l01 l02 l10 l11 l12
  go_wp2_with fail
  refine (Wk.out _).mono ?_
  rintro e w7 ⟨rfl, hb⟩
  have G := Aside0.mk (Fb.step hb H.out).2
  clear hb H
  go_wp2_with fail
  go_ret
  exact ⟨rfl, G.out⟩
/-- A row of pairs that came in. -/
def IsPairs (w : World) (A : Option Addr) (n cap : Nat) (ps : List (Int × Int)) : Prop :=
  (A = none ∧ n = 0 ∧ cap = 0) ∨ ∃ ad, A = some ad ∧ n = ps.length ∧ n ≤ cap ∧ PairsA w ad ps ∧
    ∀ p ∈ ps, (-9223372036854775808 ≤ p.1 ∧ p.1 ≤ 9223372036854775807) ∧ (-9223372036854775808 ≤ p.2 ∧ p.2 ≤ 9223372036854775807)
theorem walk (A : Option Addr) (n cap : Nat) (ps : List (Int × Int)) (w : World) (h : IsPairs w A n cap ps) :
    Calls Try.prog 4 #[.slice A n cap] w fun e w' => e = .returned (.bool true) ∧ Below w.heap.size w w' := by
  rcases h with ⟨rfl, rfl, rfl⟩ | ⟨ad, rfl, rfl, hc, P, hw⟩
  · exact walk_nil w
  · by_cases hm : ps.length ≤ 2000
    · exact walk_some ad cap ps w P hc hm hw
    · exact walk_big _ _ _ w (by omega)
end Go.Proofs.Ytjimcgmefpienaa.LawSets
