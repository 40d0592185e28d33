/- The law ConstsOne: both tell the same of one constant; walked. -/
import Derived.Test.YtjimcgmefpienaaLaw12
import Derived.Test.YtjimcgmefpienaaRefOne
namespace Go.Proofs.Ytjimcgmefpienaa.LawOne
open Go.RowKit Go.Maps Go.Proofs.Ytjimcgmefpienaa.Tab Go.Proofs.Ytjimcgmefpienaa.Plain Go.Proofs.Ytjimcgmefpienaa.Small Go.Proofs.Ytjimcgmefpienaa.Rels Go.Proofs.Ytjimcgmefpienaa.Two Go.Proofs.Ytjimcgmefpienaa.Wakes Go.Proofs.Ytjimcgmefpienaa.Good12 Go.Proofs.Ytjimcgmefpienaa.RefOne Go.Proofs.Ytjimcgmefpienaa.Law12 Go.Proofs.YtjimcgmefpienaaW.PrintWords Go.Proofs.YtjimcgmefpienaaW.PrintLast Go.Proofs.YtjimcgmefpienaaW.PrintMore
set_option linter.unusedVariables false
set_option linter.unusedSimpArgs false

theorem S3 {w W : World} {p q s : Nat} {a b c d e f : Int} {t u v : ByteArray} (h : Fb w [(p, a, b, t), (q, c, d, u), (s, e, f, v)] W) :
    Fb w [(p, a, b, t), (q, c, d, u), (s, e, f, v)] W ∧ W.cell? ⟨p, 0, none⟩ = some (.int .i64 a) ∧ W.cell? ⟨p, 1, none⟩ = some (.int .i64 b) ∧ W.cell? ⟨p, 2, none⟩ = some (.string t) ∧
      W.cell? ⟨q, 0, none⟩ = some (.int .i64 c) ∧ W.cell? ⟨q, 1, none⟩ = some (.int .i64 d) ∧ W.cell? ⟨q, 2, none⟩ = some (.string u) ∧
      W.cell? ⟨s, 0, none⟩ = some (.int .i64 e) ∧ W.cell? ⟨s, 1, none⟩ = some (.int .i64 f) ∧ W.cell? ⟨s, 2, none⟩ = some (.string v) := by
  obtain ⟨a0, a1, a2⟩ := h.get p a b t (by simp)
  obtain ⟨b0, b1, b2⟩ := h.get q c d u (by simp)
  obtain ⟨c0, c1, c2⟩ := h.get s e f v (by simp)
  exact ⟨h, a0, a1, a2, b0, b1, b2, c0, c1, c2⟩
set_option maxRecDepth 100000 in
set_option maxHeartbeats 8000000 in
theorem walk (op : ByteArray) (f n : Int) (t : ByteArray) (w : World) (hop : op.size ≤ 140737488351232) (f0 : -9223372036854775808 ≤ f) (f1 : f ≤ 9223372036854775807) (n0 : -9223372036854775808 ≤ n) (n1 : n ≤ 9223372036854775807) (hs : t.size ≤ 9223372036854775807) :
    Calls Try.prog 7 #[.string op, V f n t] w fun e w' => e = .returned (.bool true) ∧ Below w.heap.size w w' := by
  have Wk := Aside0.mk wakes_any
  obtain ⟨g, A, B, FA⟩ := good_both f n t n0 n1 hs
  obtain ⟨r, I1, I2⟩ := one_both op f n t g A B FA
  obtain ⟨r1, r2, r3, r4⟩ := r
  have A := Aside0.mk A
  have B := Aside0.mk B
  have I1 := Aside0.mk I1
  have I2 := Aside0.mk I2
  have SM := Aside0.mk (fun W => same_self r1 r2 r3 W)
  clear FA hop f0 f1 n0 n1 hs
  have LG := Aside0.mk (fun b W h => large1 f n t b W h)
  generalize decide (t.size > 5000) = lg at *
  go_enter Try.func7, Try.ntmps7
  have J := (Fb.nil w).push f n t
  go_upto_region 1 with (fail)
  refine wp_of_world (fun W => Fb w [(w.heap.size, f, n, t)] W) J ?_
  clear J
  rintro W1 H
  obtain ⟨l00, l01, l02⟩ := H.get w.heap.size f n t (by simp)
  have HH := Aside0.mk H
  clear H
  have hq := Aside0.mk (MapKept.heap_alloc W1 (.cells #[.int .i64 f, .int .i64 n, .string t] 23)).1
  go_wp2_with fail
  refine (LG.out _ _ hq.out).mono ?_
  rintro e v1 ⟨rfl, nd, rfl⟩
  have H := (HH.out.alloc (.cells #[.int .i64 f, .int .i64 n, .string t] 23)).drewN nd
  generalize (W1.alloc (.cells #[.int .i64 f, .int .i64 n, .string t] 23)).drewN nd = W2 at *
  clear HH hq l00 l01 l02
  cases lg
  · obtain ⟨l00, l01, l02⟩ := H.get w.heap.size f n t (by simp)
    have HH := Aside0.mk H
    clear H
    go_wp2_with fail
    refine (I1.out _).mono ?_
    rintro e v3 ⟨rfl, hb⟩
    have H := Fb.step hb HH.out
    clear hb HH l00 l01 l02
    have J := H.push r1 r2 r3
    clear H
    go_upto_region 4 with (fail)
    refine wp_of_world (fun W => Fb w [(v3.heap.size, r1, r2, r3), (w.heap.size, f, n, t)] W) J ?_
    clear J
    generalize v3.heap.size = p5 at *
    rintro W4 H
    obtain ⟨l00, l01, l02⟩ := H.get w.heap.size f n t (by simp)
    have HH := Aside0.mk H
    clear H
    go_wp2_with fail
    refine (I2.out _).mono ?_
    rintro e v4 ⟨rfl, hb⟩
    have H := Fb.step hb HH.out
    clear hb HH l00 l01 l02
    have J := H.push r1 r2 r3
    clear H
    go_upto_region 5 with (fail)
    refine wp_of_world (fun W => Fb w [(v4.heap.size, r1, r2, r3), (p5, r1, r2, r3), (w.heap.size, f, n, t)] W) J ?_
    clear J
    generalize v4.heap.size = p7 at *
    rintro W5 H
    have Hd := H.drew
    have he : (r4 == r4) = true := by simp
    have hg : (g == g) = true := by simp
    go_region_held3 (fun w' => Fb w [(p7, r1, r2, r3), (p5, r1, r2, r3), (w.heap.size, f, n, t)] w' ∧ w'.cell? ⟨p7, 0, none⟩ = some (.int .i64 r1) ∧ w'.cell? ⟨p7, 1, none⟩ = some (.int .i64 r2) ∧ w'.cell? ⟨p7, 2, none⟩ = some (.string r3) ∧
        w'.cell? ⟨p5, 0, none⟩ = some (.int .i64 r1) ∧ w'.cell? ⟨p5, 1, none⟩ = some (.int .i64 r2) ∧ w'.cell? ⟨p5, 2, none⟩ = some (.string r3) ∧
        w'.cell? ⟨w.heap.size, 0, none⟩ = some (.int .i64 f) ∧ w'.cell? ⟨w.heap.size, 1, none⟩ = some (.int .i64 n) ∧ w'.cell? ⟨w.heap.size, 2, none⟩ = some (.string t))
      (first | (exact S3 Hd) | (exact S3 H6) | (exact S3 H7) | (exact S3 H8) | (exact S3 H9))
      (first
      | (go_at_call 14; refine (SM.out _).mono ?_; rintro e w6 ⟨rfl, hb6⟩; have H6 := Fb.step hb6 Hd; clear hb6)
      | (go_at_call 20; refine (A.out _).mono ?_; rintro e w7 ⟨rfl, hb7⟩; have H7 := Fb.step hb7 (by first | exact H8 | exact H6); clear hb7)
      | (go_at_call 21; refine (B.out _).mono ?_; rintro e w8 ⟨rfl, hb8⟩; have H8 := Fb.step hb8 (by first | exact H7 | exact H6); clear hb8)
      | (go_at_call 11; refine (Wk.out _).mono ?_; rintro e w9 ⟨rfl, hb9⟩; have H9 := Fb.step hb9 (by first | exact H7 | exact H8); clear hb9))
    all_goals
      have G9 := Aside0.mk H9.2
      clear H H9 Hd H6 H7 H8
      go_wp2_with fail
      go_ret
      exact ⟨rfl, G9.out⟩
  · have HH := Aside0.mk H
    clear H
    go_wp2_with fail
    refine (Wk.out _).mono ?_
    rintro e v3 ⟨rfl, hb⟩
    have H := Aside0.mk (Fb.step hb HH.out)
    clear hb HH
    go_wp2_with fail
    go_ret
    exact ⟨rfl, H.out.2⟩
end Go.Proofs.Ytjimcgmefpienaa.LawOne
