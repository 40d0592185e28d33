/- The law ConstsTwo: both tell the same of two constants; walked. -/
import Derived.Test.YtjimcgmefpienaaLaw12
import Derived.Test.YtjimcgmefpienaaTwoBoth
namespace Go.Proofs.Ytjimcgmefpienaa.LawTwo
open Go.RowKit Go.Maps Go.Proofs.Ytjimcgmefpienaa.Tab Go.Proofs.Ytjimcgmefpienaa.Plain Go.Proofs.Ytjimcgmefpienaa.Small Go.Proofs.Ytjimcgmefpienaa.Rels Go.Proofs.Ytjimcgmefpienaa.Two Go.Proofs.Ytjimcgmefpienaa.Wakes Go.Proofs.Ytjimcgmefpienaa.TwoBoth Go.Proofs.Ytjimcgmefpienaa.Law12 Go.Proofs.YtjimcgmefpienaaW.PrintWords Go.Proofs.YtjimcgmefpienaaW.PrintLast Go.Proofs.YtjimcgmefpienaaW.PrintMore
set_option linter.unusedVariables false
set_option linter.unusedSimpArgs false

set_option maxRecDepth 100000 in
set_option maxHeartbeats 8000000 in
theorem walk (op : ByteArray) (fa na : Int) (ta : ByteArray) (fb nb : Int) (tb : ByteArray) (w : World) (hop : op.size ≤ 140737488351232)
    (fa0 : -9223372036854775808 ≤ fa) (fa9 : fa ≤ 9223372036854775807) (na0 : -9223372036854775808 ≤ na) (na9 : na ≤ 9223372036854775807) (hta : ta.size ≤ 9223372036854775807)
    (fb0 : -9223372036854775808 ≤ fb) (fb9 : fb ≤ 9223372036854775807) (nb0 : -9223372036854775808 ≤ nb) (nb9 : nb ≤ 9223372036854775807) (htb : tb.size ≤ 9223372036854775807) :
    Calls Try.prog 3 #[.string op, V fa na ta, V fb nb tb] w fun e w' => e = .returned (.bool true) ∧ Below w.heap.size w w' := by
  have Wk := Aside0.mk wakes_any
  obtain ⟨r, I1, I2⟩ := two_both op fa na fb nb ta tb (by omega) fa0 fa9 na0 na9 hta fb0 fb9 nb0 nb9 htb
  obtain ⟨r1, r2, r3⟩ := r
  have I1 := Aside0.mk I1
  have I2 := Aside0.mk I2
  have SM := Aside0.mk (fun W => same_self r1 r2 E0 W)
  clear hop fa0 fa9 na0 na9 hta fb0 fb9 nb0 nb9 htb
  have LG := Aside0.mk (fun b W h => large2 fa na ta fb nb tb b W h)
  generalize (decide (ta.size > 5000) || decide (tb.size > 5000)) = lg at *
  have he : (r3 == r3) = true := by simp
  go_enter Try.func3, Try.ntmps3
  have J := (Fb.nil w).push2 fa na ta fb nb tb
  go_upto_region 1 with (fail)
  refine wp_of_world (fun W => Fb w [(w.heap.size + 1, fb, nb, tb), (w.heap.size, fa, na, ta)] W) J ?_
  clear J
  rintro W1 H
  obtain ⟨l00, l01, l02⟩ := H.get w.heap.size fa na ta (by simp)
  obtain ⟨l10, l11, l12⟩ := H.get (w.heap.size + 1) fb nb tb (by simp)
  have HH := Aside0.mk H
  clear H
  have hq := Aside0.mk (MapKept.heap_alloc W1 (.cells #[.int .i64 fa, .int .i64 na, .string ta, .int .i64 fb, .int .i64 nb, .string tb] 23)).1
  go_wp2_with fail
  refine (LG.out _ _ hq.out).mono ?_
  rintro e v1 ⟨rfl, nd, rfl⟩
  have H := (HH.out.alloc (.cells #[.int .i64 fa, .int .i64 na, .string ta, .int .i64 fb, .int .i64 nb, .string tb] 23)).drewN nd
  generalize (W1.alloc (.cells #[.int .i64 fa, .int .i64 na, .string ta, .int .i64 fb, .int .i64 nb, .string tb] 23)).drewN nd = W2 at *
  clear HH hq l00 l01 l02 l10 l11 l12
  cases lg
  · obtain ⟨l00, l01, l02⟩ := H.get w.heap.size fa na ta (by simp)
    obtain ⟨l10, l11, l12⟩ := H.get (w.heap.size + 1) fb nb tb (by simp)
    have HH := Aside0.mk H
    clear H
    go_wp2_with fail
    refine (I1.out _).mono ?_
    rintro e v3 ⟨rfl, hb⟩
    have H := Fb.step hb HH.out
    clear hb HH l00 l01 l02 l10 l11 l12
    have J := H.push r1 r2 E0
    clear H
    go_upto_region 4 with (fail)
    refine wp_of_world (fun W => Fb w [(v3.heap.size, r1, r2, E0), (w.heap.size + 1, fb, nb, tb), (w.heap.size, fa, na, ta)] W) J ?_
    clear J
    generalize v3.heap.size = p7 at *
    rintro W4 H
    obtain ⟨l00, l01, l02⟩ := H.get w.heap.size fa na ta (by simp)
    obtain ⟨l10, l11, l12⟩ := H.get (w.heap.size + 1) fb nb tb (by simp)
    have HH := Aside0.mk H
    clear H
    go_wp2_with fail
    refine (I2.out _).mono ?_
    rintro e v4 ⟨rfl, hb⟩
    have H := Fb.step hb HH.out
    clear hb HH l00 l01 l02 l10 l11 l12
    have J := H.push r1 r2 E0
    clear H
    go_upto_region 5 with (fail)
    refine wp_of_world (fun W => Fb w [(v4.heap.size, r1, r2, E0), (p7, r1, r2, E0), (w.heap.size + 1, fb, nb, tb), (w.heap.size, fa, na, ta)] W) J ?_
    clear J
    generalize v4.heap.size = p9 at *
    rintro W5 H
    obtain ⟨l00, l01, l02⟩ := H.get p7 r1 r2 E0 (by simp)
    obtain ⟨l10, l11, l12⟩ := H.get p9 r1 r2 E0 (by simp)
    have HH := Aside0.mk H
    clear H
    go_wp2_with fail
    refine (SM.out _).mono ?_
    rintro e v5 ⟨rfl, hb⟩
    have H := Aside0.mk (Fb.step hb HH.out)
    clear hb HH l00 l01 l02 l10 l11 l12
    go_wp2_with fail
    refine (Wk.out _).mono ?_
    rintro e v6 ⟨rfl, hb⟩
    have G := Aside0.mk (Fb.step hb H.out).2
    clear hb H
    go_wp2_with fail
    go_ret
    exact ⟨rfl, G.out⟩
  · have HH := Aside0.mk H
    clear H
    go_wp2_with fail
    refine (Wk.out _).mono ?_
    rintro e v3 ⟨rfl, hb⟩
    have H := Aside0.mk (Fb.step hb HH.out)
    clear hb HH
    go_wp2_with fail
    go_ret
    exact ⟨rfl, H.out.2⟩
end Go.Proofs.Ytjimcgmefpienaa.LawTwo
