/- The law ConstsCalls: both tell the same of any constants; walked. -/
import Derived.Test.YtjimcgmefpienaaLaw12
import Derived.Test.YtjimcgmefpienaaCallsPure
import Derived.Laws.AppendOwn
import Derived.Deep.AppendLies
import Derived.StillTailTactics
namespace Go.Proofs.Ytjimcgmefpienaa.LawCalls
open Go.RowKit Go.Maps Go.Proofs.Ytjimcgmefpienaa.Tab Go.Proofs.Ytjimcgmefpienaa.Plain Go.Proofs.Ytjimcgmefpienaa.Small Go.Proofs.Ytjimcgmefpienaa.Rels Go.Proofs.Ytjimcgmefpienaa.Two Go.Proofs.Ytjimcgmefpienaa.Wakes Go.Proofs.Ytjimcgmefpienaa.Law12 Go.Proofs.Ytjimcgmefpienaa.CallsPure Go.Proofs.Ytjimcgmefpienaa.PConstsCalls Go.Proofs.YtjimcgmefpienaaW.PrintWords Go.Proofs.YtjimcgmefpienaaW.PrintLast Go.Proofs.YtjimcgmefpienaaW.PrintMore
set_option linter.unusedVariables false
set_option linter.unusedSimpArgs false

theorem large_some (l : List S23) (hl : l.length ≤ 9223372036854775807) : ∀ d i : Nat, i + d = l.length → ∃ b, spinetlaw12_large.l0 (d + 1) l i = some b := by
  intro d
  induction d with
  | zero =>
    intro i hi
    refine ⟨false, ?_⟩
    simp only [spinetlaw12_large.l0]
    rw [if_neg (by omega)]
  | succ d ih =>
    intro i hi
    obtain ⟨b, hb⟩ := ih (i + 1) (by omega)
    have e : wrap64 ((i : Int) + 1) = ((i + 1 : Nat) : Int) := by rw [w64 (by omega) (by omega)]; omega
    by_cases c : (((rd_T23 l i).f2).size : Int) > 5000
    · refine ⟨true, ?_⟩
      simp only [spinetlaw12_large.l0]
      rw [if_pos (by omega), if_pos (by omega), if_pos c]
    · refine ⟨b, ?_⟩
      rw [← hb, ← e]
      rw [spinetlaw12_large.l0]
      rw [if_pos (by omega), if_pos (by omega), if_neg c]
theorem reps_one {w : World} {l : List S23} {inner : List Value} (hr : Reps (k23.K w) k23.sz l inner) : ∀ u ∈ inner, u.oneCell' = true := by
  rw [sz23] at hr
  intro u hu
  obtain ⟨t, ht, rfl⟩ := List.getElem_of_mem hu
  have hj : t / 3 < l.length := by have := hr.1; omega
  have h := hr.2 (t / 3) _ (List.getElem?_eq_getElem hj)
  refine k23.K_one h (inner[t]) (List.mem_of_getElem? (i := t % 3) ?_)
  rw [List.getElem?_take_of_lt (Nat.mod_lt _ (by decide)), List.getElem?_drop, show t / 3 * 3 + t % 3 = t by omega]
  exact List.getElem?_eq_getElem ht
set_option maxRecDepth 100000 in
set_option maxHeartbeats 4000000 in
theorem walk_many (name : ByteArray) (A : Option Addr) (n cap : Nat) (w : World) (hn : n > 100) :
    Calls Try.prog 9 #[.string name, .slice A n cap] w fun e w' => e = .returned (.bool true) ∧ Below w.heap.size w w' := by
  have Wk := Aside0.mk wakes_any
  have d : decide (100 < (n : Int)) = true := decide_eq_true (by omega)
  have d2 : decide (100 < n) = true := decide_eq_true (by omega)
  clear hn
  go_enter Try.func9, Try.ntmps9
  go_wp2_with fail
  refine (Wk.out _).mono ?_
  rintro e w1 ⟨rfl, hb1⟩
  have G := Aside0.mk hb1
  clear hb1
  go_wp2_with fail
  go_ret
  exact ⟨rfl, G.out⟩
set_option maxRecDepth 100000 in
set_option maxHeartbeats 4000000 in
theorem walk_large (name : ByteArray) (A : Option Addr) (cap : Nat) (l : List S23) (w : World) (hC : Kd.C k23 w A l.length l) (hcap : l.length ≤ cap) (hn : l.length ≤ 100) (k : Nat) (hb : spinetlaw12_large.f k l = some true) :
    Calls Try.prog 9 #[.string name, .slice A l.length cap] w fun e w' => e = .returned (.bool true) ∧ Below w.heap.size w w' := by
  have Wk := Aside0.mk wakes_any
  have L := Aside0.mk (spinetlaw12_large.calls k A cap l true w hC hcap hb)
  have d : decide (100 < (l.length : Int)) = false := decide_eq_false (by omega)
  have d2 : decide (100 < l.length) = false := decide_eq_false (by omega)
  clear hn hC hcap hb
  go_enter Try.func9, Try.ntmps9
  go_wp2_with fail
  refine L.out.mono ?_
  rintro e w1 ⟨rfl, nd, rfl⟩
  go_wp2_with fail
  refine (Wk.out _).mono ?_
  rintro e w1 ⟨rfl, hb1⟩
  have G := Aside0.mk (below_step (pw_below_drewN (Below.refl _ _) _) hb1)
  clear hb1
  go_wp2_with fail
  go_ret
  exact ⟨rfl, G.out⟩
theorem infoVal : (Try.prog.info? 23).map (fun i => (i.zero, i.size, i.bytes)) = some (some (.agg #[.int .i64 0, .int .i64 0, .string ByteArray.empty]), 3, 32) := by kernel_rfl
set_option maxRecDepth 100000 in
set_option maxHeartbeats 8000000 in
theorem walk_ok (name : ByteArray) (A : Option Addr) (cap : Nat) (l : List S23) (w : World) (hC : Kd.C k23 w A l.length l) (hcap : l.length ≤ cap) (hA : A = none → l = [] ∧ cap = 0) (hn : l.length ≤ 100) (k : Nat) (hb : spinetlaw12_large.f k l = some false)
    (kc : Nat) (r1 r2 : Int) (r3 : ByteArray) (r4 : Int) (h1 : consts_Call.f kc name l = some (r1, r2, r3, r4)) (h2 : spinetref12_Call.f kc name l = some (r1, r2, r3, r4)) :
    Calls Try.prog 9 #[.string name, .slice A l.length cap] w fun e w' => e = .returned (.bool true) ∧ Below w.heap.size w w' := by
  have Wk := Aside0.mk wakes_any
  have L := Aside0.mk (spinetlaw12_large.calls k A cap l false w hC hcap hb)
  have I1 := Aside0.mk (fun B c W (hr : Kd.C k23 W B l.length l) (hc : l.length ≤ c) => consts_Call.calls kc name B c l r1 r2 r3 r4 W hr hc h1)
  have I2 := Aside0.mk (fun W (hr : Kd.C k23 W A l.length l) => spinetref12_Call.calls kc name A cap l r1 r2 r3 r4 W hr hcap h2)
  have SM := Aside0.mk (fun f n t W => same_self f n t W)
  have d : decide (100 < (l.length : Int)) = false := decide_eq_false (by omega)
  have d2 : decide (100 < l.length) = false := decide_eq_false (by omega)
  have he : (r4 == r4) = true := by simp
  have hC := Aside0.mk hC
  have hn := Aside0.mk hn
  have hA := Aside0.mk hA
  clear hb h1 h2
  obtain ⟨i0, hi, hz0, hz1, hz2⟩ := info_parts infoVal
  go_enter Try.func9, Try.ntmps9
  go_wp2_with fail
  refine L.out.mono ?_
  rintro e w1 ⟨rfl, nd, rfl⟩
  have hB1 := Aside0.mk (pw_below_drewN (Below.refl w.heap.size w) nd)
  have hC1 := Aside0.mk (Kd.C_drewN hC.out nd)
  generalize w.drewN nd = w1 at *
  go_upto_region 3 with (fail)
  go_cut [5] (fun v5 wc => ∃ B c, v5 = .slice B l.length c ∧ l.length ≤ c ∧ Aside0 (Kd.C k23 wc B l.length l) ∧ Aside0 (Kd.C k23 wc A l.length l) ∧ Aside0 (Below w.heap.size w wc))
  case first =>
    cases A with
    | none =>
      obtain ⟨rfl, rfl⟩ := hA.out rfl
      have hB2 := Aside0.mk (below_alloc hB1.out (.cells #[] 23))
      have hz : ∀ (W : World) (B : Option Addr), Aside0 (Kd.C k23 W B ([] : List S23).length []) := fun W B => ⟨rfl, by simp, fun h => absurd h (by simp)⟩
      have hz := Aside0.mk hz
      go_wp2_with fail
      go_meet
      exact ⟨_, _, rfl, Nat.le_refl _, hz.out _ _, hz.out _ _, hB2⟩
    | some ad =>
      obtain ⟨inner, hr, hcell⟩ := ReadsRow.inner_ hC1.out
      have hr := Aside0.mk hr
      have hcell := Aside0.mk hcell
      have H1 := Aside0.mk (World.ownsRow_made (base := w1.heap.size) (e := 23) (size := 3) w1 #[] 0 (Nat.le_refl _) (by decide) rfl)
      go_wp2_with (at_builtin; refine wpList_append_own _ rfl _ _ 49 rfl w1.heap.size 23 i0 (.agg #[.int .i64 0, .int .i64 0, .string ByteArray.empty]) 3 32 Try.underlying49 hi hz0 hz1 hz2 rfl (by decide) _ _ _ rfl H1.out ad l.length cap inner rfl ?c0 ?c1 ?c2 ?c3 ?c4 ?c5 ?_)
      case c0 => exact hr.out.1
      case c1 => exact fun j u hu => pw_cell_below (below_alloc (Below.refl _ _) _) (hcell.out j u hu)
      case c2 => exact reps_one hr.out
      case c3 => have := hn.out; unfold maxLen; omega
      case c4 => have := hn.out; omega
      case c5 => simp
      intro v' w2 hown' hgrow hnil
      have hB2 : Below w1.heap.size w1 w2 := (below_alloc (Below.refl _ _) _).grown hgrow (by simp) (fun k hk => by cases hk; exact Nat.le_refl _)
      have hO : OwnRow (k23.K w2) 23 k23.sz w2 w1.heap.size v' l := ⟨inner, by rw [sz23]; simpa using hown', hr.out.imp_ (fun p c h => k23.K_below hB2 h)⟩
      obtain ⟨B, c, rfl, hle, hR⟩ := hO.reads
      have hCB : Aside0 (Kd.C k23 w2 B l.length l) := ⟨hR⟩
      have hCA : Aside0 (Kd.C k23 w2 (some ad) l.length l) := ⟨Kd.C_below hC1.out hB2⟩
      have hBB : Aside0 (Below w.heap.size w w2) := ⟨below_step hB1.out hB2⟩
      have hle := Aside0.mk hle
      clear hown' hgrow hnil hO hR hB2 hi hz0 hz1 hz2
      go_wp2_with fail
      go_meet
      exact ⟨_, _, rfl, hle.out, hCB, hCA, hBB⟩
  case rest =>
  obtain ⟨B, c, rfl, hlc, hCB, hCA, hBc⟩ := hcut
  have hlc := Aside0.mk hlc
  clear hB1 hC1 hC L
  go_wp2_with fail
  refine (I1.out B c _ hCB.out hlc.out).mono ?_
  rintro e v3 ⟨rfl, hb⟩
  have H : Fb w [] v3 := ⟨fun x hx => (by cases hx), below_step hBc.out hb⟩
  have hCA := Aside0.mk (Kd.C_below hCA.out hb)
  have hCB := Aside0.mk (Kd.C_below hCB.out hb)
  clear hb hBc
  have J := H.push r1 r2 r3
  have K1 := Aside0.mk (Kd.C_alloc hCA.out (.cells #[.int .i64 r1, .int .i64 r2, .string r3] 23))
  have K2 := Aside0.mk (Kd.C_alloc hCB.out (.cells #[.int .i64 r1, .int .i64 r2, .string r3] 23))
  clear H
  go_upto_region 5 with (fail)
  refine wp_of_world (fun W => Fb w [(v3.heap.size, r1, r2, r3)] W ∧ Kd.C k23 W A l.length l ∧ Kd.C k23 W B l.length l) ⟨J, K1.out, K2.out⟩ ?_
  clear J K1 K2 hCA hCB
  generalize v3.heap.size = p6 at *
  rintro W5 ⟨H, hCA, hCB⟩
  have HH := Aside0.mk H
  have hCA := Aside0.mk hCA
  have hCB := Aside0.mk hCB
  clear H
  go_wp2_with fail
  refine (I2.out _ hCA.out).mono ?_
  rintro e v4 ⟨rfl, hb⟩
  have H := Fb.step hb HH.out
  have hCA := Aside0.mk (Kd.C_below hCA.out hb)
  have hCB := Aside0.mk (Kd.C_below hCB.out hb)
  clear hb HH
  have J := H.push r1 r2 r3
  have K1 := Aside0.mk (Kd.C_alloc hCA.out (.cells #[.int .i64 r1, .int .i64 r2, .string r3] 23))
  have K2 := Aside0.mk (Kd.C_alloc hCB.out (.cells #[.int .i64 r1, .int .i64 r2, .string r3] 23))
  clear H
  go_upto_region 6 with (fail)
  refine wp_of_world (fun W => Fb w [(v4.heap.size, r1, r2, r3), (p6, r1, r2, r3)] W ∧ Kd.C k23 W A l.length l ∧ Kd.C k23 W B l.length l) ⟨J, K1.out, K2.out⟩ ?_
  clear J K1 K2 hCA hCB
  generalize v4.heap.size = p8 at *
  rintro W6 ⟨H, hCA, hCB⟩
  have HH := Aside0.mk H
  have hCA := Aside0.mk hCA
  have hCB := Aside0.mk hCB
  clear H I1 I2
  go_wp2_with fail
  go_loopg [10] (l.length + 1) (fun kq v10 wr => ∃ i : Nat, v10 = .int .i64 i ∧ i + kq = l.length + 1 ∧ 0 < kq ∧ Aside0 (Fb w [(p8, r1, r2, r3), (p6, r1, r2, r3)] wr) ∧ Aside0 (Kd.C k23 wr A l.length l) ∧ Aside0 (Kd.C k23 wr B l.length l))
  case atStart => exact ⟨0, rfl, by omega, by omega, HH, hCA, hCB⟩
  case round =>
    clear HH hCA hCB
    obtain ⟨i, rfl, hik, hk0, HH, hCA, hCB⟩ := hrel
    by_cases hi : i < l.length
    · have d3 : decide ((i : Int) < (l.length : Int)) = true := decide_eq_true (by omega)
      have p1 : (0 : Int) ≤ (i : Int) := by omega
      have q1 : (i : Int) < (l.length : Int) := by omega
      obtain ⟨ad1, e1, a0, a1, a2⟩ := at_T23 hCA.out i p1 q1
      obtain ⟨ad2, e2, b0, b1, b2⟩ := at_T23 hCB.out i p1 q1
      cases e1
      cases e2
      simp only [Int.toNat_natCast] at a0 a1 a2 b0 b1 b2
      generalize rd_T23 l i = x at *
      obtain ⟨x0, x1, x2⟩ := x
      replace p1 := eq_true p1
      replace q1 := eq_true q1
      have hew : Aside0 (wrap64 ((i : Int) + 1) = ((i + 1 : Nat) : Int)) := ⟨by have := hn.out; rw [w64 (by omega) (by omega)]; omega⟩
      go_upto_region 9 with (fail)
      go_still_tail 8, (by kernel_rfl)
      change wpList _ _ _ _ _ wr.drew
      have HH := Aside0.mk HH.out.drew
      have hCA := Aside0.mk (Kd.C_drew hCA.out)
      have hCB := Aside0.mk (Kd.C_drew hCB.out)
      generalize wr.drew = w2 at *
      clear a0 a1 a2 b0 b1 b2
      go_wp2_with fail
      refine (SM.out x0 x1 x2 _).mono ?_
      rintro e v5 ⟨rfl, hb⟩
      have HH := Aside0.mk (Fb.step hb HH.out)
      have hCA := Aside0.mk (Kd.C_below hCA.out hb)
      have hCB := Aside0.mk (Kd.C_below hCB.out hb)
      clear hb
      go_wp2_with fail
      go_roundg (gk - 1)
      case measure => omega
      case rel => exact ⟨i + 1, by first | rfl | (rw [hew.out]), by omega, by omega, HH, hCA, hCB⟩
    · obtain rfl : i = l.length := by omega
      have d3 : decide ((l.length : Int) < (l.length : Int)) = false := decide_eq_false (by omega)
      obtain ⟨l00, l01, l02⟩ := HH.out.get p6 r1 r2 r3 (by simp)
      obtain ⟨l10, l11, l12⟩ := HH.out.get p8 r1 r2 r3 (by simp)
      go_wp2_with fail
      refine (SM.out r1 r2 r3 _).mono ?_
      rintro e v6 ⟨rfl, hb⟩
      have H := Aside0.mk (Fb.step hb HH.out)
      clear hb HH l00 l01 l02 l10 l11 l12 hCA hCB
      go_wp2_with fail
      refine (Wk.out _).mono ?_
      rintro e v7 ⟨rfl, hb⟩
      have G := Aside0.mk (Fb.step hb H.out).2
      clear hb H
      go_wp2_with fail
      go_ret
      exact ⟨rfl, G.out⟩
/-- A row of values that came in. -/
def IsVals (w : World) (A : Option Addr) (n cap : Nat) (l : List S23) : Prop :=
  (A = none ∧ n = 0 ∧ cap = 0) ∨ ∃ ad, A = some ad ∧ n = l.length ∧ n ≤ cap ∧ Kd.C k23 w A l.length l ∧
    ∀ e ∈ l, (-9223372036854775808 ≤ e.f1 ∧ e.f1 ≤ 9223372036854775807) ∧ e.f2.size ≤ 9223372036854775807
theorem walk_list (name : ByteArray) (A : Option Addr) (cap : Nat) (l : List S23) (w : World) (hC : Kd.C k23 w A l.length l) (hcap : l.length ≤ cap) (hA : A = none → l = [] ∧ cap = 0)
    (he : ∀ e ∈ l, (-9223372036854775808 ≤ e.f1 ∧ e.f1 ≤ 9223372036854775807) ∧ e.f2.size ≤ 9223372036854775807) :
    Calls Try.prog 9 #[.string name, .slice A l.length cap] w fun e w' => e = .returned (.bool true) ∧ Below w.heap.size w w' := by
  by_cases hn : l.length ≤ 100
  · obtain ⟨b, hb⟩ := large_some l (by omega) l.length 0 (by omega)
    have hb' : spinetlaw12_large.f (l.length + 1) l = some b := hb
    cases b
    · obtain ⟨k, ⟨r1, r2, r3, r4⟩, h1, h2⟩ := calls_pure name l hn he
      exact walk_ok name A cap l w hC hcap hA hn _ hb' k r1 r2 r3 r4 h1 h2
    · exact walk_large name A cap l w hC hcap hn _ hb'
  · exact walk_many name A _ cap w (by omega)
theorem walk (name : ByteArray) (A : Option Addr) (n cap : Nat) (l : List S23) (w : World) (h : IsVals w A n cap l) :
    Calls Try.prog 9 #[.string name, .slice A n cap] w fun e w' => e = .returned (.bool true) ∧ Below w.heap.size w w' := by
  rcases h with ⟨rfl, rfl, rfl⟩ | ⟨ad, rfl, rfl, hc, P, hw⟩
  · exact walk_list name none 0 [] w ⟨rfl, by simp, fun h => absurd h (by simp)⟩ (Nat.le_refl _) (fun _ => ⟨rfl, rfl⟩) (fun e he => by cases he)
  · exact walk_list name (some ad) cap l w P hc (fun h => by cases h) hw
end Go.Proofs.Ytjimcgmefpienaa.LawCalls
