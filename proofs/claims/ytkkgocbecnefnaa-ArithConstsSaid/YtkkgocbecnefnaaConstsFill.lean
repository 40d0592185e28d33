/- The table of consts.Two is filled: the numbers' and the sets' operations. -/
import Derived.Test.YtkkgocbecnefnaaConstsSmall
import Derived.Outline
namespace Go.Proofs.Ytkkgocbecnefnaa.Fill
open Go.RowKit Go.Maps Go.Proofs.Ytkkgocbecnefnaa.Tab Go.Proofs.Ytkkgocbecnefnaa.Plain Go.Proofs.Ytkkgocbecnefnaa.Small Go.Proofs.YtkkgocbecnefnaaW.PrintWords Go.Proofs.YtkkgocbecnefnaaW.PrintLast Go.Proofs.YtkkgocbecnefnaaW.PrintMore
set_option linter.unusedVariables false
set_option linter.unusedSimpArgs false

theorem cell1 {w : World} {a : Addr} {v : Value} (h : w.cell? a = some v) (x : Obj) : (w.alloc x).cell? a = some v :=
  pw_cell_below ((Below.refl _ _).alloc (Nat.le_refl _) _) h
theorem cell_new (w : World) (x : Value) (t : TypeId) : (w.alloc (.cells #[x] t)).cell? ⟨w.heap.size, 0, none⟩ = some x :=
  (blk_cell (MapKept.heap_alloc w (.cells #[x] t)).1 0).trans rfl

set_option maxRecDepth 100000 in
set_option maxHeartbeats 2000000 in
/-- An operation of numbers is put. -/
theorem put_int (s : ByteArray) (h : Nat) (b g n : Nat) (st : St) (w : World) (T : Tab w g n st) (hn : n < 100) (hs : s.size ≤ maxLen) (hc : w.cell? ⟨b, 0, none⟩ = some (.map (some g))) (hbg : b ≠ g) :
    Calls Try.prog 73 #[.string s, .func (.func h) #[] #[], .pointer (some ⟨b, 0, none⟩)] w fun e w' => e = .returned (.tuple #[]) ∧ Tab w' g (n + 1) (upd st 1 1 s.data.toList (74, some h)) ∧ w.grownBy w' (some g) := by
  have T1 : ∀ x, Tab (w.alloc x) g n st := fun x => T.below ((Below.refl _ _).alloc (Nat.le_refl _) _)
  have hlt := T.lt
  have hne : w.heap.size ≠ g := by omega
  have hc1 := cell1 hc
  have hcn := cell_new w (.func (.func h) #[] #[])
  clear hc
  go_enter Try.func73, Try.ntmps73
  go_wp2_with (refine put_tab _ rfl _ _ _ rfl g n st (T1 _) (by unfold maxLen; omega) rfl 1 1 s (74, some h) _ rfl rfl (by decide) (by decide) hs ⟨rfl, _, hne, rfl, hcn _⟩ ?_; intro w1 T2 hg1)
  go_end0
  exact ⟨rfl, T2, (World.grownBy_alloc w _ (some g)).trans hg1⟩
set_option maxRecDepth 100000 in
set_option maxHeartbeats 2000000 in
/-- An operation of sets is put. -/
theorem put_set (s : ByteArray) (h : Nat) (b g n : Nat) (st : St) (w : World) (T : Tab w g n st) (hn : n < 100) (hs : s.size ≤ maxLen) (hc : w.cell? ⟨b, 0, none⟩ = some (.map (some g))) (hbg : b ≠ g) :
    Calls Try.prog 82 #[.string s, .func (.func h) #[] #[], .pointer (some ⟨b, 0, none⟩)] w fun e w' => e = .returned (.tuple #[]) ∧ Tab w' g (n + 1) (upd st 4 4 s.data.toList (83, some h)) ∧ w.grownBy w' (some g) := by
  have T1 : ∀ x, Tab (w.alloc x) g n st := fun x => T.below ((Below.refl _ _).alloc (Nat.le_refl _) _)
  have hlt := T.lt
  have hne : w.heap.size ≠ g := by omega
  have hc1 := cell1 hc
  have hcn := cell_new w (.func (.func h) #[] #[])
  clear hc
  go_enter Try.func82, Try.ntmps82
  go_wp2_with (refine put_tab _ rfl _ _ _ rfl g n st (T1 _) (by unfold maxLen; omega) rfl 4 4 s (83, some h) _ rfl rfl (by decide) (by decide) hs ⟨rfl, _, hne, rfl, hcn _⟩ ?_; intro w1 T2 hg1)
  go_end0
  exact ⟨rfl, T2, (World.grownBy_alloc w _ (some g)).trans hg1⟩

theorem cell_grown {W w1 : World} {g : Nat} (hg : W.grownBy w1 (some g)) {a : Addr} {v : Value} (h : W.cell? a = some v) (hne : a.block ≠ g) : w1.cell? a = some v := by
  have := hg.block a.block (World.block_lt_of_cell? W a h) (fun e => hne (Option.some.inj e))
  simpa [World.cell?, this] using h
abbrev st1 (st : St) : St := upd (upd (upd (upd (upd st 1 1 (ByteArray.mk #[43]).data.toList (74, some 75)) 1 1 (ByteArray.mk #[45]).data.toList (74, some 77)) 1 1 (ByteArray.mk #[42]).data.toList (74, some 78))
  1 1 (ByteArray.mk #[68, 73, 86]).data.toList (74, some 79)) 1 1 (ByteArray.mk #[77, 79, 68]).data.toList (74, some 81)
set_option maxRecDepth 100000 in
set_option maxHeartbeats 4000000 in
theorem ints_any (g n : Nat) (st : St) (w : World) (T : Tab w g n st) (hn : n < 50) :
    Calls Try.prog 55 #[.map (some g)] w fun e w' => e = .returned (.tuple #[]) ∧ Tab w' g (n + 5) (st1 st) ∧ w.grownBy w' (some g) := by
  have hlt := T.lt
  have T0 : ∀ x, Tab (w.alloc x) g n st := fun x => T.below ((Below.refl _ _).alloc (Nat.le_refl _) _)
  have hne : w.heap.size ≠ g := by omega
  have hcn := cell_new w (.map (some g)) 70
  go_enter Try.func55, Try.ntmps55
  go_wp2_with fail
  refine (put_int _ _ _ g n st _ (T0 _) (by omega) (by unfold maxLen; decide) hcn hne).mono ?_
  rintro e w1 ⟨rfl, T1, h1⟩
  have c1 := cell_grown h1 hcn hne
  have g1 := (World.grownBy_alloc w _ (some g)).trans h1
  clear h1 hcn
  go_wp2_with fail
  refine (put_int _ _ _ g _ _ _ T1 (by omega) (by unfold maxLen; decide) c1 hne).mono ?_
  rintro e w2 ⟨rfl, T2, h2⟩
  have c2 := cell_grown h2 c1 hne
  have g2 := g1.trans h2
  clear h2 c1 g1
  go_wp2_with fail
  refine (put_int _ _ _ g _ _ _ T2 (by omega) (by unfold maxLen; decide) c2 hne).mono ?_
  rintro e w3 ⟨rfl, T3, h3⟩
  have c3 := cell_grown h3 c2 hne
  have g3 := g2.trans h3
  clear h3 c2 g2
  go_wp2_with fail
  refine (put_int _ _ _ g _ _ _ T3 (by omega) (by unfold maxLen; decide) c3 hne).mono ?_
  rintro e w4 ⟨rfl, T4, h4⟩
  have c4 := cell_grown h4 c3 hne
  have g4 := g3.trans h4
  clear h4 c3 g3
  go_wp2_with fail
  refine (put_int _ _ _ g _ _ _ T4 (by omega) (by unfold maxLen; decide) c4 hne).mono ?_
  rintro e w5 ⟨rfl, T5, h5⟩
  have g5 := g4.trans h5
  clear h5 g4
  go_wp2_with fail
  go_end0
  exact ⟨rfl, T5, g5⟩
abbrev st2 (st : St) : St := upd (upd (upd (upd (upd st 4 4 (ByteArray.mk #[43]).data.toList (83, some 85)) 4 4 (ByteArray.mk #[45]).data.toList (83, some 86)) 4 4 (ByteArray.mk #[42]).data.toList (83, some 87))
  4 4 (ByteArray.mk #[47]).data.toList (83, some 88)) 1 4 (ByteArray.mk #[73, 78]).data.toList (89, none)
set_option maxRecDepth 100000 in
set_option maxHeartbeats 4000000 in
theorem sets_any (g n : Nat) (st : St) (w : World) (T : Tab w g n st) (hn : n < 50) :
    Calls Try.prog 56 #[.map (some g)] w fun e w' => e = .returned (.tuple #[]) ∧ Tab w' g (n + 5) (st2 st) ∧ w.grownBy w' (some g) := by
  have hlt := T.lt
  have T0 : ∀ x, Tab (w.alloc x) g n st := fun x => T.below ((Below.refl _ _).alloc (Nat.le_refl _) _)
  have hne : w.heap.size ≠ g := by omega
  have hcn := cell_new w (.map (some g)) 70
  go_enter Try.func56, Try.ntmps56
  go_wp2_with fail
  refine (put_set _ _ _ g n st _ (T0 _) (by omega) (by unfold maxLen; decide) hcn hne).mono ?_
  rintro e w1 ⟨rfl, T1, h1⟩
  have c1 := cell_grown h1 hcn hne
  have g1 := (World.grownBy_alloc w _ (some g)).trans h1
  clear h1 hcn
  go_wp2_with fail
  refine (put_set _ _ _ g _ _ _ T1 (by omega) (by unfold maxLen; decide) c1 hne).mono ?_
  rintro e w2 ⟨rfl, T2, h2⟩
  have c2 := cell_grown h2 c1 hne
  have g2 := g1.trans h2
  clear h2 c1 g1
  go_wp2_with fail
  refine (put_set _ _ _ g _ _ _ T2 (by omega) (by unfold maxLen; decide) c2 hne).mono ?_
  rintro e w3 ⟨rfl, T3, h3⟩
  have c3 := cell_grown h3 c2 hne
  have g3 := g2.trans h3
  clear h3 c2 g2
  go_wp2_with fail
  refine (put_set _ _ _ g _ _ _ T3 (by omega) (by unfold maxLen; decide) c3 hne).mono ?_
  rintro e w4 ⟨rfl, T4, h4⟩
  have c4 := cell_grown h4 c3 hne
  have g4 := g3.trans h4
  clear h4 c3 g3
  go_wp2_with (refine put_tab _ rfl _ _ _ rfl g _ _ T4 (by unfold maxLen; omega) rfl 1 4 (ByteArray.mk #[73, 78]) (89, none) _ rfl rfl (by decide) (by decide) (by unfold maxLen; decide) ⟨rfl, rfl⟩ ?_; intro w5 T5 h5)
  go_end0
  exact ⟨rfl, T5, g4.trans h5⟩
end Go.Proofs.Ytkkgocbecnefnaa.Fill
