/- What package arith's Int tells, walked. -/
import Derived.Test.YtkkgocbecnefnaaChecked
import Derived.WalkKit
import Derived.RegionTactic
import Derived.ChangeAlike
import Derived.Deep.RegionWith
import Derived.Deep.QuietTactic
import Derived.BigQuiet
import Derived.Below
import Derived.Outline
import Derived.Carry
import Derived.Deep.DeepCutAuto
import Derived.Deep.CutBlock
import Derived.StringKeys
import Derived.Lib.Strings
import Derived.Test.YtkkgocbecnefnaaMapFn
namespace Go.Proofs.Ytkkgocbecnefnaa.Int12
open Go.RowKit
set_option linter.unusedVariables false
set_option linter.unusedSimpArgs false

theorem ret_int {k : IntKind} {a b : Int} (h : a = b) : Ending.returned (.int k a) = .returned (.int k b) := by rw [h]
theorem rw_wrap (n : Int) : wrap64 (wrap32 (n % 4294967296)) = wrap32 n := by unfold wrap64 wrap32; omega
theorem round_any (n : Int) (w : World) : Calls Try.prog 31 #[.int .i64 n] w fun e w' => e = .returned (.int .i64 (wrap32 n)) ∧ w = w' := by
  go_enter Try.func31, Try.ntmps31
  go_wp2
  go_ret
  exact ⟨ret_int (by first | rfl | exact rw_wrap n), rfl⟩

theorem rest_of (a b : Int) (b0 : 0 < b) (b1 : b < 2147483648) : (wrap64 (a.tmod b + b)).tmod b = a % b := by
  have h1 := Int.tmod_lt_of_pos a b0
  have h2 := Int.lt_tmod_of_pos a b0
  have e : wrap64 (a.tmod b + b) = a.tmod b + b := by unfold wrap64; omega
  rw [e, Int.tmod_eq_emod_of_nonneg (by omega), Int.add_emod_right]
  conv => rhs; rw [← Int.mul_tdiv_add_tmod a b, Int.add_comm, Int.add_mul_emod_self_left]

theorem rest_any (a b : Int) (w : World) (b0 : 0 < b) (b1 : b < 2147483648) :
    Calls Try.prog 36 #[.int .i64 a, .int .i64 b] w fun e w' => e = .returned (.int .i64 (a % b)) ∧ w = w' := by
  have hb : b ≠ 0 := by omega
  have hz : (b == 0) = false := beq_eq_false_iff_ne.2 hb
  have hr := rest_of a b b0 b1
  go_enter Try.func36, Try.ntmps36
  go_wp2
  go_ret
  exact ⟨ret_int (by first | rfl | exact hr), rfl⟩

section
variable (a b : Int) (g g' : Nat) (w : World) (ca : w.cell? ⟨g, 0, none⟩ = some (.int .i64 a)) (cb : w.cell? ⟨g', 0, none⟩ = some (.int .i64 b))
include ca cb
theorem add_any : Calls Try.prog 32 #[.pointer (some ⟨g, 0, none⟩), .pointer (some ⟨g', 0, none⟩)] w fun e w' => e = .returned (.int .i64 (wrap64 (a + b))) ∧ w = w' := by
  go_enter Try.func32, Try.ntmps32
  go_wp2
  go_ret
  exact ⟨rfl, rfl⟩
theorem sub_any : Calls Try.prog 33 #[.pointer (some ⟨g, 0, none⟩), .pointer (some ⟨g', 0, none⟩)] w fun e w' => e = .returned (.int .i64 (wrap64 (a - b))) ∧ w = w' := by
  go_enter Try.func33, Try.ntmps33
  go_wp2
  go_ret
  exact ⟨rfl, rfl⟩
theorem mul_any : Calls Try.prog 34 #[.pointer (some ⟨g, 0, none⟩), .pointer (some ⟨g', 0, none⟩)] w fun e w' => e = .returned (.int .i64 (wrap64 (a * b))) ∧ w = w' := by
  go_enter Try.func34, Try.ntmps34
  go_wp2
  go_ret
  exact ⟨rfl, rfl⟩
theorem mod_any (b0 : 0 < b) (b1 : b < 2147483648) : Calls Try.prog 37 #[.pointer (some ⟨g, 0, none⟩), .pointer (some ⟨g', 0, none⟩)] w fun e w' => e = .returned (.int .i64 (a % b)) ∧ w = w' := by
  go_enter Try.func37, Try.ntmps37
  go_wp2_with (go_at_call 36; refine (rest_any a b _ b0 b1).mono ?_; rintro e w' ⟨rfl, rfl⟩)
  go_ret
  exact ⟨rfl, rfl⟩
theorem div_any (b0 : 0 < b) (b1 : b < 2147483648) : Calls Try.prog 35 #[.pointer (some ⟨g, 0, none⟩), .pointer (some ⟨g', 0, none⟩)] w fun e w' => e = .returned (.int .i64 (wrap64 ((wrap64 (a - a % b)).tdiv b))) ∧ ∃ n, w' = w.drewN n := by
  have hb : b ≠ 0 := by omega
  have hz : (b == 0) = false := beq_eq_false_iff_ne.2 hb
  go_enter Try.func35, Try.ntmps35
  go_wp2
  go_quiet ((go_at_call 36; exact Calls.quiet_of_same ((rest_any a b _ b0 b1).mono fun e w' ⟨h1, h2⟩ => ⟨h1, h2.symm⟩)))
  go_wp2
  go_ret
  exact ⟨rfl, _, rfl⟩
end

theorem law : Go.Maps.Keyed Try.prog 9 := Go.Maps.string_keyed Try.underlying9
theorem key_of (s : ByteArray) (h : s.size ≤ maxLen) : keyOf Try.prog 9 (.string s) = some (.string s.data.toList) := Go.WideMaps.keyOf_string_mk Try.underlying9 h
theorem zeroF (w : World) : (zeroValue 53).run Try.prog w = .ok .nilFunc w := by kernel_rfl
theorem cell_grown' {W w1 : World} {b : Nat} (hg : W.grownBy w1 (some b)) {a : Addr} {v : Value} (h : W.cell? a = some v) (hne : a.block ≠ b) : w1.cell? a = some v := by
  have := hg.block a.block (World.block_lt_of_cell? W a h) (fun e => hne (Option.some.inj e))
  simpa [World.cell?, this] using h
theorem below_grown' {B : Nat} {w w1 : World} (h : Below B w w1) {b : Nat} (hB : B ≤ w1.heap.size) {w2 : World} (hg : w1.grownBy w2 (some b)) (hr : B ≤ b) : Below B w w2 :=
  h.grown hg hB (fun k hk => by cases hk; exact hr)

structure Aside (p : Prop) : Prop where mk :: (out : p)
theorem pw_drewN {B : Nat} {w W : World} (h : Below B w W) (n : Nat) : Below B w (W.drewN n) := ⟨h.os, h.tape, h.output, h.size, h.block⟩
theorem below3 (w : World) (x y z : Obj) : Below w.heap.size w (((w.alloc x).alloc y).alloc z).drew :=
  ((((Below.refl _ _).alloc (Nat.le_refl _) _).alloc (by simp) _).alloc (by simp; omega) _).drew
theorem heap_keep (w : World) (o : Obj) {g : Nat} {c : Obj} (h : w.heap[g]? = some c) : (w.alloc o).heap[g]? = some c :=
  (Below.heap_alloc w o g (Array.getElem?_eq_some_iff.1 h).1).trans h
theorem cell_first (w : World) (x y : Value) (t : TypeId) (o : Obj) : ((((w.alloc (.cells #[x] t)).alloc (.cells #[y] t)).alloc o).drew).cell? ⟨w.heap.size, 0, none⟩ = some x := by
  have h := heap_keep _ o (heap_keep _ (.cells #[y] t) (MapKept.heap_alloc w (.cells #[x] t)).1)
  show World.cell? (((w.alloc (.cells #[x] t)).alloc (.cells #[y] t)).alloc o) ⟨w.heap.size, 0, none⟩ = some x
  simp only [World.cell?, h]; rfl
theorem cell_second (w : World) (x y : Value) (t : TypeId) (o : Obj) : ((((w.alloc (.cells #[x] t)).alloc (.cells #[y] t)).alloc o).drew).cell? ⟨w.heap.size + 1, 0, none⟩ = some y := by
  have h := heap_keep _ o (MapKept.heap_alloc (w.alloc (.cells #[x] t)) (.cells #[y] t)).1
  have e : (w.alloc (.cells #[x] t)).heap.size = w.heap.size + 1 := by simp
  rw [e] at h
  show World.cell? (((w.alloc (.cells #[x] t)).alloc (.cells #[y] t)).alloc o) ⟨w.heap.size + 1, 0, none⟩ = some y
  simp only [World.cell?, h]; rfl

/-- The map of the five operations. -/
def DD (f1 f2 f3 f4 f5 : Value) : DataW Value :=
  ((((((DataW.map (H := Value) []).put (.string (ByteArray.mk #[43]).data.toList) (.held f1)).put (.string (ByteArray.mk #[45]).data.toList) (.held f2)).put (.string (ByteArray.mk #[42]).data.toList) (.held f3)).put (.string (ByteArray.mk #[68, 73, 86]).data.toList) (.held f4)).put (.string (ByteArray.mk #[77, 79, 68]).data.toList) (.held f5))
/-- What stands at a key of the five operations. -/
theorem d5 (f1 f2 f3 f4 f5 : Value) (l : List UInt8) :
    (DD f1 f2 f3 f4 f5).atKey (.string l) (.held .nilFunc) = .held (if l = [43] then f1 else if l = [45] then f2 else if l = [42] then f3 else if l = [68, 73, 86] then f4 else if l = [77, 79, 68] then f5 else .nilFunc) ∧
    Maps.has (DD f1 f2 f3 f4 f5) (.string l) = (if l = [43] then true else if l = [45] then true else if l = [42] then true else if l = [68, 73, 86] then true else if l = [77, 79, 68] then true else false) := by
  unfold DD
  have ne : ∀ {x y : List UInt8}, x ≠ y → (Lit.string x) ≠ Lit.string y := fun h e => h (by injection e)
  have k : ∀ x, WideAt.IsKeyLit (Lit.string x) := fun x => trivial
  by_cases h1 : l = [43]
  · subst h1
    exact ⟨by rw [(MapFn.at_other (ne (by decide)) _ _).1, (MapFn.at_other (ne (by decide)) _ _).1, (MapFn.at_other (ne (by decide)) _ _).1, (MapFn.at_other (ne (by decide)) _ _).1, (MapFn.at_same (by repeat (first | exact Go.Maps.isMap_empty | refine Go.Maps.IsMap.put ?_ _ _)) (k _) _ _).1]; rfl, by rw [(MapFn.at_other (ne (by decide)) _ .nil).2, (MapFn.at_other (ne (by decide)) _ .nil).2, (MapFn.at_other (ne (by decide)) _ .nil).2, (MapFn.at_other (ne (by decide)) _ .nil).2, (MapFn.at_same (by repeat (first | exact Go.Maps.isMap_empty | refine Go.Maps.IsMap.put ?_ _ _)) (k _) _ .nil).2]; rfl⟩
  by_cases h2 : l = [45]
  · subst h2
    exact ⟨by rw [(MapFn.at_other (ne (by decide)) _ _).1, (MapFn.at_other (ne (by decide)) _ _).1, (MapFn.at_other (ne (by decide)) _ _).1, (MapFn.at_same (by repeat (first | exact Go.Maps.isMap_empty | refine Go.Maps.IsMap.put ?_ _ _)) (k _) _ _).1]; rfl, by rw [(MapFn.at_other (ne (by decide)) _ .nil).2, (MapFn.at_other (ne (by decide)) _ .nil).2, (MapFn.at_other (ne (by decide)) _ .nil).2, (MapFn.at_same (by repeat (first | exact Go.Maps.isMap_empty | refine Go.Maps.IsMap.put ?_ _ _)) (k _) _ .nil).2]; rfl⟩
  by_cases h3 : l = [42]
  · subst h3
    exact ⟨by rw [(MapFn.at_other (ne (by decide)) _ _).1, (MapFn.at_other (ne (by decide)) _ _).1, (MapFn.at_same (by repeat (first | exact Go.Maps.isMap_empty | refine Go.Maps.IsMap.put ?_ _ _)) (k _) _ _).1]; rfl, by rw [(MapFn.at_other (ne (by decide)) _ .nil).2, (MapFn.at_other (ne (by decide)) _ .nil).2, (MapFn.at_same (by repeat (first | exact Go.Maps.isMap_empty | refine Go.Maps.IsMap.put ?_ _ _)) (k _) _ .nil).2]; rfl⟩
  by_cases h4 : l = [68, 73, 86]
  · subst h4
    exact ⟨by rw [(MapFn.at_other (ne (by decide)) _ _).1, (MapFn.at_same (by repeat (first | exact Go.Maps.isMap_empty | refine Go.Maps.IsMap.put ?_ _ _)) (k _) _ _).1]; rfl, by rw [(MapFn.at_other (ne (by decide)) _ .nil).2, (MapFn.at_same (by repeat (first | exact Go.Maps.isMap_empty | refine Go.Maps.IsMap.put ?_ _ _)) (k _) _ .nil).2]; rfl⟩
  by_cases h5 : l = [77, 79, 68]
  · subst h5
    exact ⟨by rw [(MapFn.at_same (by repeat (first | exact Go.Maps.isMap_empty | refine Go.Maps.IsMap.put ?_ _ _)) (k _) _ _).1]; rfl, by rw [(MapFn.at_same (by repeat (first | exact Go.Maps.isMap_empty | refine Go.Maps.IsMap.put ?_ _ _)) (k _) _ .nil).2]; rfl⟩
  have oth : ∀ {x : List UInt8} (D : DataW Value) (d z : DataW Value), l ≠ x → (D.put (.string x) d).atKey (.string l) z = D.atKey (.string l) z ∧ Maps.has (D.put (.string x) d) (.string l) = Maps.has D (.string l) := fun D d z h => MapFn.at_other (ne h) d z
  simp only [if_neg h1, if_neg h2, if_neg h3, if_neg h4, if_neg h5]
  exact ⟨by rw [(oth _ _ _ h5).1, (oth _ _ _ h4).1, (oth _ _ _ h3).1, (oth _ _ _ h2).1, (oth _ _ _ h1).1]; rfl, by rw [(oth _ _ .nil h5).2, (oth _ _ .nil h4).2, (oth _ _ .nil h3).2, (oth _ _ .nil h2).2, (oth _ _ .nil h1).2]; rfl⟩


set_option maxRecDepth 100000 in
set_option maxHeartbeats 2000000 in
theorem int_add (s : ByteArray) (a b : Int) (w : World) (hs : s.toList = [43]) (hsz : s.size ≤ maxLen) :
    Calls Try.prog 12 #[.string s, .int .i64 a, .int .i64 b] w fun e w' => e = .returned (.tuple #[.int .i64 (wrap32 (wrap64 (wrap32 a + wrap32 b))), .int .i64 0, .bool true]) ∧ Below w.heap.size w w' := by
  have hmm := @run_makeMap Try.prog
  have hb1 : wrap32 b < 2147483648 := by unfold wrap32; omega
  have h0 : ∀ x y, (((w.alloc x).alloc y).alloc (.map #[] 0)).ownsMap Try.prog 9 MapFn.RV (w.heap.size + 1 + 1) 0 (.map []) := fun x y => by
    have := World.ownsMap_made ((w.alloc x).alloc y) Try.prog 9 MapFn.RV
    simpa using this
  have D6 : (DD (.func (.func 32) #[] #[.pointer (some ⟨w.heap.size, 0, none⟩), .pointer (some ⟨w.heap.size + 1, 0, none⟩)]) (.func (.func 33) #[] #[.pointer (some ⟨w.heap.size, 0, none⟩), .pointer (some ⟨w.heap.size + 1, 0, none⟩)]) (.func (.func 34) #[] #[.pointer (some ⟨w.heap.size, 0, none⟩), .pointer (some ⟨w.heap.size + 1, 0, none⟩)]) (.func (.func 35) #[] #[.pointer (some ⟨w.heap.size, 0, none⟩), .pointer (some ⟨w.heap.size + 1, 0, none⟩)]) (.func (.func 37) #[] #[.pointer (some ⟨w.heap.size, 0, none⟩), .pointer (some ⟨w.heap.size + 1, 0, none⟩)])).atKey (.string s.data.toList) (.held .nilFunc) = .held (.func (.func 32) #[] #[.pointer (some ⟨w.heap.size, 0, none⟩), .pointer (some ⟨w.heap.size + 1, 0, none⟩)]) ∧ Maps.has (DD (.func (.func 32) #[] #[.pointer (some ⟨w.heap.size, 0, none⟩), .pointer (some ⟨w.heap.size + 1, 0, none⟩)]) (.func (.func 33) #[] #[.pointer (some ⟨w.heap.size, 0, none⟩), .pointer (some ⟨w.heap.size + 1, 0, none⟩)]) (.func (.func 34) #[] #[.pointer (some ⟨w.heap.size, 0, none⟩), .pointer (some ⟨w.heap.size + 1, 0, none⟩)]) (.func (.func 35) #[] #[.pointer (some ⟨w.heap.size, 0, none⟩), .pointer (some ⟨w.heap.size + 1, 0, none⟩)]) (.func (.func 37) #[] #[.pointer (some ⟨w.heap.size, 0, none⟩), .pointer (some ⟨w.heap.size + 1, 0, none⟩)])) (.string s.data.toList) = true := by
    have h := d5 (.func (.func 32) #[] #[.pointer (some ⟨w.heap.size, 0, none⟩), .pointer (some ⟨w.heap.size + 1, 0, none⟩)]) (.func (.func 33) #[] #[.pointer (some ⟨w.heap.size, 0, none⟩), .pointer (some ⟨w.heap.size + 1, 0, none⟩)]) (.func (.func 34) #[] #[.pointer (some ⟨w.heap.size, 0, none⟩), .pointer (some ⟨w.heap.size + 1, 0, none⟩)]) (.func (.func 35) #[] #[.pointer (some ⟨w.heap.size, 0, none⟩), .pointer (some ⟨w.heap.size + 1, 0, none⟩)]) (.func (.func 37) #[] #[.pointer (some ⟨w.heap.size, 0, none⟩), .pointer (some ⟨w.heap.size + 1, 0, none⟩)]) s.toList
    rw [show s.data.toList = s.toList from (Lib.toList_data s).symm]
    rw [hs] at h ⊢
    exact ⟨h.1.trans (by rw [if_pos rfl]), h.2.trans (by rw [if_pos rfl])⟩
  have D7 := Aside.mk D6
  clear D6
  go_enter Try.func12, Try.ntmps12
  go_upto_region 1 with (fail)
  go_cut [11] (fun v wc => v = .int .i64 (wrap32 a) ∧ wc = ((w.alloc (.cells #[.int .i64 (wrap32 a)] 3)).alloc (.cells #[.int .i64 (wrap32 b)] 3)).drew)
  case first =>
    go_region_with (go_at_call 31; refine (round_any _ _).mono ?_; rintro e w' ⟨rfl, rfl⟩)
    all_goals (go_wp2_with fail; go_meet; exact ⟨rfl, rfl⟩)
  case rest =>
  obtain ⟨rfl, rfl⟩ := hcut
  go_wp2_with (first | (refine MapFn.insert_held _ rfl _ _ _ 56 rfl 9 53 law Try.underlying56 _ _ _ rfl (by first | assumption | exact (h0 _ _).drew) (by unfold maxLen; omega) _ _ _ rfl rfl (key_of _ (by unfold maxLen; decide)) ?_; intro w1 hown1 hgrow1; have ca : w1.cell? ⟨w.heap.size, 0, none⟩ = some (.int .i64 (wrap32 a)) := cell_grown' hgrow1 (by first | assumption | exact cell_first _ _ _ _ _) (by show w.heap.size ≠ w.heap.size + 1 + 1; omega); have cb : w1.cell? ⟨w.heap.size + 1, 0, none⟩ = some (.int .i64 (wrap32 b)) := cell_grown' hgrow1 (by first | assumption | exact cell_second _ _ _ _ _) (by show w.heap.size + 1 ≠ w.heap.size + 1 + 1; omega); have sz : w.heap.size + 3 ≤ w1.heap.size := Nat.le_trans (by first | assumption | (simp; done)) hgrow1.size; have bl : Below w.heap.size w w1 := below_grown' (by first | assumption | exact below3 _ _ _ _) (by first | omega | (simp; done) | (simp; omega)) hgrow1 (by omega)) | (refine MapFn.look_held _ rfl _ _ 56 rfl 9 53 law Try.underlying56 (zeroF _) _ _ _ rfl (by assumption) _ _ rfl (key_of s hsz) (.func (.func 32) #[] #[.pointer (some ⟨w.heap.size, 0, none⟩), .pointer (some ⟨w.heap.size + 1, 0, none⟩)]) true D7.out.1 D7.out.2 ?_) | (go_at_call 32; refine (add_any (wrap32 a) (wrap32 b) _ _ _ (by assumption) (by assumption)).mono ?_; rintro e w' ⟨rfl, rfl⟩) | (go_at_call 31; refine (round_any _ _).mono ?_; rintro e w' ⟨rfl, rfl⟩))
  go_ret3
  exact ⟨rfl, by first | assumption | exact pw_drewN (by assumption) _⟩

set_option maxRecDepth 100000 in
set_option maxHeartbeats 2000000 in
theorem int_sub (s : ByteArray) (a b : Int) (w : World) (hs : s.toList = [45]) (hsz : s.size ≤ maxLen) :
    Calls Try.prog 12 #[.string s, .int .i64 a, .int .i64 b] w fun e w' => e = .returned (.tuple #[.int .i64 (wrap32 (wrap64 (wrap32 a - wrap32 b))), .int .i64 0, .bool true]) ∧ Below w.heap.size w w' := by
  have hmm := @run_makeMap Try.prog
  have hb1 : wrap32 b < 2147483648 := by unfold wrap32; omega
  have h0 : ∀ x y, (((w.alloc x).alloc y).alloc (.map #[] 0)).ownsMap Try.prog 9 MapFn.RV (w.heap.size + 1 + 1) 0 (.map []) := fun x y => by
    have := World.ownsMap_made ((w.alloc x).alloc y) Try.prog 9 MapFn.RV
    simpa using this
  have D6 : (DD (.func (.func 32) #[] #[.pointer (some ⟨w.heap.size, 0, none⟩), .pointer (some ⟨w.heap.size + 1, 0, none⟩)]) (.func (.func 33) #[] #[.pointer (some ⟨w.heap.size, 0, none⟩), .pointer (some ⟨w.heap.size + 1, 0, none⟩)]) (.func (.func 34) #[] #[.pointer (some ⟨w.heap.size, 0, none⟩), .pointer (some ⟨w.heap.size + 1, 0, none⟩)]) (.func (.func 35) #[] #[.pointer (some ⟨w.heap.size, 0, none⟩), .pointer (some ⟨w.heap.size + 1, 0, none⟩)]) (.func (.func 37) #[] #[.pointer (some ⟨w.heap.size, 0, none⟩), .pointer (some ⟨w.heap.size + 1, 0, none⟩)])).atKey (.string s.data.toList) (.held .nilFunc) = .held (.func (.func 33) #[] #[.pointer (some ⟨w.heap.size, 0, none⟩), .pointer (some ⟨w.heap.size + 1, 0, none⟩)]) ∧ Maps.has (DD (.func (.func 32) #[] #[.pointer (some ⟨w.heap.size, 0, none⟩), .pointer (some ⟨w.heap.size + 1, 0, none⟩)]) (.func (.func 33) #[] #[.pointer (some ⟨w.heap.size, 0, none⟩), .pointer (some ⟨w.heap.size + 1, 0, none⟩)]) (.func (.func 34) #[] #[.pointer (some ⟨w.heap.size, 0, none⟩), .pointer (some ⟨w.heap.size + 1, 0, none⟩)]) (.func (.func 35) #[] #[.pointer (some ⟨w.heap.size, 0, none⟩), .pointer (some ⟨w.heap.size + 1, 0, none⟩)]) (.func (.func 37) #[] #[.pointer (some ⟨w.heap.size, 0, none⟩), .pointer (some ⟨w.heap.size + 1, 0, none⟩)])) (.string s.data.toList) = true := by
    have h := d5 (.func (.func 32) #[] #[.pointer (some ⟨w.heap.size, 0, none⟩), .pointer (some ⟨w.heap.size + 1, 0, none⟩)]) (.func (.func 33) #[] #[.pointer (some ⟨w.heap.size, 0, none⟩), .pointer (some ⟨w.heap.size + 1, 0, none⟩)]) (.func (.func 34) #[] #[.pointer (some ⟨w.heap.size, 0, none⟩), .pointer (some ⟨w.heap.size + 1, 0, none⟩)]) (.func (.func 35) #[] #[.pointer (some ⟨w.heap.size, 0, none⟩), .pointer (some ⟨w.heap.size + 1, 0, none⟩)]) (.func (.func 37) #[] #[.pointer (some ⟨w.heap.size, 0, none⟩), .pointer (some ⟨w.heap.size + 1, 0, none⟩)]) s.toList
    rw [show s.data.toList = s.toList from (Lib.toList_data s).symm]
    rw [hs] at h ⊢
    exact ⟨h.1.trans (by rw [if_neg (by decide), if_pos rfl]), h.2.trans (by rw [if_neg (by decide), if_pos rfl])⟩
  have D7 := Aside.mk D6
  clear D6
  go_enter Try.func12, Try.ntmps12
  go_upto_region 1 with (fail)
  go_cut [11] (fun v wc => v = .int .i64 (wrap32 a) ∧ wc = ((w.alloc (.cells #[.int .i64 (wrap32 a)] 3)).alloc (.cells #[.int .i64 (wrap32 b)] 3)).drew)
  case first =>
    go_region_with (go_at_call 31; refine (round_any _ _).mono ?_; rintro e w' ⟨rfl, rfl⟩)
    all_goals (go_wp2_with fail; go_meet; exact ⟨rfl, rfl⟩)
  case rest =>
  obtain ⟨rfl, rfl⟩ := hcut
  go_wp2_with (first | (refine MapFn.insert_held _ rfl _ _ _ 56 rfl 9 53 law Try.underlying56 _ _ _ rfl (by first | assumption | exact (h0 _ _).drew) (by unfold maxLen; omega) _ _ _ rfl rfl (key_of _ (by unfold maxLen; decide)) ?_; intro w1 hown1 hgrow1; have ca : w1.cell? ⟨w.heap.size, 0, none⟩ = some (.int .i64 (wrap32 a)) := cell_grown' hgrow1 (by first | assumption | exact cell_first _ _ _ _ _) (by show w.heap.size ≠ w.heap.size + 1 + 1; omega); have cb : w1.cell? ⟨w.heap.size + 1, 0, none⟩ = some (.int .i64 (wrap32 b)) := cell_grown' hgrow1 (by first | assumption | exact cell_second _ _ _ _ _) (by show w.heap.size + 1 ≠ w.heap.size + 1 + 1; omega); have sz : w.heap.size + 3 ≤ w1.heap.size := Nat.le_trans (by first | assumption | (simp; done)) hgrow1.size; have bl : Below w.heap.size w w1 := below_grown' (by first | assumption | exact below3 _ _ _ _) (by first | omega | (simp; done) | (simp; omega)) hgrow1 (by omega)) | (refine MapFn.look_held _ rfl _ _ 56 rfl 9 53 law Try.underlying56 (zeroF _) _ _ _ rfl (by assumption) _ _ rfl (key_of s hsz) (.func (.func 33) #[] #[.pointer (some ⟨w.heap.size, 0, none⟩), .pointer (some ⟨w.heap.size + 1, 0, none⟩)]) true D7.out.1 D7.out.2 ?_) | (go_at_call 33; refine (sub_any (wrap32 a) (wrap32 b) _ _ _ (by assumption) (by assumption)).mono ?_; rintro e w' ⟨rfl, rfl⟩) | (go_at_call 31; refine (round_any _ _).mono ?_; rintro e w' ⟨rfl, rfl⟩))
  go_ret3
  exact ⟨rfl, by first | assumption | exact pw_drewN (by assumption) _⟩

set_option maxRecDepth 100000 in
set_option maxHeartbeats 2000000 in
theorem int_mul (s : ByteArray) (a b : Int) (w : World) (hs : s.toList = [42]) (hsz : s.size ≤ maxLen) :
    Calls Try.prog 12 #[.string s, .int .i64 a, .int .i64 b] w fun e w' => e = .returned (.tuple #[.int .i64 (wrap32 (wrap64 (wrap32 a * wrap32 b))), .int .i64 0, .bool true]) ∧ Below w.heap.size w w' := by
  have hmm := @run_makeMap Try.prog
  have hb1 : wrap32 b < 2147483648 := by unfold wrap32; omega
  have h0 : ∀ x y, (((w.alloc x).alloc y).alloc (.map #[] 0)).ownsMap Try.prog 9 MapFn.RV (w.heap.size + 1 + 1) 0 (.map []) := fun x y => by
    have := World.ownsMap_made ((w.alloc x).alloc y) Try.prog 9 MapFn.RV
    simpa using this
  have D6 : (DD (.func (.func 32) #[] #[.pointer (some ⟨w.heap.size, 0, none⟩), .pointer (some ⟨w.heap.size + 1, 0, none⟩)]) (.func (.func 33) #[] #[.pointer (some ⟨w.heap.size, 0, none⟩), .pointer (some ⟨w.heap.size + 1, 0, none⟩)]) (.func (.func 34) #[] #[.pointer (some ⟨w.heap.size, 0, none⟩), .pointer (some ⟨w.heap.size + 1, 0, none⟩)]) (.func (.func 35) #[] #[.pointer (some ⟨w.heap.size, 0, none⟩), .pointer (some ⟨w.heap.size + 1, 0, none⟩)]) (.func (.func 37) #[] #[.pointer (some ⟨w.heap.size, 0, none⟩), .pointer (some ⟨w.heap.size + 1, 0, none⟩)])).atKey (.string s.data.toList) (.held .nilFunc) = .held (.func (.func 34) #[] #[.pointer (some ⟨w.heap.size, 0, none⟩), .pointer (some ⟨w.heap.size + 1, 0, none⟩)]) ∧ Maps.has (DD (.func (.func 32) #[] #[.pointer (some ⟨w.heap.size, 0, none⟩), .pointer (some ⟨w.heap.size + 1, 0, none⟩)]) (.func (.func 33) #[] #[.pointer (some ⟨w.heap.size, 0, none⟩), .pointer (some ⟨w.heap.size + 1, 0, none⟩)]) (.func (.func 34) #[] #[.pointer (some ⟨w.heap.size, 0, none⟩), .pointer (some ⟨w.heap.size + 1, 0, none⟩)]) (.func (.func 35) #[] #[.pointer (some ⟨w.heap.size, 0, none⟩), .pointer (some ⟨w.heap.size + 1, 0, none⟩)]) (.func (.func 37) #[] #[.pointer (some ⟨w.heap.size, 0, none⟩), .pointer (some ⟨w.heap.size + 1, 0, none⟩)])) (.string s.data.toList) = true := by
    have h := d5 (.func (.func 32) #[] #[.pointer (some ⟨w.heap.size, 0, none⟩), .pointer (some ⟨w.heap.size + 1, 0, none⟩)]) (.func (.func 33) #[] #[.pointer (some ⟨w.heap.size, 0, none⟩), .pointer (some ⟨w.heap.size + 1, 0, none⟩)]) (.func (.func 34) #[] #[.pointer (some ⟨w.heap.size, 0, none⟩), .pointer (some ⟨w.heap.size + 1, 0, none⟩)]) (.func (.func 35) #[] #[.pointer (some ⟨w.heap.size, 0, none⟩), .pointer (some ⟨w.heap.size + 1, 0, none⟩)]) (.func (.func 37) #[] #[.pointer (some ⟨w.heap.size, 0, none⟩), .pointer (some ⟨w.heap.size + 1, 0, none⟩)]) s.toList
    rw [show s.data.toList = s.toList from (Lib.toList_data s).symm]
    rw [hs] at h ⊢
    exact ⟨h.1.trans (by rw [if_neg (by decide), if_neg (by decide), if_pos rfl]), h.2.trans (by rw [if_neg (by decide), if_neg (by decide), if_pos rfl])⟩
  have D7 := Aside.mk D6
  clear D6
  go_enter Try.func12, Try.ntmps12
  go_upto_region 1 with (fail)
  go_cut [11] (fun v wc => v = .int .i64 (wrap32 a) ∧ wc = ((w.alloc (.cells #[.int .i64 (wrap32 a)] 3)).alloc (.cells #[.int .i64 (wrap32 b)] 3)).drew)
  case first =>
    go_region_with (go_at_call 31; refine (round_any _ _).mono ?_; rintro e w' ⟨rfl, rfl⟩)
    all_goals (go_wp2_with fail; go_meet; exact ⟨rfl, rfl⟩)
  case rest =>
  obtain ⟨rfl, rfl⟩ := hcut
  go_wp2_with (first | (refine MapFn.insert_held _ rfl _ _ _ 56 rfl 9 53 law Try.underlying56 _ _ _ rfl (by first | assumption | exact (h0 _ _).drew) (by unfold maxLen; omega) _ _ _ rfl rfl (key_of _ (by unfold maxLen; decide)) ?_; intro w1 hown1 hgrow1; have ca : w1.cell? ⟨w.heap.size, 0, none⟩ = some (.int .i64 (wrap32 a)) := cell_grown' hgrow1 (by first | assumption | exact cell_first _ _ _ _ _) (by show w.heap.size ≠ w.heap.size + 1 + 1; omega); have cb : w1.cell? ⟨w.heap.size + 1, 0, none⟩ = some (.int .i64 (wrap32 b)) := cell_grown' hgrow1 (by first | assumption | exact cell_second _ _ _ _ _) (by show w.heap.size + 1 ≠ w.heap.size + 1 + 1; omega); have sz : w.heap.size + 3 ≤ w1.heap.size := Nat.le_trans (by first | assumption | (simp; done)) hgrow1.size; have bl : Below w.heap.size w w1 := below_grown' (by first | assumption | exact below3 _ _ _ _) (by first | omega | (simp; done) | (simp; omega)) hgrow1 (by omega)) | (refine MapFn.look_held _ rfl _ _ 56 rfl 9 53 law Try.underlying56 (zeroF _) _ _ _ rfl (by assumption) _ _ rfl (key_of s hsz) (.func (.func 34) #[] #[.pointer (some ⟨w.heap.size, 0, none⟩), .pointer (some ⟨w.heap.size + 1, 0, none⟩)]) true D7.out.1 D7.out.2 ?_) | (go_at_call 34; refine (mul_any (wrap32 a) (wrap32 b) _ _ _ (by assumption) (by assumption)).mono ?_; rintro e w' ⟨rfl, rfl⟩) | (go_at_call 31; refine (round_any _ _).mono ?_; rintro e w' ⟨rfl, rfl⟩))
  go_ret3
  exact ⟨rfl, by first | assumption | exact pw_drewN (by assumption) _⟩

set_option maxRecDepth 100000 in
set_option maxHeartbeats 2000000 in
theorem int_div (s : ByteArray) (a b : Int) (w : World) (hs : s.toList = [68, 73, 86]) (hsz : s.size ≤ maxLen) (hb0 : 0 < wrap32 b) :
    Calls Try.prog 12 #[.string s, .int .i64 a, .int .i64 b] w fun e w' => e = .returned (.tuple #[.int .i64 (wrap32 (wrap64 ((wrap64 (wrap32 a - wrap32 a % wrap32 b)).tdiv (wrap32 b)))), .int .i64 0, .bool true]) ∧ Below w.heap.size w w' := by
  have hmm := @run_makeMap Try.prog
  have hb1 : wrap32 b < 2147483648 := by unfold wrap32; omega
  have h0 : ∀ x y, (((w.alloc x).alloc y).alloc (.map #[] 0)).ownsMap Try.prog 9 MapFn.RV (w.heap.size + 1 + 1) 0 (.map []) := fun x y => by
    have := World.ownsMap_made ((w.alloc x).alloc y) Try.prog 9 MapFn.RV
    simpa using this
  have D6 : (DD (.func (.func 32) #[] #[.pointer (some ⟨w.heap.size, 0, none⟩), .pointer (some ⟨w.heap.size + 1, 0, none⟩)]) (.func (.func 33) #[] #[.pointer (some ⟨w.heap.size, 0, none⟩), .pointer (some ⟨w.heap.size + 1, 0, none⟩)]) (.func (.func 34) #[] #[.pointer (some ⟨w.heap.size, 0, none⟩), .pointer (some ⟨w.heap.size + 1, 0, none⟩)]) (.func (.func 35) #[] #[.pointer (some ⟨w.heap.size, 0, none⟩), .pointer (some ⟨w.heap.size + 1, 0, none⟩)]) (.func (.func 37) #[] #[.pointer (some ⟨w.heap.size, 0, none⟩), .pointer (some ⟨w.heap.size + 1, 0, none⟩)])).atKey (.string s.data.toList) (.held .nilFunc) = .held (.func (.func 35) #[] #[.pointer (some ⟨w.heap.size, 0, none⟩), .pointer (some ⟨w.heap.size + 1, 0, none⟩)]) ∧ Maps.has (DD (.func (.func 32) #[] #[.pointer (some ⟨w.heap.size, 0, none⟩), .pointer (some ⟨w.heap.size + 1, 0, none⟩)]) (.func (.func 33) #[] #[.pointer (some ⟨w.heap.size, 0, none⟩), .pointer (some ⟨w.heap.size + 1, 0, none⟩)]) (.func (.func 34) #[] #[.pointer (some ⟨w.heap.size, 0, none⟩), .pointer (some ⟨w.heap.size + 1, 0, none⟩)]) (.func (.func 35) #[] #[.pointer (some ⟨w.heap.size, 0, none⟩), .pointer (some ⟨w.heap.size + 1, 0, none⟩)]) (.func (.func 37) #[] #[.pointer (some ⟨w.heap.size, 0, none⟩), .pointer (some ⟨w.heap.size + 1, 0, none⟩)])) (.string s.data.toList) = true := by
    have h := d5 (.func (.func 32) #[] #[.pointer (some ⟨w.heap.size, 0, none⟩), .pointer (some ⟨w.heap.size + 1, 0, none⟩)]) (.func (.func 33) #[] #[.pointer (some ⟨w.heap.size, 0, none⟩), .pointer (some ⟨w.heap.size + 1, 0, none⟩)]) (.func (.func 34) #[] #[.pointer (some ⟨w.heap.size, 0, none⟩), .pointer (some ⟨w.heap.size + 1, 0, none⟩)]) (.func (.func 35) #[] #[.pointer (some ⟨w.heap.size, 0, none⟩), .pointer (some ⟨w.heap.size + 1, 0, none⟩)]) (.func (.func 37) #[] #[.pointer (some ⟨w.heap.size, 0, none⟩), .pointer (some ⟨w.heap.size + 1, 0, none⟩)]) s.toList
    rw [show s.data.toList = s.toList from (Lib.toList_data s).symm]
    rw [hs] at h ⊢
    exact ⟨h.1.trans (by rw [if_neg (by decide), if_neg (by decide), if_neg (by decide), if_pos rfl]), h.2.trans (by rw [if_neg (by decide), if_neg (by decide), if_neg (by decide), if_pos rfl])⟩
  have D7 := Aside.mk D6
  clear D6
  go_enter Try.func12, Try.ntmps12
  go_upto_region 1 with (fail)
  go_cut [11] (fun v wc => v = .int .i64 (wrap32 a) ∧ wc = ((w.alloc (.cells #[.int .i64 (wrap32 a)] 3)).alloc (.cells #[.int .i64 (wrap32 b)] 3)).drew)
  case first =>
    go_region_with (go_at_call 31; refine (round_any _ _).mono ?_; rintro e w' ⟨rfl, rfl⟩)
    all_goals (go_wp2_with fail; go_meet; exact ⟨rfl, rfl⟩)
  case rest =>
  obtain ⟨rfl, rfl⟩ := hcut
  go_wp2_with (first | (refine MapFn.insert_held _ rfl _ _ _ 56 rfl 9 53 law Try.underlying56 _ _ _ rfl (by first | assumption | exact (h0 _ _).drew) (by unfold maxLen; omega) _ _ _ rfl rfl (key_of _ (by unfold maxLen; decide)) ?_; intro w1 hown1 hgrow1; have ca : w1.cell? ⟨w.heap.size, 0, none⟩ = some (.int .i64 (wrap32 a)) := cell_grown' hgrow1 (by first | assumption | exact cell_first _ _ _ _ _) (by show w.heap.size ≠ w.heap.size + 1 + 1; omega); have cb : w1.cell? ⟨w.heap.size + 1, 0, none⟩ = some (.int .i64 (wrap32 b)) := cell_grown' hgrow1 (by first | assumption | exact cell_second _ _ _ _ _) (by show w.heap.size + 1 ≠ w.heap.size + 1 + 1; omega); have sz : w.heap.size + 3 ≤ w1.heap.size := Nat.le_trans (by first | assumption | (simp; done)) hgrow1.size; have bl : Below w.heap.size w w1 := below_grown' (by first | assumption | exact below3 _ _ _ _) (by first | omega | (simp; done) | (simp; omega)) hgrow1 (by omega)) | (refine MapFn.look_held _ rfl _ _ 56 rfl 9 53 law Try.underlying56 (zeroF _) _ _ _ rfl (by assumption) _ _ rfl (key_of s hsz) (.func (.func 35) #[] #[.pointer (some ⟨w.heap.size, 0, none⟩), .pointer (some ⟨w.heap.size + 1, 0, none⟩)]) true D7.out.1 D7.out.2 ?_) | (go_at_call 35; refine (div_any (wrap32 a) (wrap32 b) _ _ _ (by assumption) (by assumption) hb0 hb1).mono ?_; rintro e w' ⟨rfl, nd, rfl⟩) | (go_at_call 31; refine (round_any _ _).mono ?_; rintro e w' ⟨rfl, rfl⟩))
  go_ret3
  exact ⟨rfl, by first | assumption | exact pw_drewN (by assumption) _⟩

set_option maxRecDepth 100000 in
set_option maxHeartbeats 2000000 in
theorem int_divz (s : ByteArray) (a b : Int) (w : World) (hs : s.toList = [68, 73, 86]) (hsz : s.size ≤ maxLen) (hb0 : wrap32 b ≤ 0) :
    Calls Try.prog 12 #[.string s, .int .i64 a, .int .i64 b] w fun e w' => e = .returned (.tuple #[.int .i64 (0), .int .i64 6, .bool true]) ∧ Below w.heap.size w w' := by
  have hmm := @run_makeMap Try.prog
  have hb1 : wrap32 b < 2147483648 := by unfold wrap32; omega
  have h0 : ∀ x y, (((w.alloc x).alloc y).alloc (.map #[] 0)).ownsMap Try.prog 9 MapFn.RV (w.heap.size + 1 + 1) 0 (.map []) := fun x y => by
    have := World.ownsMap_made ((w.alloc x).alloc y) Try.prog 9 MapFn.RV
    simpa using this
  have D6 : (DD (.func (.func 32) #[] #[.pointer (some ⟨w.heap.size, 0, none⟩), .pointer (some ⟨w.heap.size + 1, 0, none⟩)]) (.func (.func 33) #[] #[.pointer (some ⟨w.heap.size, 0, none⟩), .pointer (some ⟨w.heap.size + 1, 0, none⟩)]) (.func (.func 34) #[] #[.pointer (some ⟨w.heap.size, 0, none⟩), .pointer (some ⟨w.heap.size + 1, 0, none⟩)]) (.func (.func 35) #[] #[.pointer (some ⟨w.heap.size, 0, none⟩), .pointer (some ⟨w.heap.size + 1, 0, none⟩)]) (.func (.func 37) #[] #[.pointer (some ⟨w.heap.size, 0, none⟩), .pointer (some ⟨w.heap.size + 1, 0, none⟩)])).atKey (.string s.data.toList) (.held .nilFunc) = .held (.func (.func 35) #[] #[.pointer (some ⟨w.heap.size, 0, none⟩), .pointer (some ⟨w.heap.size + 1, 0, none⟩)]) ∧ Maps.has (DD (.func (.func 32) #[] #[.pointer (some ⟨w.heap.size, 0, none⟩), .pointer (some ⟨w.heap.size + 1, 0, none⟩)]) (.func (.func 33) #[] #[.pointer (some ⟨w.heap.size, 0, none⟩), .pointer (some ⟨w.heap.size + 1, 0, none⟩)]) (.func (.func 34) #[] #[.pointer (some ⟨w.heap.size, 0, none⟩), .pointer (some ⟨w.heap.size + 1, 0, none⟩)]) (.func (.func 35) #[] #[.pointer (some ⟨w.heap.size, 0, none⟩), .pointer (some ⟨w.heap.size + 1, 0, none⟩)]) (.func (.func 37) #[] #[.pointer (some ⟨w.heap.size, 0, none⟩), .pointer (some ⟨w.heap.size + 1, 0, none⟩)])) (.string s.data.toList) = true := by
    have h := d5 (.func (.func 32) #[] #[.pointer (some ⟨w.heap.size, 0, none⟩), .pointer (some ⟨w.heap.size + 1, 0, none⟩)]) (.func (.func 33) #[] #[.pointer (some ⟨w.heap.size, 0, none⟩), .pointer (some ⟨w.heap.size + 1, 0, none⟩)]) (.func (.func 34) #[] #[.pointer (some ⟨w.heap.size, 0, none⟩), .pointer (some ⟨w.heap.size + 1, 0, none⟩)]) (.func (.func 35) #[] #[.pointer (some ⟨w.heap.size, 0, none⟩), .pointer (some ⟨w.heap.size + 1, 0, none⟩)]) (.func (.func 37) #[] #[.pointer (some ⟨w.heap.size, 0, none⟩), .pointer (some ⟨w.heap.size + 1, 0, none⟩)]) s.toList
    rw [show s.data.toList = s.toList from (Lib.toList_data s).symm]
    rw [hs] at h ⊢
    exact ⟨h.1.trans (by rw [if_neg (by decide), if_neg (by decide), if_neg (by decide), if_pos rfl]), h.2.trans (by rw [if_neg (by decide), if_neg (by decide), if_neg (by decide), if_pos rfl])⟩
  have D7 := Aside.mk D6
  clear D6
  go_enter Try.func12, Try.ntmps12
  go_upto_region 1 with (fail)
  go_cut [11] (fun v wc => v = .int .i64 (wrap32 a) ∧ wc = ((w.alloc (.cells #[.int .i64 (wrap32 a)] 3)).alloc (.cells #[.int .i64 (wrap32 b)] 3)).drew)
  case first =>
    go_region_with (go_at_call 31; refine (round_any _ _).mono ?_; rintro e w' ⟨rfl, rfl⟩)
    all_goals (go_wp2_with fail; go_meet; exact ⟨rfl, rfl⟩)
  case rest =>
  obtain ⟨rfl, rfl⟩ := hcut
  go_wp2_with (first | (refine MapFn.insert_held _ rfl _ _ _ 56 rfl 9 53 law Try.underlying56 _ _ _ rfl (by first | assumption | exact (h0 _ _).drew) (by unfold maxLen; omega) _ _ _ rfl rfl (key_of _ (by unfold maxLen; decide)) ?_; intro w1 hown1 hgrow1; have ca : w1.cell? ⟨w.heap.size, 0, none⟩ = some (.int .i64 (wrap32 a)) := cell_grown' hgrow1 (by first | assumption | exact cell_first _ _ _ _ _) (by show w.heap.size ≠ w.heap.size + 1 + 1; omega); have cb : w1.cell? ⟨w.heap.size + 1, 0, none⟩ = some (.int .i64 (wrap32 b)) := cell_grown' hgrow1 (by first | assumption | exact cell_second _ _ _ _ _) (by show w.heap.size + 1 ≠ w.heap.size + 1 + 1; omega); have sz : w.heap.size + 3 ≤ w1.heap.size := Nat.le_trans (by first | assumption | (simp; done)) hgrow1.size; have bl : Below w.heap.size w w1 := below_grown' (by first | assumption | exact below3 _ _ _ _) (by first | omega | (simp; done) | (simp; omega)) hgrow1 (by omega)) | (refine MapFn.look_held _ rfl _ _ 56 rfl 9 53 law Try.underlying56 (zeroF _) _ _ _ rfl (by assumption) _ _ rfl (key_of s hsz) (.func (.func 35) #[] #[.pointer (some ⟨w.heap.size, 0, none⟩), .pointer (some ⟨w.heap.size + 1, 0, none⟩)]) true D7.out.1 D7.out.2 ?_))
  go_ret3
  exact ⟨rfl, by first | assumption | exact pw_drewN (by assumption) _⟩

set_option maxRecDepth 100000 in
set_option maxHeartbeats 2000000 in
theorem int_mod (s : ByteArray) (a b : Int) (w : World) (hs : s.toList = [77, 79, 68]) (hsz : s.size ≤ maxLen) (hb0 : 0 < wrap32 b) :
    Calls Try.prog 12 #[.string s, .int .i64 a, .int .i64 b] w fun e w' => e = .returned (.tuple #[.int .i64 (wrap32 (wrap32 a % wrap32 b)), .int .i64 0, .bool true]) ∧ Below w.heap.size w w' := by
  have hmm := @run_makeMap Try.prog
  have hb1 : wrap32 b < 2147483648 := by unfold wrap32; omega
  have h0 : ∀ x y, (((w.alloc x).alloc y).alloc (.map #[] 0)).ownsMap Try.prog 9 MapFn.RV (w.heap.size + 1 + 1) 0 (.map []) := fun x y => by
    have := World.ownsMap_made ((w.alloc x).alloc y) Try.prog 9 MapFn.RV
    simpa using this
  have D6 : (DD (.func (.func 32) #[] #[.pointer (some ⟨w.heap.size, 0, none⟩), .pointer (some ⟨w.heap.size + 1, 0, none⟩)]) (.func (.func 33) #[] #[.pointer (some ⟨w.heap.size, 0, none⟩), .pointer (some ⟨w.heap.size + 1, 0, none⟩)]) (.func (.func 34) #[] #[.pointer (some ⟨w.heap.size, 0, none⟩), .pointer (some ⟨w.heap.size + 1, 0, none⟩)]) (.func (.func 35) #[] #[.pointer (some ⟨w.heap.size, 0, none⟩), .pointer (some ⟨w.heap.size + 1, 0, none⟩)]) (.func (.func 37) #[] #[.pointer (some ⟨w.heap.size, 0, none⟩), .pointer (some ⟨w.heap.size + 1, 0, none⟩)])).atKey (.string s.data.toList) (.held .nilFunc) = .held (.func (.func 37) #[] #[.pointer (some ⟨w.heap.size, 0, none⟩), .pointer (some ⟨w.heap.size + 1, 0, none⟩)]) ∧ Maps.has (DD (.func (.func 32) #[] #[.pointer (some ⟨w.heap.size, 0, none⟩), .pointer (some ⟨w.heap.size + 1, 0, none⟩)]) (.func (.func 33) #[] #[.pointer (some ⟨w.heap.size, 0, none⟩), .pointer (some ⟨w.heap.size + 1, 0, none⟩)]) (.func (.func 34) #[] #[.pointer (some ⟨w.heap.size, 0, none⟩), .pointer (some ⟨w.heap.size + 1, 0, none⟩)]) (.func (.func 35) #[] #[.pointer (some ⟨w.heap.size, 0, none⟩), .pointer (some ⟨w.heap.size + 1, 0, none⟩)]) (.func (.func 37) #[] #[.pointer (some ⟨w.heap.size, 0, none⟩), .pointer (some ⟨w.heap.size + 1, 0, none⟩)])) (.string s.data.toList) = true := by
    have h := d5 (.func (.func 32) #[] #[.pointer (some ⟨w.heap.size, 0, none⟩), .pointer (some ⟨w.heap.size + 1, 0, none⟩)]) (.func (.func 33) #[] #[.pointer (some ⟨w.heap.size, 0, none⟩), .pointer (some ⟨w.heap.size + 1, 0, none⟩)]) (.func (.func 34) #[] #[.pointer (some ⟨w.heap.size, 0, none⟩), .pointer (some ⟨w.heap.size + 1, 0, none⟩)]) (.func (.func 35) #[] #[.pointer (some ⟨w.heap.size, 0, none⟩), .pointer (some ⟨w.heap.size + 1, 0, none⟩)]) (.func (.func 37) #[] #[.pointer (some ⟨w.heap.size, 0, none⟩), .pointer (some ⟨w.heap.size + 1, 0, none⟩)]) s.toList
    rw [show s.data.toList = s.toList from (Lib.toList_data s).symm]
    rw [hs] at h ⊢
    exact ⟨h.1.trans (by rw [if_neg (by decide), if_neg (by decide), if_neg (by decide), if_neg (by decide), if_pos rfl]), h.2.trans (by rw [if_neg (by decide), if_neg (by decide), if_neg (by decide), if_neg (by decide), if_pos rfl])⟩
  have D7 := Aside.mk D6
  clear D6
  go_enter Try.func12, Try.ntmps12
  go_upto_region 1 with (fail)
  go_cut [11] (fun v wc => v = .int .i64 (wrap32 a) ∧ wc = ((w.alloc (.cells #[.int .i64 (wrap32 a)] 3)).alloc (.cells #[.int .i64 (wrap32 b)] 3)).drew)
  case first =>
    go_region_with (go_at_call 31; refine (round_any _ _).mono ?_; rintro e w' ⟨rfl, rfl⟩)
    all_goals (go_wp2_with fail; go_meet; exact ⟨rfl, rfl⟩)
  case rest =>
  obtain ⟨rfl, rfl⟩ := hcut
  go_wp2_with (first | (refine MapFn.insert_held _ rfl _ _ _ 56 rfl 9 53 law Try.underlying56 _ _ _ rfl (by first | assumption | exact (h0 _ _).drew) (by unfold maxLen; omega) _ _ _ rfl rfl (key_of _ (by unfold maxLen; decide)) ?_; intro w1 hown1 hgrow1; have ca : w1.cell? ⟨w.heap.size, 0, none⟩ = some (.int .i64 (wrap32 a)) := cell_grown' hgrow1 (by first | assumption | exact cell_first _ _ _ _ _) (by show w.heap.size ≠ w.heap.size + 1 + 1; omega); have cb : w1.cell? ⟨w.heap.size + 1, 0, none⟩ = some (.int .i64 (wrap32 b)) := cell_grown' hgrow1 (by first | assumption | exact cell_second _ _ _ _ _) (by show w.heap.size + 1 ≠ w.heap.size + 1 + 1; omega); have sz : w.heap.size + 3 ≤ w1.heap.size := Nat.le_trans (by first | assumption | (simp; done)) hgrow1.size; have bl : Below w.heap.size w w1 := below_grown' (by first | assumption | exact below3 _ _ _ _) (by first | omega | (simp; done) | (simp; omega)) hgrow1 (by omega)) | (refine MapFn.look_held _ rfl _ _ 56 rfl 9 53 law Try.underlying56 (zeroF _) _ _ _ rfl (by assumption) _ _ rfl (key_of s hsz) (.func (.func 37) #[] #[.pointer (some ⟨w.heap.size, 0, none⟩), .pointer (some ⟨w.heap.size + 1, 0, none⟩)]) true D7.out.1 D7.out.2 ?_) | (go_at_call 37; refine (mod_any (wrap32 a) (wrap32 b) _ _ _ (by assumption) (by assumption) hb0 hb1).mono ?_; rintro e w' ⟨rfl, rfl⟩) | (go_at_call 31; refine (round_any _ _).mono ?_; rintro e w' ⟨rfl, rfl⟩))
  go_ret3
  exact ⟨rfl, by first | assumption | exact pw_drewN (by assumption) _⟩

set_option maxRecDepth 100000 in
set_option maxHeartbeats 2000000 in
theorem int_modz (s : ByteArray) (a b : Int) (w : World) (hs : s.toList = [77, 79, 68]) (hsz : s.size ≤ maxLen) (hb0 : wrap32 b ≤ 0) :
    Calls Try.prog 12 #[.string s, .int .i64 a, .int .i64 b] w fun e w' => e = .returned (.tuple #[.int .i64 (0), .int .i64 6, .bool true]) ∧ Below w.heap.size w w' := by
  have hmm := @run_makeMap Try.prog
  have hb1 : wrap32 b < 2147483648 := by unfold wrap32; omega
  have h0 : ∀ x y, (((w.alloc x).alloc y).alloc (.map #[] 0)).ownsMap Try.prog 9 MapFn.RV (w.heap.size + 1 + 1) 0 (.map []) := fun x y => by
    have := World.ownsMap_made ((w.alloc x).alloc y) Try.prog 9 MapFn.RV
    simpa using this
  have D6 : (DD (.func (.func 32) #[] #[.pointer (some ⟨w.heap.size, 0, none⟩), .pointer (some ⟨w.heap.size + 1, 0, none⟩)]) (.func (.func 33) #[] #[.pointer (some ⟨w.heap.size, 0, none⟩), .pointer (some ⟨w.heap.size + 1, 0, none⟩)]) (.func (.func 34) #[] #[.pointer (some ⟨w.heap.size, 0, none⟩), .pointer (some ⟨w.heap.size + 1, 0, none⟩)]) (.func (.func 35) #[] #[.pointer (some ⟨w.heap.size, 0, none⟩), .pointer (some ⟨w.heap.size + 1, 0, none⟩)]) (.func (.func 37) #[] #[.pointer (some ⟨w.heap.size, 0, none⟩), .pointer (some ⟨w.heap.size + 1, 0, none⟩)])).atKey (.string s.data.toList) (.held .nilFunc) = .held (.func (.func 37) #[] #[.pointer (some ⟨w.heap.size, 0, none⟩), .pointer (some ⟨w.heap.size + 1, 0, none⟩)]) ∧ Maps.has (DD (.func (.func 32) #[] #[.pointer (some ⟨w.heap.size, 0, none⟩), .pointer (some ⟨w.heap.size + 1, 0, none⟩)]) (.func (.func 33) #[] #[.pointer (some ⟨w.heap.size, 0, none⟩), .pointer (some ⟨w.heap.size + 1, 0, none⟩)]) (.func (.func 34) #[] #[.pointer (some ⟨w.heap.size, 0, none⟩), .pointer (some ⟨w.heap.size + 1, 0, none⟩)]) (.func (.func 35) #[] #[.pointer (some ⟨w.heap.size, 0, none⟩), .pointer (some ⟨w.heap.size + 1, 0, none⟩)]) (.func (.func 37) #[] #[.pointer (some ⟨w.heap.size, 0, none⟩), .pointer (some ⟨w.heap.size + 1, 0, none⟩)])) (.string s.data.toList) = true := by
    have h := d5 (.func (.func 32) #[] #[.pointer (some ⟨w.heap.size, 0, none⟩), .pointer (some ⟨w.heap.size + 1, 0, none⟩)]) (.func (.func 33) #[] #[.pointer (some ⟨w.heap.size, 0, none⟩), .pointer (some ⟨w.heap.size + 1, 0, none⟩)]) (.func (.func 34) #[] #[.pointer (some ⟨w.heap.size, 0, none⟩), .pointer (some ⟨w.heap.size + 1, 0, none⟩)]) (.func (.func 35) #[] #[.pointer (some ⟨w.heap.size, 0, none⟩), .pointer (some ⟨w.heap.size + 1, 0, none⟩)]) (.func (.func 37) #[] #[.pointer (some ⟨w.heap.size, 0, none⟩), .pointer (some ⟨w.heap.size + 1, 0, none⟩)]) s.toList
    rw [show s.data.toList = s.toList from (Lib.toList_data s).symm]
    rw [hs] at h ⊢
    exact ⟨h.1.trans (by rw [if_neg (by decide), if_neg (by decide), if_neg (by decide), if_neg (by decide), if_pos rfl]), h.2.trans (by rw [if_neg (by decide), if_neg (by decide), if_neg (by decide), if_neg (by decide), if_pos rfl])⟩
  have D7 := Aside.mk D6
  clear D6
  go_enter Try.func12, Try.ntmps12
  go_upto_region 1 with (fail)
  go_cut [11] (fun v wc => v = .int .i64 (wrap32 a) ∧ wc = ((w.alloc (.cells #[.int .i64 (wrap32 a)] 3)).alloc (.cells #[.int .i64 (wrap32 b)] 3)).drew)
  case first =>
    go_region_with (go_at_call 31; refine (round_any _ _).mono ?_; rintro e w' ⟨rfl, rfl⟩)
    all_goals (go_wp2_with fail; go_meet; exact ⟨rfl, rfl⟩)
  case rest =>
  obtain ⟨rfl, rfl⟩ := hcut
  go_wp2_with (first | (refine MapFn.insert_held _ rfl _ _ _ 56 rfl 9 53 law Try.underlying56 _ _ _ rfl (by first | assumption | exact (h0 _ _).drew) (by unfold maxLen; omega) _ _ _ rfl rfl (key_of _ (by unfold maxLen; decide)) ?_; intro w1 hown1 hgrow1; have ca : w1.cell? ⟨w.heap.size, 0, none⟩ = some (.int .i64 (wrap32 a)) := cell_grown' hgrow1 (by first | assumption | exact cell_first _ _ _ _ _) (by show w.heap.size ≠ w.heap.size + 1 + 1; omega); have cb : w1.cell? ⟨w.heap.size + 1, 0, none⟩ = some (.int .i64 (wrap32 b)) := cell_grown' hgrow1 (by first | assumption | exact cell_second _ _ _ _ _) (by show w.heap.size + 1 ≠ w.heap.size + 1 + 1; omega); have sz : w.heap.size + 3 ≤ w1.heap.size := Nat.le_trans (by first | assumption | (simp; done)) hgrow1.size; have bl : Below w.heap.size w w1 := below_grown' (by first | assumption | exact below3 _ _ _ _) (by first | omega | (simp; done) | (simp; omega)) hgrow1 (by omega)) | (refine MapFn.look_held _ rfl _ _ 56 rfl 9 53 law Try.underlying56 (zeroF _) _ _ _ rfl (by assumption) _ _ rfl (key_of s hsz) (.func (.func 37) #[] #[.pointer (some ⟨w.heap.size, 0, none⟩), .pointer (some ⟨w.heap.size + 1, 0, none⟩)]) true D7.out.1 D7.out.2 ?_))
  go_ret3
  exact ⟨rfl, by first | assumption | exact pw_drewN (by assumption) _⟩

set_option maxRecDepth 100000 in
set_option maxHeartbeats 2000000 in
theorem int_none (s : ByteArray) (a b : Int) (w : World) (hs : s.toList ≠ [43] ∧ s.toList ≠ [45] ∧ s.toList ≠ [42] ∧ s.toList ≠ [68, 73, 86] ∧ s.toList ≠ [77, 79, 68]) (hsz : s.size ≤ maxLen) :
    Calls Try.prog 12 #[.string s, .int .i64 a, .int .i64 b] w fun e w' => e = .returned (.tuple #[.int .i64 (0), .int .i64 0, .bool false]) ∧ Below w.heap.size w w' := by
  have hmm := @run_makeMap Try.prog
  have hb1 : wrap32 b < 2147483648 := by unfold wrap32; omega
  have h0 : ∀ x y, (((w.alloc x).alloc y).alloc (.map #[] 0)).ownsMap Try.prog 9 MapFn.RV (w.heap.size + 1 + 1) 0 (.map []) := fun x y => by
    have := World.ownsMap_made ((w.alloc x).alloc y) Try.prog 9 MapFn.RV
    simpa using this
  have D6 : (DD (.func (.func 32) #[] #[.pointer (some ⟨w.heap.size, 0, none⟩), .pointer (some ⟨w.heap.size + 1, 0, none⟩)]) (.func (.func 33) #[] #[.pointer (some ⟨w.heap.size, 0, none⟩), .pointer (some ⟨w.heap.size + 1, 0, none⟩)]) (.func (.func 34) #[] #[.pointer (some ⟨w.heap.size, 0, none⟩), .pointer (some ⟨w.heap.size + 1, 0, none⟩)]) (.func (.func 35) #[] #[.pointer (some ⟨w.heap.size, 0, none⟩), .pointer (some ⟨w.heap.size + 1, 0, none⟩)]) (.func (.func 37) #[] #[.pointer (some ⟨w.heap.size, 0, none⟩), .pointer (some ⟨w.heap.size + 1, 0, none⟩)])).atKey (.string s.data.toList) (.held .nilFunc) = .held .nilFunc ∧ Maps.has (DD (.func (.func 32) #[] #[.pointer (some ⟨w.heap.size, 0, none⟩), .pointer (some ⟨w.heap.size + 1, 0, none⟩)]) (.func (.func 33) #[] #[.pointer (some ⟨w.heap.size, 0, none⟩), .pointer (some ⟨w.heap.size + 1, 0, none⟩)]) (.func (.func 34) #[] #[.pointer (some ⟨w.heap.size, 0, none⟩), .pointer (some ⟨w.heap.size + 1, 0, none⟩)]) (.func (.func 35) #[] #[.pointer (some ⟨w.heap.size, 0, none⟩), .pointer (some ⟨w.heap.size + 1, 0, none⟩)]) (.func (.func 37) #[] #[.pointer (some ⟨w.heap.size, 0, none⟩), .pointer (some ⟨w.heap.size + 1, 0, none⟩)])) (.string s.data.toList) = false := by
    have h := d5 (.func (.func 32) #[] #[.pointer (some ⟨w.heap.size, 0, none⟩), .pointer (some ⟨w.heap.size + 1, 0, none⟩)]) (.func (.func 33) #[] #[.pointer (some ⟨w.heap.size, 0, none⟩), .pointer (some ⟨w.heap.size + 1, 0, none⟩)]) (.func (.func 34) #[] #[.pointer (some ⟨w.heap.size, 0, none⟩), .pointer (some ⟨w.heap.size + 1, 0, none⟩)]) (.func (.func 35) #[] #[.pointer (some ⟨w.heap.size, 0, none⟩), .pointer (some ⟨w.heap.size + 1, 0, none⟩)]) (.func (.func 37) #[] #[.pointer (some ⟨w.heap.size, 0, none⟩), .pointer (some ⟨w.heap.size + 1, 0, none⟩)]) s.toList
    rw [show s.data.toList = s.toList from (Lib.toList_data s).symm]
    obtain ⟨q1, q2, q3, q4, q5⟩ := hs
    simpa only [if_neg q1, if_neg q2, if_neg q3, if_neg q4, if_neg q5] using h
  have D7 := Aside.mk D6
  clear D6
  have hq : (s.toList == [68, 73, 86]) = false := by simpa using hs.2.2.2.1
  have hr : (s.toList == [77, 79, 68]) = false := by simpa using hs.2.2.2.2
  clear hs
  go_enter Try.func12, Try.ntmps12
  go_upto_region 1 with (fail)
  go_cut [11] (fun v wc => v = .int .i64 (wrap32 a) ∧ wc = ((w.alloc (.cells #[.int .i64 (wrap32 a)] 3)).alloc (.cells #[.int .i64 (wrap32 b)] 3)).drew)
  case first =>
    go_region_with (go_at_call 31; refine (round_any _ _).mono ?_; rintro e w' ⟨rfl, rfl⟩)
    all_goals (go_wp2_with fail; go_meet; exact ⟨rfl, rfl⟩)
  case rest =>
  obtain ⟨rfl, rfl⟩ := hcut
  go_wp2_with (first | (refine MapFn.insert_held _ rfl _ _ _ 56 rfl 9 53 law Try.underlying56 _ _ _ rfl (by first | assumption | exact (h0 _ _).drew) (by unfold maxLen; omega) _ _ _ rfl rfl (key_of _ (by unfold maxLen; decide)) ?_; intro w1 hown1 hgrow1; have ca : w1.cell? ⟨w.heap.size, 0, none⟩ = some (.int .i64 (wrap32 a)) := cell_grown' hgrow1 (by first | assumption | exact cell_first _ _ _ _ _) (by show w.heap.size ≠ w.heap.size + 1 + 1; omega); have cb : w1.cell? ⟨w.heap.size + 1, 0, none⟩ = some (.int .i64 (wrap32 b)) := cell_grown' hgrow1 (by first | assumption | exact cell_second _ _ _ _ _) (by show w.heap.size + 1 ≠ w.heap.size + 1 + 1; omega); have sz : w.heap.size + 3 ≤ w1.heap.size := Nat.le_trans (by first | assumption | (simp; done)) hgrow1.size; have bl : Below w.heap.size w w1 := below_grown' (by first | assumption | exact below3 _ _ _ _) (by first | omega | (simp; done) | (simp; omega)) hgrow1 (by omega)) | (refine MapFn.look_held _ rfl _ _ 56 rfl 9 53 law Try.underlying56 (zeroF _) _ _ _ rfl (by assumption) _ _ rfl (key_of s hsz) .nilFunc false D7.out.1 D7.out.2 ?_))
  go_ret3
  exact ⟨rfl, by first | assumption | exact pw_drewN (by assumption) _⟩

end Go.Proofs.Ytkkgocbecnefnaa.Int12
