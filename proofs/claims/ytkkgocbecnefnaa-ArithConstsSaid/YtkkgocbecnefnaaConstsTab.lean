/- The table of consts.Two: a map from two forms and a sign to closures, told by what stands at each key. -/
import Derived.Test.YtkkgocbecnefnaaChecked
import Derived.WalkKit
import Derived.RegionTactic
import Derived.ChangeAlike
import Derived.Deep.RegionWith
import Derived.Deep.QuietTactic
import Derived.BigQuiet
import Derived.Below
import Derived.Outline
import Derived.Carry
import Derived.Deep.DeepCutAuto
import Derived.Deep.CutBlock
import Derived.Deep.LoopGhost
import Derived.StringKeys
import Derived.Lib.Strings
import Derived.Maps.RangeWalk
import Derived.Test.YtkkgocbecnefnaaMapFn
namespace Go.Proofs.Ytkkgocbecnefnaa.Tab
open Go.RowKit Go.Maps Go.Proofs.Ytkkgocbecnefnaa.MapFn
set_option linter.unusedVariables false
set_option linter.unusedSimpArgs false

structure Aside (p : Prop) : Prop where mk :: (out : p)
theorem laidOut : laidOutB Try.prog = true := by kernel_rfl
theorem K62 : Keyed Try.prog 77 := Keyed.of_law (deep_law_laid laidOut (m := 5) (by decide) (of_decide_eq_true (by kernel_rfl)) (by kernel_rfl) (by kernel_rfl))
theorem K9 : Keyed Try.prog 9 := string_keyed Try.underlying9
theorem key9 (s : ByteArray) (h : s.size ≤ maxLen) : keyOf Try.prog 9 (.string s) = some (.string s.data.toList) := Go.WideMaps.keyOf_string_mk Try.underlying9 h
/-- A key. -/
def kv (a b : Int) (s : ByteArray) : Value := .agg #[.int .i64 a, .int .i64 b, .string s]
theorem kv_inj {a b a' b' : Int} {s s' : ByteArray} (h : kv a b s = kv a' b' s') : a = a' ∧ b = b' ∧ s = s' := by
  simp only [kv, Value.agg.injEq] at h
  injection h with h
  simp at h
  exact h
theorem key_some {a b : Int} {s : ByteArray} (wa : (Lit.int .i64 a).wf = true) (wb : (Lit.int .i64 b).wf = true) (hs : s.size ≤ maxLen) : ∃ l, keyOf Try.prog 77 (kv a b s) = some l := by
  have hkt : Try.prog.keyType 77 = true := by kernel_rfl
  have hc : Try.prog.cellsOf 77 = 3 := by kernel_rfl
  have c3 : Try.prog.cellsOf 3 = 1 := by kernel_rfl
  have c9 : Try.prog.cellsOf 9 = 1 := by kernel_rfl
  have hn : ∃ m, Try.prog.types.size = m + 1 := ⟨Try.prog.types.size - 1, by kernel_rfl⟩
  obtain ⟨m, hm⟩ := hn
  unfold keyOf
  simp only [Try.underlying77]
  rw [if_pos (by simp [hkt, Value.formed, Try.underlying77, kv, hc]), hm]
  unfold Program.keyLits
  simp only [Try.underlying77, Value.cells, kv]
  simp [Program.keyLits, Try.underlying3, Try.underlying9, wa, wb, hs, hc, c3, c9]

/-- What stands at a key: nothing; a function; a closure over one function in a box. -/
def EntOk (w : World) (g : Nat) (x : DataW Value) (ok : Bool) : Option (Nat × Option Nat) → Prop
  | none => x = .held .nilFunc ∧ ok = false
  | some (c, none) => x = .held (.func (.func c) #[] #[]) ∧ ok = true
  | some (c, some h) => ok = true ∧ ∃ b, b ≠ g ∧ x = .held (.func (.func c) #[] #[.pointer (some ⟨b, 0, none⟩)]) ∧ w.cell? ⟨b, 0, none⟩ = some (.func (.func h) #[] #[])
abbrev St := Int → Int → List UInt8 → Option (Nat × Option Nat)
def Tab (w : World) (g n : Nat) (st : St) : Prop :=
  ∃ D, w.ownsMap Try.prog 77 RV g n D ∧ ∀ a b s l, keyOf Try.prog 77 (kv a b s) = some l → EntOk w g (D.atKey l (.held .nilFunc)) (Maps.has D l) (st a b s.data.toList)
def upd (st : St) (a b : Int) (s : List UInt8) (e : Nat × Option Nat) : St := fun a' b' s' => if a' = a ∧ b' = b ∧ s' = s then some e else st a' b' s'

theorem EntOk.kept {w w' : World} {g : Nat} {x : DataW Value} {ok : Bool} {e : Option (Nat × Option Nat)} (h : EntOk w g x ok e) (hg : w.grownBy w' (some g)) : EntOk w' g x ok e := by
  match e, h with
  | none, h => exact h
  | some (c, none), h => exact h
  | some (c, some f), ⟨h1, b, h2, h3, h4⟩ =>
    refine ⟨h1, b, h2, h3, ?_⟩
    have := hg.block b (World.block_lt_of_cell? w _ h4) (fun e => h2 (Option.some.inj e))
    simpa [World.cell?, this] using h4
theorem EntOk.kept2 {w w' : World} {g : Nat} {x : DataW Value} {ok : Bool} {e : Option (Nat × Option Nat)} (h : EntOk w g x ok e) (hc : ∀ (a : Addr) (v : Value), w.cell? a = some v → a.block ≠ g → w'.cell? a = some v) : EntOk w' g x ok e := by
  match e, h with
  | none, h => exact h
  | some (c, none), h => exact h
  | some (c, some f), ⟨h1, b, h2, h3, h4⟩ => exact ⟨h1, b, h2, h3, hc _ _ h4 h2⟩
theorem Tab.kept {w w' : World} {g n : Nat} {st : St} (h : Tab w g n st) {row : Option Nat} (hg : w.grownBy w' row) (hne : some g ≠ row) (hrow : ∀ r, row = some r → ∀ a : Addr, a.block = r → w.cell? a = none) : Tab w' g n st := by
  obtain ⟨D, h1, h2⟩ := h
  refine ⟨D, h1.kept hg hne, fun a b s l hl => (h2 a b s l hl).kept2 fun a v hv _ => ?_⟩
  have hb : some a.block ≠ row := fun e => by
    have := hrow a.block e.symm a rfl
    rw [hv] at this; cases this
  have := hg.block a.block (World.block_lt_of_cell? w a hv) hb
  simpa [World.cell?, this] using hv
theorem Tab.below {w w' : World} {g n : Nat} {st : St} (h : Tab w g n st) (hb : Below w.heap.size w w') : Tab w' g n st :=
  h.kept (row := none) ⟨hb.os, hb.tape, hb.output, hb.size, fun k hk _ => hb.block k hk⟩ (by simp) (by simp)
theorem Tab.lt {w : World} {g n : Nat} {st : St} (h : Tab w g n st) : g < w.heap.size := by obtain ⟨D, h1, _⟩ := h; exact h1.lt
theorem Tab.mono {w : World} {g n m : Nat} {st : St} (h : Tab w g n st) (hm : n ≤ m) : Tab w g m st := by obtain ⟨D, h1, h2⟩ := h; exact ⟨D, h1.mono hm, h2⟩
theorem Tab.alike {w : World} {g n : Nat} {st st' : St} (h : Tab w g n st) (he : ∀ a b s, st a b s = st' a b s) : Tab w g n st' := by
  have : st = st' := by funext a b s; exact he a b s
  rwa [← this]
theorem Tab.made (w : World) : Tab (w.alloc (.map #[] 0)) w.heap.size 0 (fun _ _ _ => none) :=
  ⟨_, World.ownsMap_made w Try.prog 77 RV, fun a b s l _ => ⟨rfl, rfl⟩⟩

section
variable (w : World) {ops : Array Oper} {rest : List Oper} {o : Oper} {act : Act} {Q : Exit → Act → World → Prop}
/-- A closure is put at a key. -/
theorem put_tab (hg : o.guard = none) (m x v : Operand) (hop : o.op = Op.mapUpdate 70 m x v) (g n : Nat) (st : St) (T : Tab w g n st) (hn : n < maxLen)
    (hm : act.eval m = .map (some g)) (a b : Int) (s : ByteArray) (e : Nat × Option Nat) (f : Value) (hx : act.eval x = kv a b s) (hv : act.eval v = f)
    (wa : (Lit.int .i64 a).wf = true) (wb : (Lit.int .i64 b).wf = true) (hs : s.size ≤ maxLen) (hf : EntOk w g (.held f) true (some e))
    (hK : ∀ w', Tab w' g (n + 1) (upd st a b s.data.toList e) → w.grownBy w' (some g) → wpList Try.prog ops Q rest (act.put o.dst undef) w') :
    wpList Try.prog ops Q (o :: rest) act w := by
  obtain ⟨D, hown, hst⟩ := T
  obtain ⟨l, hl⟩ := key_some wa wb hs
  refine update_held w hg m x v 70 hop 77 75 K62 Try.underlying70 g n D hm hown hn _ _ l hx hv hl ?_
  intro w' hown' hgr
  refine hK w' ⟨_, hown', fun a' b' s' l' hl' => ?_⟩ hgr
  by_cases he : a' = a ∧ b' = b ∧ s'.data.toList = s.data.toList
  · have hss : s' = s := by
      have := he.2.2
      cases s'; cases s
      simp only [ByteArray.mk.injEq]
      exact Array.toList_inj.1 this
    obtain ⟨rfl, rfl, _⟩ := he
    subst hss
    obtain rfl : l = l' := Option.some.inj (hl.symm.trans hl')
    have := at_same hown.isMap (K62.key hl) (.held f) (.held .nilFunc)
    rw [this.1, (at_same hown.isMap (K62.key hl) (.held f) .nil).2]
    simp only [upd, and_self, if_true]
    exact hf.kept hgr
  · have hne : l' ≠ l := by
      intro h
      subst h
      have := kv_inj (K62.inj hl' hl)
      exact he ⟨this.1, this.2.1, by rw [this.2.2]⟩
    rw [(at_other hne (.held f) (.held .nilFunc)).1, (at_other hne (.held f) .nil).2]
    simp only [upd, if_neg he]
    exact (hst a' b' s' l' hl').kept hgr
/-- What is looked up. -/
theorem look_tab (hg : o.guard = none) (m x : Operand) (hop : o.op = Op.lookup 70 m x true) (g n : Nat) (st : St) (T : Tab w g n st)
    (hm : act.eval m = .map (some g)) (a b : Int) (s : ByteArray) (hx : act.eval x = kv a b s) (wa : (Lit.int .i64 a).wf = true) (wb : (Lit.int .i64 b).wf = true) (hs : s.size ≤ maxLen)
    (hK : ∀ f ok, EntOk w g (.held f) ok (st a b s.data.toList) → wpList Try.prog ops Q rest (act.put o.dst (.tuple #[f, .bool ok])) w) :
    wpList Try.prog ops Q (o :: rest) act w := by
  obtain ⟨D, hown, hst⟩ := T
  obtain ⟨l, hl⟩ := key_some wa wb hs
  have h := hst a b s l hl
  have hz : (zeroValue 75).run Try.prog w = .ok .nilFunc w := by kernel_rfl
  have hex : ∃ f, D.atKey l (.held .nilFunc) = .held f := by
    match hq : st a b s.data.toList, h with
    | none, h => exact ⟨_, h.1⟩
    | some (c, none), h => exact ⟨_, h.1⟩
    | some (c, some f), ⟨h1, b, h2, h3, h4⟩ => exact ⟨_, h3⟩
  obtain ⟨f, hf⟩ := hex
  rw [hf] at h
  exact look_held w hg m x 70 hop 77 75 K62 Try.underlying70 hz g n D hm hown _ l hx hl f _ hf rfl (hK f _ h)
end
end Go.Proofs.Ytkkgocbecnefnaa.Tab
