/- Maps whose elements are function values: a store, a literal's store, a look-up, at the operation. -/
import Derived.Maps.OwnSet
import Derived.Maps.RangeWalk
import Derived.DeepKeys4
import Derived.Carry
namespace Go.Proofs.Ytkkgocbecnefnaa.MapFn
open Go.Maps

/-- An element is told as itself. -/
def RV (v : Value) : Option (DataW Value × List MemPlace) := some (.held v, [])

section
variable {P : Program} (w : World) {ops : Array Oper} {rest : List Oper} {o : Oper} {a : Act} {Q : Exit → Act → World → Prop}

/-- 'm{key: val}', one entry of a literal. -/
theorem insert_held (hg : o.guard = none) (m x v : Operand) (t : TypeId) (hop : o.op = Op.insert t m x v)
    (k e : TypeId) (K : Keyed P k) (ht : P.underlying t = some (.map k e)) (b n : Nat) (D : DataW Value)
    (hm : a.eval m = .map (some b)) (hown : w.ownsMap P k RV b n D) (hn : n < maxLen) (key val : Value) (kl : Lit) (hx : a.eval x = key) (hv : a.eval v = val) (hkey : keyOf P k key = some kl)
    (hK : ∀ w', w'.ownsMap P k RV b (n + 1) (D.put kl (.held val)) → w.grownBy w' (some b) → wpList P ops Q rest (a.put o.dst undef) w') :
    wpList P ops Q (o :: rest) a w := by
  refine wpList_plain hg fun K' hK' => ?_
  obtain ⟨w', hrun, r1, r2⟩ := hown.update (R := RV) (d := .held val) (ps := []) K ht hn hkey rfl
  unfold Oper.wp
  simp [execOp, hop, hm, hx, hv, hrun, Result.andThen]
  exact hK' _ _ (hK w' r1 r2)

/-- 'm[key] = val'. -/
theorem update_held (hg : o.guard = none) (m x v : Operand) (t : TypeId) (hop : o.op = Op.mapUpdate t m x v)
    (k e : TypeId) (K : Keyed P k) (ht : P.underlying t = some (.map k e)) (b n : Nat) (D : DataW Value)
    (hm : a.eval m = .map (some b)) (hown : w.ownsMap P k RV b n D) (hn : n < maxLen) (key val : Value) (kl : Lit) (hx : a.eval x = key) (hv : a.eval v = val) (hkey : keyOf P k key = some kl)
    (hK : ∀ w', w'.ownsMap P k RV b (n + 1) (D.put kl (.held val)) → w.grownBy w' (some b) → wpList P ops Q rest (a.put o.dst undef) w') :
    wpList P ops Q (o :: rest) a w := by
  refine wpList_plain hg fun K' hK' => ?_
  obtain ⟨w', hrun, r1, r2⟩ := hown.update (R := RV) (d := .held val) (ps := []) K ht hn hkey rfl
  unfold Oper.wp
  simp [execOp, hop, hm, hx, hv, hrun, Result.andThen]
  exact hK' _ _ (hK w' r1 r2)

/-- 'f, ok := m[key]': what is there, is said ahead. -/
theorem look_held (hg : o.guard = none) (m x : Operand) (t : TypeId) (hop : o.op = Op.lookup t m x true)
    (k e : TypeId) (K : Keyed P k) (ht : P.underlying t = some (.map k e)) {z : Value} (hz : (zeroValue e).run P w = .ok z w) (b n : Nat) (D : DataW Value)
    (hm : a.eval m = .map (some b)) (hown : w.ownsMap P k RV b n D) (key : Value) (kl : Lit) (hx : a.eval x = key) (hkey : keyOf P k key = some kl)
    (f : Value) (ok : Bool) (hat : D.atKey kl (.held z) = .held f) (hok : Maps.has D kl = ok)
    (hK : wpList P ops Q rest (a.put o.dst (.tuple #[f, .bool ok])) w) :
    wpList P ops Q (o :: rest) a w := by
  refine wpList_plain hg fun K' hK' => ?_
  obtain ⟨v, ps, hrun, hv⟩ := hown.look_ok (R := RV) (zd := .held z) (zp := []) K ht hz rfl hkey
  have hvf : v = f := by
    rw [hat] at hv
    simp only [RV, Option.some.injEq, Prod.mk.injEq, DataW.held.injEq] at hv
    exact hv.1
  subst hvf
  rw [hok] at hrun
  unfold Oper.wp
  simp [execOp, hop, hm, hx, hrun, Result.andThen]
  exact hK' _ _ hK
end

/-- What stands at a key behind a store there. -/
theorem at_same {D : DataW Value} (hD : IsMap D) {k : Lit} (hk : WideAt.IsKeyLit k) (d z : DataW Value) : (D.put k d).atKey k z = d ∧ Maps.has (D.put k d) k = true :=
  ⟨atKey_put_same hD hk d z, has_put_same hD hk d⟩
/-- .. and at another key. -/
theorem at_other {D : DataW Value} {k k' : Lit} (hne : k' ≠ k) (d z : DataW Value) : (D.put k d).atKey k' z = D.atKey k' z ∧ Maps.has (D.put k d) k' = Maps.has D k' :=
  ⟨atKey_put_other hne d z, has_put_other hne d⟩
theorem at_empty (k : Lit) (z : DataW Value) : (DataW.map (H := Value) []).atKey k z = z ∧ Maps.has (DataW.map (H := Value) []) k = false := ⟨rfl, rfl⟩

end Go.Proofs.Ytkkgocbecnefnaa.MapFn
