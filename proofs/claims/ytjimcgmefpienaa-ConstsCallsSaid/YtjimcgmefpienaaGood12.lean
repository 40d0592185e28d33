/- What is a constant: both tell the same; walked by their printed contracts. -/
import Derived.Test.YtjimcgmefpienaaPure12
namespace Go.Proofs.Ytjimcgmefpienaa.Good12
open Go.RowKit Go.Proofs.Ytjimcgmefpienaa.Plain Go.Proofs.Ytjimcgmefpienaa.Small Go.Proofs.Ytjimcgmefpienaa.PConstsCalls Go.Proofs.Ytjimcgmefpienaa.Pure12 Go.Proofs.YtjimcgmefpienaaW.PrintWords Go.Proofs.YtjimcgmefpienaaW.PrintLast Go.Proofs.YtjimcgmefpienaaW.PrintMore
set_option linter.unusedVariables false
set_option linter.unusedSimpArgs false

theorem scan (s : ByteArray) (f n : Int) (hs : s.size ≤ 9223372036854775807) : ∀ (d k i : Nat), i + d = s.size → d < k →
    ∃ g, consts_Good.l0 k (s.size : Int) i f n s = some g ∧ spinetref09_String.l0 k s i = some g := by
  intro d
  induction d with
  | zero =>
    intro k i hi hk
    obtain ⟨k, rfl⟩ : ∃ j, k = j + 1 := ⟨k - 1, by omega⟩
    refine ⟨true, ?_, ?_⟩
    · simp only [consts_Good.l0]; rw [if_neg (by omega)]
    · simp only [spinetref09_String.l0]; rw [if_neg (by omega)]
  | succ d ih =>
    intro k i hi hk
    obtain ⟨k, rfl⟩ : ∃ j, k = j + 1 := ⟨k - 1, by omega⟩
    obtain ⟨g, h1, h2⟩ := ih k (i + 1) (by omega) (by omega)
    have e : wrap64 ((i : Int) + 1) = ((i + 1 : Nat) : Int) := by rw [w64 (by omega) (by omega)]; omega
    simp only [consts_Good.l0, spinetref09_String.l0]
    have hlt : i < s.size := by omega
    rw [e, h1, h2]
    by_cases c1 : bt s i < 32
    · exact ⟨false, by simp [hlt, c1], by simp [hlt, c1]⟩
    · by_cases c2 : bt s i = 34
      · exact ⟨false, by simp [hlt, c2], by simp [hlt, c2]⟩
      · exact ⟨g, by simp [hlt, c1, c2], by simp [hlt, c1, c2]⟩
theorem string_le (s : ByteArray) (k : Nat) (g : Bool) (h : spinetref09_String.f k s = some g) (hg : g = true) : s.size ≤ 64 := by
  unfold spinetref09_String.f at h
  by_cases c : (s.size : Int) > 64
  · rw [if_pos c] at h; subst hg; cases h
  · omega
theorem fits_ge (v : Int) : ∀ d : Nat, spinetref01_Fits.f (39 + d) v 32 = some (decide (v ≥ -2147483648) && decide (v < 2147483648)) := by
  intro d
  induction d with
  | zero => exact fits_of v
  | succ d ih => exact spinetref01_Fits.mono v 32 (39 + d) _ ih
theorem fits_k (v : Int) (k : Nat) (hk : 39 ≤ k) : spinetref01_Fits.f k v 32 = some (decide (v ≥ -2147483648) && decide (v < 2147483648)) := by
  have := fits_ge v (k - 39)
  rwa [show 39 + (k - 39) = k by omega] at this
theorem e0_of {t : ByteArray} (h : t.toList = []) : t = E0 := by
  rw [Lib.toList_data] at h
  cases t with
  | mk d => cases d with
    | mk l => simp at h; subst h; rfl
/-- What is known of a constant. -/
structure Facts (f n : Int) (t : ByteArray) : Prop where
  form : 1 ≤ f ∧ f ≤ 6
  int : f = 1 → -2147483648 ≤ n ∧ n < 2147483648
  bool : f = 2 → n = 0 ∨ n = 1
  char : f = 3 → 0 ≤ n ∧ n < 256
  set : f = 4 → 0 ≤ n ∧ n < 4294967296
  zero : f = 5 ∨ f = 6 → n = 0
  text : f ≠ 6 → t = E0
  small : t.size ≤ 64
theorem good_pure (f n : Int) (t : ByteArray) (n0 : -9223372036854775808 ≤ n) (n1 : n ≤ 9223372036854775807) (hs : t.size ≤ 9223372036854775807) :
    ∃ (k : Nat) (g : Bool), consts_Good.f k f n t = some g ∧ spinetref12_Good.f k f n t = some g ∧ (g = true → Facts f n t) := by
  refine ⟨t.size + 100, ?_⟩
  unfold consts_Good.f spinetref12_Good.f
  by_cases h6 : f = 6
  · subst h6
    rw [if_pos rfl, if_pos rfl]
    obtain ⟨g, h1, h2⟩ := scan t 6 n hs t.size (t.size + 98) 0 (by omega) (by omega)
    have h2' := spinetref09_String.mono_l (t.size + 98) t 0 g h2
    by_cases hn : n = 0
    · subst hn
      rw [if_pos rfl]
      by_cases hl : (t.size : Int) > 64
      · refine ⟨false, ?_, ?_, fun h => by cases h⟩
        · simp [consts_Good.j0, hl]
        · simp [spinetref12_Good.j0, spinetref09_String.f, hl]
      · refine ⟨g, ?_, ?_, fun _ => ⟨by decide, by omega, by omega, by omega, by omega, fun _ => rfl, fun h => absurd rfl h, by omega⟩⟩
        · simp only [consts_Good.j0]
          rw [if_neg (by simpa using hl)]
          exact consts_Good.mono_l (t.size + 98) |>.2 _ _ _ _ _ g h1
        · simp only [spinetref12_Good.j0]
          simp only [Bool.false_eq_true, if_false, if_true, spinetref09_String.f, if_neg hl]
          have h2'' : spinetref09_String.l0 (t.size + 99) t 0 = some g := h2'
          simp [h2'']
    · refine ⟨false, ?_, ?_, fun h => by cases h⟩
      · rw [if_neg hn]; simp [consts_Good.j0]
      · simp [spinetref12_Good.j0, hn]
  · rw [if_neg h6, if_neg h6]
    by_cases ht : t.toList = []
    · rw [if_pos ht]
      have hE := e0_of ht
      subst hE
      have hz : E0.size = 0 := rfl
      have hne : ((E0.toList != ([] : List UInt8))) = false := by rw [ht]; rfl
      rw [hne]
      have hsm : E0.size ≤ 64 := by decide
      by_cases h1 : f = 1
      · subst h1
        refine ⟨decide (n ≥ -2147483648) && decide (n < 2147483648), ?_, ?_, fun h => ?_⟩
        · simp only [if_true]
          rw [bits_Fits.at32]; rfl
        · have := fits_k n (E0.size + 99) (by omega)
          simp only [spinetref12_Good.j0]
          simp [this]
        · simp at h
          exact ⟨by decide, fun _ => ⟨h.1, h.2⟩, by omega, by omega, by omega, by omega, fun _ => rfl, hsm⟩
      · by_cases h2 : f = 2
        · subst h2
          by_cases hn : n = 0
          · subst hn
            exact ⟨true, by simp, by simp [spinetref12_Good.j0], fun _ => ⟨by decide, by omega, fun _ => Or.inl rfl, by omega, by omega, by omega, fun _ => rfl, hsm⟩⟩
          · refine ⟨n == 1, by simp [hn], by simp [spinetref12_Good.j0, hn], fun h => ?_⟩
            have : n = 1 := by simpa using h
            exact ⟨by decide, by omega, fun _ => Or.inr this, by omega, by omega, by omega, fun _ => rfl, hsm⟩
        · by_cases h3 : f = 3
          · subst h3
            by_cases hn : 0 ≤ n ∧ n < 256
            · exact ⟨true, by simp; omega, by simp [spinetref12_Good.j0, hn.1, hn.2], fun _ => ⟨by decide, by omega, by omega, fun _ => hn, by omega, by omega, fun _ => rfl, hsm⟩⟩
            · refine ⟨false, by simp; omega, ?_, fun h => by cases h⟩
              simp only [spinetref12_Good.j0]
              by_cases h0 : n ≥ 0
              · simp [h0]; omega
              · simp [h0]
          · by_cases h4 : f = 4
            · subst h4
              by_cases hn : 0 ≤ n ∧ n < 4294967296
              · exact ⟨true, by simp; omega, by simp [spinetref12_Good.j0, hn.1, hn.2], fun _ => ⟨by decide, by omega, by omega, by omega, fun _ => hn, by omega, fun _ => rfl, hsm⟩⟩
              · refine ⟨false, by simp; omega, ?_, fun h => by cases h⟩
                simp only [spinetref12_Good.j0]
                by_cases h0 : n ≥ 0
                · simp [h0]; omega
                · simp [h0]
            · by_cases h5 : f = 5
              · subst h5
                refine ⟨n == 0, by simp, by simp [spinetref12_Good.j0], fun h => ?_⟩
                have : n = 0 := by simpa using h
                exact ⟨by decide, by omega, by omega, by omega, by omega, fun _ => this, fun _ => rfl, hsm⟩
              · exact ⟨false, by simp [h1, h2, h3, h4, h5], by simp [spinetref12_Good.j0, h1, h2, h3, h4, h5, h6], fun h => by cases h⟩
    · rw [if_neg ht]
      have hne : ((t.toList != ([] : List UInt8))) = true := by simpa using ht
      rw [hne]
      exact ⟨false, rfl, by simp [spinetref12_Good.j0], fun h => by cases h⟩
/-- The same of the two functions. -/
theorem good_both (f n : Int) (t : ByteArray) (n0 : -9223372036854775808 ≤ n) (n1 : n ≤ 9223372036854775807) (hs : t.size ≤ 9223372036854775807) :
    ∃ g : Bool, (∀ W, Calls Try.prog 20 #[V f n t] W fun e w' => e = .returned (.bool g) ∧ Below W.heap.size W w') ∧
      (∀ W, Calls Try.prog 21 #[V f n t] W fun e w' => e = .returned (.bool g) ∧ Below W.heap.size W w') ∧ (g = true → Facts f n t) := by
  obtain ⟨k, g, h1, h2, h3⟩ := good_pure f n t n0 n1 hs
  exact ⟨g, fun W => consts_Good.calls k f n t g W h1, fun W => spinetref12_Good.calls k f n t g W h2, h3⟩
end Go.Proofs.Ytjimcgmefpienaa.Good12
