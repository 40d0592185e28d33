/- The standard functions of constants: both tell the same: no Go in sight. -/
import Derived.Test.YtjimcgmefpienaaPureBits12
import Derived.Test.YtjimcgmefpienaaGood12
import Derived.Test.YtjimcgmefpienaaRef12d
import Derived.Test.YtjimcgmefpienaaConstsChar
namespace Go.Proofs.Ytjimcgmefpienaa.CallsPure
open Go.RowKit Go.Proofs.Ytjimcgmefpienaa.Plain Go.Proofs.Ytjimcgmefpienaa.Small Go.Proofs.Ytjimcgmefpienaa.Rels Go.Proofs.Ytjimcgmefpienaa.Good12 Go.Proofs.Ytjimcgmefpienaa.PConstsCalls Go.Proofs.Ytjimcgmefpienaa.Pure12 Go.Proofs.YtjimcgmefpienaaW.PrintWords Go.Proofs.YtjimcgmefpienaaW.PrintLast Go.Proofs.YtjimcgmefpienaaW.PrintMore
set_option linter.unusedVariables false
set_option linter.unusedSimpArgs false

/-- A number and a form, in the document's shape. -/
abbrev R4 (r : Int × Int × Int) : Option (Int × Int × ByteArray × Int) := some (r.1, r.2.1, (⟨#[]⟩ : ByteArray), r.2.2)
theorem truth_eq (b : Bool) : spinetref12_truth.f b = R4 (2, tr b, 0) := by cases b <;> rfl
theorem truth_eqP (b : Bool) : (consts_truth.f b).bind (fun bt => some (bt.1, bt.2.1, bt.2.2, (0 : Int))) = R4 (2, tr b, 0) := by cases b <;> rfl
theorem integer_k (k : Nat) (n : Int) (hk : 39 ≤ k) : spinetref12_integer.f k n = R4 (fitsR n) := by
  unfold spinetref12_integer.f fitsR
  rw [fits_k n k hk]
  by_cases h1 : -2147483648 ≤ n <;> by_cases h2 : n < 2147483648 <;> simp [h1, h2, R4]
theorem fits_eq (n : Int) : consts_fits.f n = R4 (fitsR n) := by
  unfold consts_fits.f fitsR
  rw [bits_Fits.at32]
  by_cases h1 : -2147483648 ≤ n <;> by_cases h2 : n < 2147483648 <;> simp [h1, h2, R4, consts_number.f]
theorem none_eq : spinetref12_none.f = R4 (0, 0, 120) := rfl
theorem bind_R4 (r : Int × Int × Int) : ((R4 r).bind fun bt => some (bt.1, bt.2.1, bt.2.2.1, bt.2.2.2)) = R4 r := rfl
theorem fitsR_in (n : Int) (h0 : -2147483648 ≤ n) (h1 : n < 2147483648) : fitsR n = (1, n, 0) := by unfold fitsR; rw [if_pos ⟨h0, h1⟩]
theorem bt_one {t : ByteArray} (h : t.size = 1) : wrap64 (bt t 0) = byte0 t := by
  obtain ⟨⟨l⟩⟩ := t
  have hl : l.length = 1 := h
  obtain ⟨b, rfl⟩ := List.length_eq_one_iff.1 hl
  have hb := b.toNat_lt
  have e : bt (ByteArray.mk ⟨[b]⟩) 0 = (b.toNat : Int) := by simp [bt]; rfl
  rw [e, w64 (by omega) (by omega)]
  rfl
theorem char_eq (f n : Int) (t : ByteArray) : spinetref12_Char.f f n t = some (charR f n t) := by
  unfold spinetref12_Char.f charR
  by_cases h6 : f = 6
  · rw [if_pos h6]
    by_cases h1 : t.size = 1
    · rw [if_pos (by omega), if_pos (by omega), if_pos ⟨h6, h1⟩, bt_one h1]
    · rw [if_neg (by omega), if_neg (fun h => h1 h.2)]
  · rw [if_neg h6, if_neg (fun h => h6 h.1)]
theorem char_eqP (f n : Int) (t : ByteArray) : consts_char.f f n t = some (charR f n t) := by
  unfold consts_char.f charR
  by_cases h6 : f = 6
  · rw [if_pos h6]
    by_cases h1 : t.size = 1
    · rw [if_pos (by omega), if_pos (by omega), if_pos ⟨h6, h1⟩, bt_one h1]
    · rw [if_neg (by omega), if_neg (fun h => h1 h.2)]
  · rw [if_neg h6, if_neg (fun h => h6 h.1)]
theorem facts_char {f n : Int} {t : ByteArray} (F : Facts f n t) : Facts (charR f n t).1 (charR f n t).2.1 (charR f n t).2.2 := by
  unfold charR
  by_cases h : f = 6 ∧ t.size = 1
  · rw [if_pos h]
    have hb : 0 ≤ byte0 t ∧ byte0 t < 256 := by
      unfold byte0
      have := (t.data.toList.headD 0).toNat_lt
      omega
    show Facts 3 (byte0 t) E0
    exact ⟨by omega, by omega, by omega, fun _ => hb, by omega, by omega, fun _ => rfl, by decide⟩
  · rw [if_neg h]; exact F
theorem odd_eq (n : Int) (h0 : -2147483648 ≤ n) (h1 : n < 2147483648) : (Go.bits .and .i64 n 1 == 1) = (Int.tmod n 2 != 0) := by
  have e : Go.bits .and .i64 n 1 = n % 2 := by
    show IntKind.i64.wrap ((BitVec.ofInt 64 n &&& BitVec.ofInt 64 1).toNat : Int) = _
    have e1 : (BitVec.ofInt 64 1).toNat = 1 := by decide
    rw [BitVec.toNat_and, e1, BitVec.toNat_ofInt, Nat.and_one_is_mod, i64_w]
    rw [w64 (by omega) (by omega)]
    omega
  rw [e]
  have hm := Int.emod_two_eq n
  by_cases h : n % 2 = 1
  · have : Int.tmod n 2 ≠ 0 := by
      intro hz
      have := Int.emod_eq_zero_of_dvd (Int.dvd_of_tmod_eq_zero hz)
      omega
    simp [h, this]
  · have h0 : n % 2 = 0 := by omega
    have : Int.tmod n 2 = 0 := Int.tmod_eq_zero_of_dvd (Int.dvd_of_emod_eq_zero h0)
    simp [h0, this]
theorem signedP (x : Int) : bits_Signed.f x = some (wrap32 x) := by
  unfold bits_Signed.f; rw [w32w]
theorem lslk (b n : Int) (b0 : 0 ≤ b) (b1 : b < 4294967296) (n0 : 0 ≤ n) : ∀ d, spinetref01_Lsl.f (39 + d) b n = some ((b * 2 ^ (n % 32).toNat) % 4294967296) := by
  intro d
  induction d with
  | zero => exact rlsl_of b n b0 b1 n0
  | succ d ih => exact spinetref01_Lsl.mono b n (39 + d) _ ih
theorem asrk (b n : Int) (b0 : 0 ≤ b) (b1 : b < 4294967296) (n0 : 0 ≤ n) : ∀ d, spinetref01_Asr.f (39 + d) b n = some ((wrap32 b / 2 ^ (n % 32).toNat) % 4294967296) := by
  intro d
  induction d with
  | zero => exact rasr_of b n b0 b1 n0
  | succ d ih => exact spinetref01_Asr.mono b n (39 + d) _ ih
theorem rork (b n : Int) (b0 : 0 ≤ b) (b1 : b < 4294967296) (n0 : 0 ≤ n) : ∀ d, spinetref01_Ror.f (39 + d) b n = some (b / 2 ^ (n % 32).toNat + b % 2 ^ (n % 32).toNat * 2 ^ (32 - (n % 32).toNat)) := by
  intro d
  induction d with
  | zero => exact rror_of b n b0 b1 n0
  | succ d ih => exact spinetref01_Ror.mono b n (39 + d) _ ih
/-- A word moved, as a number: of the program and of the document. -/
theorem number_word (k : Nat) (x : Int) (hk : 39 ≤ k) (x0 : 0 ≤ x) (x1 : x < 4294967296) :
    ((bits_Signed.f x).bind fun t => (consts_number.f t).bind fun bt => some (bt.1, bt.2.1, bt.2.2, (0 : Int))) = R4 (1, wrap32 x, 0) ∧
    ((spinetref01_Signed.f x).bind fun t => (spinetref12_integer.f k t).bind fun bt => some (bt.1, bt.2.1, bt.2.2.1, bt.2.2.2)) = R4 (1, wrap32 x, 0) := by
  have hb := w32b x
  constructor
  · rw [signedP]; rfl
  · rw [signed_of x x0 x1]
    simp only [Option.bind_some]
    rw [integer_k k _ hk, fitsR_in _ hb.1 hb.2]; rfl
/-- One value. -/
theorem call_one (k1 k2 : Nat) (name : ByteArray) (e : S23) (F : Facts e.f0 e.f1 e.f2) :
    ∃ r : Int × Int × Int, consts_call.f (k1 + 1) name e.f0 e.f1 e.f2 = R4 r ∧ spinetref12_Call.j2 (k2 + 60) name [e] = R4 r := by
  have F0 := F.form
  have ej : spinetref12_Call.j2 (k2 + 60) name [e] = if name.toList = [65, 66, 83] then spinetref12_Call.j3 (k2 + 59) name (e.f0 == 1) e.f0 e.f1 e.f2 else spinetref12_Call.j3 (k2 + 59) name false e.f0 e.f1 e.f2 := by
    simp only [spinetref12_Call.j2, List.length_cons, List.length_nil, show rd_T23 [e] 0 = e from rfl]
    simp only [show ((0 + 1 : Nat) : Int) = 1 from rfl, if_true, show (0 : Int) < 1 from by decide]
  rw [ej]
  unfold consts_call.f
  by_cases hA : name.toList = [65, 66, 83]
  · rw [if_pos hA, if_pos hA]
    by_cases h1 : e.f0 = 1
    · refine ⟨fitsR (mx e.f1 (wrap64 (-e.f1))), ?_, ?_⟩
      · rw [if_pos h1, fits_eq]; rfl
      · simp only [spinetref12_Call.j3, h1, if_true, show ((1 : Int) == 1) = true from rfl]
        rw [integer_k _ _ (by omega)]; rfl
    · have h1b : (e.f0 == 1) = false := beq_eq_false_iff_ne.2 h1
      exact ⟨(0, 0, 120), by simp [h1], by simp [spinetref12_Call.j3, spinetref12_Call.j4, spinetref12_Call.j6, h1, h1b, hA, none_eq, R4]⟩
  · rw [if_neg hA, if_neg hA]
    by_cases hO : name.toList = [79, 68, 68]
    · rw [if_pos hO]
      by_cases h1 : e.f0 = 1
      · have hi := F.int h1
        refine ⟨(2, tr (Int.tmod e.f1 2 != 0), 0), ?_, ?_⟩
        · rw [if_pos h1, truth_eqP, odd_eq _ hi.1 hi.2]
        · simp only [spinetref12_Call.j3, spinetref12_Call.j4, h1, hO, if_true, Bool.false_eq_true, if_false, show ((1 : Int) == 1) = true from rfl]
          rw [truth_eq, bind_R4]
      · have h1b : (e.f0 == 1) = false := beq_eq_false_iff_ne.2 h1
        exact ⟨(0, 0, 120), by simp [h1], by simp [spinetref12_Call.j3, spinetref12_Call.j4, spinetref12_Call.j6, h1, h1b, hO, none_eq, R4]⟩
    · rw [if_neg hO]
      by_cases hC : name.toList = [67, 72, 82]
      · rw [if_pos hC]
        by_cases h1 : e.f0 = 1
        · by_cases h0 : e.f1 < 0 ∨ e.f1 > 255
          · refine ⟨(0, 0, 91), ?_, ?_⟩
            · rcases h0 with h0 | h0
              · simp [h1, h0]
              · by_cases hn : e.f1 < 0 <;> simp [h1, h0, hn]
            · rcases h0 with h0 | h0
              · simp [spinetref12_Call.j3, spinetref12_Call.j4, spinetref12_Call.j6, h1, hC, h0]
              · by_cases hn : e.f1 < 0 <;> simp [spinetref12_Call.j3, spinetref12_Call.j4, spinetref12_Call.j6, h1, hC, h0, hn]
          · have a1 : ¬ e.f1 < 0 := fun h => h0 (Or.inl h)
            have a2 : ¬ e.f1 > 255 := fun h => h0 (Or.inr h)
            exact ⟨(3, e.f1, 0), by simp [h1, a1, a2], by simp [spinetref12_Call.j3, spinetref12_Call.j4, spinetref12_Call.j6, h1, hC, a1, a2]⟩
        · have h1b : (e.f0 == 1) = false := beq_eq_false_iff_ne.2 h1
          exact ⟨(0, 0, 120), by simp [h1], by simp [spinetref12_Call.j3, spinetref12_Call.j4, spinetref12_Call.j6, h1, h1b, hC, none_eq, R4]⟩
      · rw [if_neg hC]
        by_cases hR : name.toList = [79, 82, 68]
        · rw [if_pos hR]
          simp only [spinetref12_Call.j3, spinetref12_Call.j4, hO, hR, if_true, Bool.false_eq_true, if_false]
          rw [char_eqP, char_eq]
          simp only [Option.bind_some]
          have G := facts_char F
          generalize (charR e.f0 e.f1 e.f2).1 = f at *
          generalize (charR e.f0 e.f1 e.f2).2.1 = n at *
          generalize (charR e.f0 e.f1 e.f2).2.2 = t at *
          by_cases h3 : f = 3
          · have hc := G.char h3
            subst h3
            exact ⟨(1, n, 0), by simp [consts_call.j0, consts_number.f], by simp [spinetref12_Call.j5, integer_k _ _ (show 39 ≤ k2 + 56 by omega), fitsR_in n (by omega) (by omega), R4]⟩
          · rw [if_neg h3, if_neg h3]
            by_cases h2 : f = 2
            · have hc := G.bool h2
              subst h2
              exact ⟨(1, n, 0), by simp [consts_call.j0, consts_number.f], by simp [spinetref12_Call.j5, integer_k _ _ (show 39 ≤ k2 + 56 by omega), fitsR_in n (by omega) (by omega), R4]⟩
            · have h2b : (f == 2) = false := beq_eq_false_iff_ne.2 h2
              simp only [consts_call.j0, spinetref12_Call.j5, h2b, Bool.false_eq_true, if_false]
              by_cases h4 : f = 4
              · rw [if_pos h4, if_pos h4]
                have hw := number_word (k2 + 56) (n % 4294967296) (by omega) (by omega) (by omega)
                exact ⟨_, hw.1, hw.2⟩
              · rw [if_neg h4, if_neg h4]
                exact ⟨(0, 0, 120), rfl, rfl⟩
        · rw [if_neg hR]
          exact ⟨(0, 0, 120), rfl, by simp [spinetref12_Call.j3, spinetref12_Call.j4, spinetref12_Call.j6, hA, hO, hC, hR, none_eq, R4]⟩
/-- Two values: a number, moved. -/
theorem call_two (k : Nat) (name : ByteArray) (a b : S23) (x : Bool) (hb : ∀ v : Int, (v = a.f1 ∨ v = b.f1) → -9223372036854775808 ≤ v ∧ v ≤ 9223372036854775807) :
    ∃ r : Int × Int × Int, consts_Call.j1 (k + 60) name [a, b] x = R4 r ∧ spinetref12_Call.j1 (k + 60) name [a, b] x = R4 r := by
  have e0 : rd_T23 [a, b] 0 = a := rfl
  have e1 : rd_T23 [a, b] 1 = b := rfl
  have hlen : (([a, b] : List S23).length : Int) = 2 := rfl
  have hj2 : ∀ m, spinetref12_Call.j2 (m + 1) name [a, b] = R4 (0, 0, 120) := by
    intro m
    simp only [spinetref12_Call.j2, hlen]
    rw [if_neg (by decide), none_eq, bind_R4]
  simp only [consts_Call.j1, spinetref12_Call.j1]
  cases x
  · simp only [Bool.false_eq_true, if_false]
    rw [hj2 (k + 58)]
    exact ⟨(0, 0, 120), rfl, rfl⟩
  · have wP : ∀ v, bits_Word.f v = some (v % 4294967296) := fun v => rfl
    have ha := hb a.f1 (Or.inl rfl)
    have hbb := hb b.f1 (Or.inr rfl)
    simp only [if_true, hlen, e0, e1, show (0 : Int) < 2 from by decide, show (1 : Int) < 2 from by decide]
    rw [wP, wP, word_of a.f1 ha.1 ha.2, word_of b.f1 hbb.1 hbb.2]
    simp only [Option.bind_some]
    have p0 : 0 ≤ a.f1 % 4294967296 := by omega
    have p1 : a.f1 % 4294967296 < 4294967296 := by omega
    have q0 : 0 ≤ b.f1 % 4294967296 := by omega
    generalize a.f1 % 4294967296 = u at *
    generalize b.f1 % 4294967296 = v at *
    unfold consts_shift.f
    by_cases hL : name.toList = [76, 83, 76]
    · rw [if_pos hL, if_pos hL, lsl_of u v q0, show k + 59 = 39 + (k + 20) by omega, lslk u v p0 p1 q0 (k + 20)]
      simp only [Option.bind_some]
      have hw := number_word (39 + (k + 20)) (u * 2 ^ (v % 32).toNat % 4294967296) (by omega) (by omega) (by omega)
      rw [hw.2, hw.1]
      exact ⟨_, rfl, rfl⟩
    · rw [if_neg hL, if_neg hL]
      by_cases hA : name.toList = [65, 83, 82]
      · rw [if_pos hA, if_pos hA, asr_of u v q0, show k + 59 = 39 + (k + 20) by omega, asrk u v p0 p1 q0 (k + 20)]
        simp only [Option.bind_some]
        have hw := number_word (39 + (k + 20)) (wrap32 u / 2 ^ (v % 32).toNat % 4294967296) (by omega) (by omega) (by omega)
        rw [hw.2, hw.1]
        exact ⟨_, rfl, rfl⟩
      · rw [if_neg hA, if_neg hA]
        by_cases hR : name.toList = [82, 79, 82]
        · have hx := ror_bound u (v % 32).toNat (by omega) p0 p1
          rw [if_pos hR, if_pos hR, ror_of u v p0 p1 q0, show k + 59 = 39 + (k + 20) by omega, rork u v p0 p1 q0 (k + 20)]
          simp only [Option.bind_some]
          have hw := number_word (39 + (k + 20)) (u / 2 ^ (v % 32).toNat + u % 2 ^ (v % 32).toNat * 2 ^ (32 - (v % 32).toNat)) (by omega) (by omega) (by omega)
          rw [hw.2, hw.1]
          exact ⟨_, rfl, rfl⟩
        · rw [if_neg hR, if_neg hR, show k + 59 = (k + 58) + 1 by omega, hj2 (k + 58)]
          exact ⟨(0, 0, 120), rfl, rfl⟩
/-- Which of the values are constants, for all rounds from some number on. -/
theorem goods : ∀ l : List S23, (∀ e ∈ l, (-9223372036854775808 ≤ e.f1 ∧ e.f1 ≤ 9223372036854775807) ∧ e.f2.size ≤ 9223372036854775807) →
    ∃ (B : Nat) (g : Nat → Bool), ∀ i, i < l.length → (∀ k, B ≤ k → consts_Good.f k (rd_T23 l i).f0 (rd_T23 l i).f1 (rd_T23 l i).f2 = some (g i) ∧ spinetref12_Good.f k (rd_T23 l i).f0 (rd_T23 l i).f1 (rd_T23 l i).f2 = some (g i)) ∧
      (g i = true → Facts (rd_T23 l i).f0 (rd_T23 l i).f1 (rd_T23 l i).f2) := by
  intro l
  induction l with
  | nil => exact fun _ => ⟨0, fun _ => false, fun i hi => by simp at hi⟩
  | cons e l ih =>
    intro h
    obtain ⟨B, g, hg⟩ := ih (fun x hx => h x (List.mem_cons_of_mem _ hx))
    have he := h e (List.mem_cons_self ..)
    obtain ⟨k0, g0, h1, h2, h3⟩ := good_pure e.f0 e.f1 e.f2 he.1.1 he.1.2 he.2
    have m1 : ∀ d, consts_Good.f (k0 + d) e.f0 e.f1 e.f2 = some g0 := by
      intro d
      induction d with
      | zero => exact h1
      | succ d ih => exact consts_Good.mono _ _ _ (k0 + d) g0 ih
    have m2 : ∀ d, spinetref12_Good.f (k0 + d) e.f0 e.f1 e.f2 = some g0 := by
      intro d
      induction d with
      | zero => exact h2
      | succ d ih => exact spinetref12_Good.mono _ _ _ (k0 + d) g0 ih
    refine ⟨B + k0, fun i => if i = 0 then g0 else g (i - 1), fun i hi => ?_⟩
    match i, hi with
    | 0, _ =>
      have er : rd_T23 (e :: l) ((0 : Nat) : Int) = e := rfl
      rw [er]
      refine ⟨fun k hk => ?_, fun h => h3 (by simpa using h)⟩
      have a1 := m1 (k - k0)
      have a2 := m2 (k - k0)
      rw [show k0 + (k - k0) = k by omega] at a1 a2
      exact ⟨by simpa using a1, by simpa using a2⟩
    | i + 1, hi =>
      have er : rd_T23 (e :: l) ((i + 1 : Nat) : Int) = rd_T23 l (i : Int) := by
        unfold rd_T23
        rw [Int.toNat_natCast, Int.toNat_natCast]
        rfl
      rw [er]
      have := hg i (by simpa using hi)
      exact ⟨fun k hk => by simpa using this.1 k (by omega), fun h => this.2 (by simpa using h)⟩
theorem calls_pure (name : ByteArray) (l : List S23) (hl : l.length ≤ 100) (h : ∀ e ∈ l, (-9223372036854775808 ≤ e.f1 ∧ e.f1 ≤ 9223372036854775807) ∧ e.f2.size ≤ 9223372036854775807) :
    ∃ (k : Nat) (r : Int × Int × ByteArray × Int), consts_Call.f k name l = some r ∧ spinetref12_Call.f k name l = some r := by
  obtain ⟨B, g, hg⟩ := goods l h
  have step : ∀ d i : Nat, i + d = l.length →
      ((∀ j, i ≤ j → j < l.length → g j = true) → consts_Call.l0 (B + 100 + d) name l l (l.length : Int) i = consts_Call.l0 (B + 100) name l l (l.length : Int) (l.length : Int) ∧ spinetref12_Call.l0 (B + 100 + d) name l i = spinetref12_Call.l0 (B + 100) name l (l.length : Int)) ∧
      ((∃ j, i ≤ j ∧ j < l.length ∧ g j = false) → consts_Call.l0 (B + 100 + d) name l l (l.length : Int) i = R4 (0, 0, 120) ∧ spinetref12_Call.l0 (B + 100 + d) name l i = R4 (0, 0, 120)) := by
    intro d
    induction d with
    | zero =>
      intro i hi
      obtain rfl : i = l.length := by omega
      exact ⟨fun _ => ⟨rfl, rfl⟩, fun ⟨j, h1, h2, _⟩ => by omega⟩
    | succ d ih =>
      intro i hi
      have hi' : i < l.length := by omega
      obtain ⟨hk, _⟩ := hg i hi'
      have hk' := hk (B + 100 + d) (by omega)
      have e1 : wrap64 ((i : Int) + 1) = ((i + 1 : Nat) : Int) := by rw [w64 (by omega) (by omega)]; omega
      have ih' := ih (i + 1) (by omega)
      have s1 : consts_Call.l0 (B + 100 + (d + 1)) name l l (l.length : Int) i = if g i = true then consts_Call.l0 (B + 100 + d) name l l (l.length : Int) ((i + 1 : Nat) : Int) else R4 (0, 0, 120) := by
        rw [show B + 100 + (d + 1) = (B + 100 + d) + 1 by omega]
        simp only [consts_Call.l0]
        rw [if_pos (by omega), if_pos (by omega), if_pos (by omega), hk'.1, e1]
        rfl
      have s2 : spinetref12_Call.l0 (B + 100 + (d + 1)) name l i = if g i = true then spinetref12_Call.l0 (B + 100 + d) name l ((i + 1 : Nat) : Int) else R4 (0, 0, 120) := by
        rw [show B + 100 + (d + 1) = (B + 100 + d) + 1 by omega]
        simp only [spinetref12_Call.l0]
        rw [if_pos (by omega), if_pos (by omega), hk'.2, e1, none_eq]
        rfl
      rw [s1, s2]
      cases hgi : g i
      · simp only [Bool.false_eq_true, if_false]
        exact ⟨fun h => absurd (h i (Nat.le_refl _) hi') (by rw [hgi]; simp), fun _ => ⟨trivial, trivial⟩⟩
      · simp only [if_true]
        refine ⟨fun h => ih'.1 (fun j h1 h2 => h j (by omega) h2), fun ⟨j, h1, h2, h3⟩ => ih'.2 ⟨j, ?_, h2, h3⟩⟩
        rcases Nat.lt_or_ge i j with h4 | h4
        · exact h4
        · obtain rfl : j = i := by omega
          rw [hgi] at h3; cases h3
  have st := step l.length 0 (by omega)
  refine ⟨B + 100 + l.length, ?_⟩
  unfold consts_Call.f spinetref12_Call.f
  by_cases hall : ∀ j, 0 ≤ j → j < l.length → g j = true
  · have st1 := st.1 hall
    have c0 : ((0 : Nat) : Int) = 0 := rfl
    rw [c0] at st1
    rw [st1.1, st1.2]
    suffices hs : ∃ r : Int × Int × Int, consts_Call.l0 (B + 100) name l l (l.length : Int) (l.length : Int) = R4 r ∧ spinetref12_Call.l0 (B + 100) name l (l.length : Int) = R4 r by
      obtain ⟨r, h1, h2⟩ := hs
      exact ⟨_, h1, h2⟩
    obtain ⟨m, hm, hm9⟩ : ∃ m, B + 100 = m + 1 ∧ 99 ≤ m := ⟨B + 99, rfl, by omega⟩
    rw [hm]
    simp only [consts_Call.l0, spinetref12_Call.l0]
    rw [if_neg (Int.lt_irrefl (l.length : Int)), if_neg (Int.lt_irrefl (l.length : Int))]
    obtain ⟨q, rfl⟩ : ∃ q, m = q + 62 := ⟨m - 62, by omega⟩
    clear st st1 step hm
    match l, hl, h, hg, hall with
    | [], _, _, _, _ =>
      exact ⟨(0, 0, 120), by simp [consts_Call.j1, R4], by simp [spinetref12_Call.j1, spinetref12_Call.j2, none_eq, R4]⟩
    | [e], _, _, hg, hall =>
      have F := (hg 0 (by simp)).2 (hall 0 (Nat.le_refl _) (by simp))
      have er : rd_T23 [e] ((0 : Nat) : Int) = e := rfl
      have er2 : rd_T23 [e] 0 = e := rfl
      rw [er] at F
      obtain ⟨r, h1, h2⟩ := call_one (q + 61) (q + 1) name e F
      refine ⟨r, ?_, ?_⟩
      · simp only [er2, show (([e] : List S23).length : Int) = 1 from rfl, if_true, show (0 : Int) < 1 from by decide]
        rw [h1, bind_R4]
      · simp only [show (([e] : List S23).length : Int) = 1 from rfl]
        rw [if_neg (by decide)]
        simp only [spinetref12_Call.j1, Bool.false_eq_true, if_false]
        exact h2
    | [a, b], _, h, _, _ =>
      have ha := h a (by simp)
      have hb := h b (by simp)
      have hx := fun x => call_two (q + 2) name a b x (fun v hv => by rcases hv with rfl | rfl; exact ha.1; exact hb.1)
      have e0 : rd_T23 [a, b] 0 = a := rfl
      have e1 : rd_T23 [a, b] 1 = b := rfl
      simp only [show (([a, b] : List S23).length : Int) = 2 from rfl, e0, e1, if_true, show (0 : Int) < 2 from by decide, show (1 : Int) < 2 from by decide, show ¬ ((2 : Int) = 1) from by decide, if_false]
      by_cases h1 : a.f0 = 1
      · rw [if_pos h1, if_pos h1]; exact hx _
      · rw [if_neg h1, if_neg h1]; exact hx _
    | a :: b :: c :: l, _, _, _, _ =>
      have n1 : ¬ (((a :: b :: c :: l).length : Int) = 1) := by simp; omega
      have n2 : ¬ (((a :: b :: c :: l).length : Int) = 2) := by simp; omega
      rw [if_neg n1, if_neg n2, if_neg n2]
      simp only [consts_Call.j1, spinetref12_Call.j1, spinetref12_Call.j2, Bool.false_eq_true, if_false]
      rw [if_neg n1, none_eq, bind_R4]
      exact ⟨(0, 0, 120), rfl, rfl⟩
  · have hex : ∃ j, 0 ≤ j ∧ j < l.length ∧ g j = false := by
      refine Classical.byContradiction fun hn => hall fun j h1 h2 => ?_
      cases hj : g j
      · exact absurd ⟨j, h1, h2, hj⟩ hn
      · rfl
    have := st.2 hex
    exact ⟨_, this.1, this.2⟩
end Go.Proofs.Ytjimcgmefpienaa.CallsPure
