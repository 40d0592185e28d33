/- What the laws of layer 12 share: values in boxes, rows of values, large texts. -/
import Derived.Test.YtjimcgmefpienaaConstsWakes
import Derived.Test.YtjimcgmefpienaaGood12
namespace Go.Proofs.Ytjimcgmefpienaa.Law12
open Go.RowKit Go.Maps Go.Proofs.Ytjimcgmefpienaa.Tab Go.Proofs.Ytjimcgmefpienaa.Plain Go.Proofs.Ytjimcgmefpienaa.Small Go.Proofs.Ytjimcgmefpienaa.Rels Go.Proofs.Ytjimcgmefpienaa.Two Go.Proofs.Ytjimcgmefpienaa.PConstsCalls Go.Proofs.YtjimcgmefpienaaW.PrintWords Go.Proofs.YtjimcgmefpienaaW.PrintLast Go.Proofs.YtjimcgmefpienaaW.PrintMore
set_option linter.unusedVariables false
set_option linter.unusedSimpArgs false

/-- Values in boxes. -/
def Fb (w : World) (L : List (Nat × Int × Int × ByteArray)) (W : World) : Prop := (∀ x ∈ L, blk W x.1 x.2.1 x.2.2.1 x.2.2.2) ∧ Below w.heap.size w W
section
variable {w W W2 : World} {L : List (Nat × Int × Int × ByteArray)}
theorem Fb.nil (w : World) : Fb w [] w := ⟨fun x hx => (by cases hx), Below.refl _ _⟩
theorem Fb.step (k : Below W.heap.size W W2) (h : Fb w L W) : Fb w L W2 := ⟨fun x hx => blk_below (h.1 x hx) k, below_step h.2 k⟩
theorem Fb.drew (h : Fb w L W) : Fb w L W.drew := ⟨fun x hx => h.1 x hx, Below.drew h.2⟩
theorem Fb.drewN (h : Fb w L W) (n : Nat) : Fb w L (W.drewN n) := h.step (pw_below_drewN (Below.refl _ _) n)
theorem Fb.alloc (h : Fb w L W) (o : Obj) : Fb w L (W.alloc o) := ⟨fun x hx => blk_alloc (h.1 x hx) o, below_alloc h.2 o⟩
theorem Fb.push (h : Fb w L W) (f n : Int) (t : ByteArray) : Fb w ((W.heap.size, f, n, t) :: L) (W.alloc (.cells #[.int .i64 f, .int .i64 n, .string t] 23)) := by
  refine ⟨fun x hx => ?_, below_alloc h.2 _⟩
  rcases List.mem_cons.1 hx with rfl | hx
  · exact (MapKept.heap_alloc W _).1
  · exact blk_alloc (h.1 x hx) _
theorem Fb.push2 (h : Fb w L W) (f n : Int) (t : ByteArray) (g m : Int) (u : ByteArray) : Fb w ((W.heap.size + 1, g, m, u) :: (W.heap.size, f, n, t) :: L) ((W.alloc (.cells #[.int .i64 f, .int .i64 n, .string t] 23)).alloc (.cells #[.int .i64 g, .int .i64 m, .string u] 23)) := by
  have := (h.push f n t).push g m u
  rwa [show (W.alloc (.cells #[.int .i64 f, .int .i64 n, .string t] 23)).heap.size = W.heap.size + 1 by simp] at this
theorem Fb.get (h : Fb w L W) (p : Nat) (f n : Int) (t : ByteArray) (hx : (p, f, n, t) ∈ L) :
    W.cell? ⟨p, 0, none⟩ = some (.int .i64 f) ∧ W.cell? ⟨p, 1, none⟩ = some (.int .i64 n) ∧ W.cell? ⟨p, 2, none⟩ = some (.string t) := by
  obtain ⟨c0, c1, c2, _⟩ := cells3 (h.1 _ hx)
  exact ⟨c0, c1, c2⟩
end
theorem same_self (f n : Int) (t : ByteArray) (w : World) : Calls Try.prog 14 #[V f n t, V f n t] w fun e w' => e = .returned (.bool true) ∧ Below w.heap.size w w' :=
  spinetref12_Same.calls f n t f n t true w (by simp [spinetref12_Same.f])
theorem sz23 : k23.sz = 3 := rfl
/-- Is the text of one value large? -/
theorem large1 (f n : Int) (t : ByteArray) (b : Nat) (w : World) (h : w.heap[b]? = some (.cells #[.int .i64 f, .int .i64 n, .string t] 23 (0, 0))) :
    Calls Try.prog 10 #[.slice (some ⟨b, 0, none⟩) 1 1] w fun e w' => e = .returned (.bool (decide (t.size > 5000))) ∧ Drawn0 w w' := by
  have hc : Kd.C k23 w (some ⟨b, 0, none⟩) 1 [⟨f, n, t⟩] := by
    refine ⟨rfl, by omega, fun _ => ⟨_, rfl, fun j p hj => ?_⟩⟩
    match j, hj with
    | 0, hj =>
      obtain rfl : (⟨f, n, t⟩ : S23) = p := by simpa using hj
      refine ⟨_, rfl, k23_mk w _, fun i u hu => ?_⟩
      have := blk_cell h (0 * 3 + i)
      rw [show (⟨b, 0, none⟩ : Addr).add (0 * k23.sz + i) = ⟨b, 0 * 3 + i, none⟩ by (rw [sz23]; simp [Addr.add]; try (intro h_; omega))]
      rw [this]
      match i, hu with
      | 0, hu => simpa using hu
      | 1, hu => simpa using hu
      | 2, hu => simpa using hu
      | i + 3, hu => simp at hu
    | j + 1, hj => simp at hj
  refine spinetlaw12_large.calls 3 _ 1 [⟨f, n, t⟩] _ w hc (by simp) ?_
  have e1 : wrap64 (0 + 1) = 1 := by decide +kernel
  have e2 : rd_T23 [⟨f, n, t⟩] 0 = ⟨f, n, t⟩ := rfl
  simp only [spinetlaw12_large.f, spinetlaw12_large.l0, e1, e2]
  have k1 : ((t.size : Int) > 5000) ↔ t.size > 5000 := by omega
  simp only [k1]
  by_cases c : t.size > 5000
  · simp [c]
  · simp [c]
theorem large2 (f n : Int) (t : ByteArray) (g m : Int) (u : ByteArray) (b : Nat) (w : World) (h : w.heap[b]? = some (.cells #[.int .i64 f, .int .i64 n, .string t, .int .i64 g, .int .i64 m, .string u] 23 (0, 0))) :
    Calls Try.prog 10 #[.slice (some ⟨b, 0, none⟩) 2 2] w fun e w' => e = .returned (.bool (decide (t.size > 5000) || decide (u.size > 5000))) ∧ Drawn0 w w' := by
  have hc : Kd.C k23 w (some ⟨b, 0, none⟩) 2 [⟨f, n, t⟩, ⟨g, m, u⟩] := by
    refine ⟨rfl, by omega, fun _ => ⟨_, rfl, fun j p hj => ?_⟩⟩
    match j, hj with
    | 0, hj =>
      obtain rfl : (⟨f, n, t⟩ : S23) = p := by simpa using hj
      refine ⟨_, rfl, k23_mk w _, fun i u hu => ?_⟩
      have := blk_cell h (0 * 3 + i)
      rw [show (⟨b, 0, none⟩ : Addr).add (0 * k23.sz + i) = ⟨b, 0 * 3 + i, none⟩ by (rw [sz23]; simp [Addr.add]; try (intro h_; omega))]
      rw [this]
      match i, hu with
      | 0, hu => simpa using hu
      | 1, hu => simpa using hu
      | 2, hu => simpa using hu
      | i + 3, hu => simp at hu
    | 1, hj =>
      obtain rfl : (⟨g, m, u⟩ : S23) = p := by simpa using hj
      refine ⟨_, rfl, k23_mk w _, fun i v hv => ?_⟩
      have := blk_cell h (1 * 3 + i)
      rw [show (⟨b, 0, none⟩ : Addr).add (1 * k23.sz + i) = ⟨b, 1 * 3 + i, none⟩ by (rw [sz23]; simp [Addr.add]; try (intro h_; omega))]
      rw [this]
      match i, hv with
      | 0, hv => simpa using hv
      | 1, hv => simpa using hv
      | 2, hv => simpa using hv
      | i + 3, hv => simp at hv
    | j + 2, hj => simp at hj
  refine spinetlaw12_large.calls 4 _ 2 [⟨f, n, t⟩, ⟨g, m, u⟩] _ w hc (by simp) ?_
  have e1 : wrap64 (0 + 1) = 1 := by decide +kernel
  have e1' : wrap64 (1 + 1) = 2 := by decide +kernel
  have e2 : rd_T23 [⟨f, n, t⟩, ⟨g, m, u⟩] 0 = ⟨f, n, t⟩ := rfl
  have e3 : rd_T23 [⟨f, n, t⟩, ⟨g, m, u⟩] 1 = ⟨g, m, u⟩ := rfl
  simp only [spinetlaw12_large.f, spinetlaw12_large.l0, e1, e1', e2, e3]
  have k1 : ((t.size : Int) > 5000) ↔ t.size > 5000 := by omega
  have k2 : ((u.size : Int) > 5000) ↔ u.size > 5000 := by omega
  simp only [k1, k2]
  by_cases c : t.size > 5000
  · simp [c]
  · by_cases c2 : u.size > 5000
    · simp [c, c2]
    · simp [c, c2]
end Go.Proofs.Ytjimcgmefpienaa.Law12
