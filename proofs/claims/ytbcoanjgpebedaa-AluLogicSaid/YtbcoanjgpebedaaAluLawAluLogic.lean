/- The law AluLogic, walked: eight operations, each by its contract. -/
import Derived.Test.YtbcoanjgpebedaaPureAluLogic
import Derived.Outline
namespace Go.Proofs.Ytbcoanjgpebedaa.LogicWalk
open Go.RowKit Go.Proofs.Ytbcoanjgpebedaa.Plain Go.Proofs.Ytbcoanjgpebedaa.PAluDoes Go.Proofs.Ytbcoanjgpebedaa.AluA Go.Proofs.Ytbcoanjgpebedaa.PureAluLogic Go.Proofs.YtbcoanjgpebedaaW.PrintWords Go.Proofs.YtbcoanjgpebedaaW.PrintLast Go.Proofs.YtbcoanjgpebedaaW.PrintMore
set_option linter.unusedVariables false
set_option linter.unusedSimpArgs false
theorem u32_or_comm (x y : Int) : Go.bits .or .u32 x y = Go.bits .or .u32 y x := by
  show IntKind.u32.wrap ((BitVec.ofInt 32 x ||| BitVec.ofInt 32 y).toNat : Int) = IntKind.u32.wrap ((BitVec.ofInt 32 y ||| BitVec.ofInt 32 x).toNat : Int)
  rw [BitVec.or_comm]
theorem ror_eq (b n : Int) (b0 : 0 ≤ b) (b1 : b < 4294967296) (n0 : 0 ≤ n) :
    b / 2 ^ (n % 32).toNat + b % 2 ^ (n % 32).toNat * 2 ^ (32 - (n % 32).toNat) = Go.bits .or .u32 (b / 2 ^ (n % 32).toNat) (b * 2 ^ (32 - n % 32).toNat % 4294967296) := by
  obtain ⟨m, hm⟩ : ∃ m : Nat, n % 32 = m := ⟨(n % 32).toNat, by omega⟩
  have h32 : m < 32 := by omega
  rw [hm, show (32 - (m : Int)).toNat = 32 - m by omega, Int.toNat_natCast, u32_or_comm, turn b m h32 b0 b1]

set_option maxRecDepth 100000 in
set_option maxHeartbeats 4000000 in
theorem walk (op b n h : Int) (u N Z C V : Bool) (b0 : 0 ≤ b) (b1 : b < 4294967296) (n0 : 0 ≤ n) (n1 : n < 4294967296) (h0 : 0 ≤ h) (h1 : h < 4294967296) (w : World) :
    Calls Try.prog 8 #[.agg #[.int .i64 op, .bool u, .int .u32 b, .int .u32 n, .int .u32 h, .bool N, .bool Z, .bool C, .bool V]] w fun e w' => e = .returned (.bool true) ∧ Below w.heap.size w w' := by
  have M0 : 0 ≤ n % 32 ∧ n % 32 < 32 := by omega
  obtain ⟨M1, M2⟩ := M0
  have L := logic b n b0 b1 n0 n1
  obtain ⟨L1, L2, L3⟩ := L
  have T1 : (Go.bits .or .u32 (Go.bits .and .u32 b n) (Go.bits .xor .u32 b n) != Go.bits .or .u32 b n) = false := by rw [L1]; simp
  have T2 : (Go.bits .xor .u32 (Go.bits .and .u32 b n) (Go.bits .andNot .u32 b n) != b) = false := by rw [L2]; simp
  have T3 : (Go.bits .and .u32 (Go.bits .andNot .u32 b n) n != 0) = false := by rw [L3]; simp
  clear L1 L2 L3
  have X1 : (b / 2 ^ (n % 32).toNat + b % 2 ^ (n % 32).toNat * 2 ^ (32 - (n % 32).toNat) == Go.bits .or .u32 (b / 2 ^ (n % 32).toNat) (b * 2 ^ (32 - n % 32).toNat % 4294967296)) = true := by
    rw [beq_iff_eq]
    exact ror_eq b n b0 b1 n0
  have X2 : (decide (2147483648 ≤ Go.bits .andNot .u32 b n) == decide (wrap32 (Go.bits .andNot .u32 b n) < 0)) = true := by
    have hb := bits_u32 .andNot b n
    rw [beq_iff_eq, Bool.eq_iff_iff, decide_eq_true_eq, decide_eq_true_eq, w32_of hb.1 hb.2]
    split <;> omega
  have E1 := Aside0.mk (do4 b n h N Z C V)
  have E2 := Aside0.mk (do6 b n h N Z C V)
  have E3 := Aside0.mk (do7 b n h N Z C V)
  have E4 := Aside0.mk (do5 b n h N Z C V)
  have E5 := Aside0.mk (do1 b n h N Z C V n0)
  have E6 := Aside0.mk (do1 b (n % 32) h N Z C V M1)
  have E7 := Aside0.mk (do3 b n h N Z C V b0 b1 n0)
  have E8 := Aside0.mk (do2 b n h N Z C V n0)
  have E9 := Aside0.mk wakes_true
  go_enter Try.func8, Try.ntmps8
  go_wp2_with fail
  refine (alu_Do.calls 40 4 false b n h N Z C V _ _ _ _ _ _ _ _ E1.out).mono ?_
  rintro e w1 ⟨rfl, hb1⟩
  have B1 := Aside0.mk (blk_below (MapKept.heap_alloc w (.cells #[.int .i64 op, .bool u, .int .u32 b, .int .u32 n, .int .u32 h, .bool N, .bool Z, .bool C, .bool V] 26)).1 hb1)
  have G1 := Aside0.mk (below_step ((Below.refl w.heap.size w).alloc (Nat.le_refl _) _) hb1)
  have Z1 : w.heap.size < w1.heap.size := by have := hb1.size; simp at this; omega
  clear hb1
  have c1_2 : w1.cell? ⟨w.heap.size, 2, none⟩ = some (.int .u32 b) := (blk_cell B1.out 2).trans rfl
  have c1_3 : w1.cell? ⟨w.heap.size, 3, none⟩ = some (.int .u32 n) := (blk_cell B1.out 3).trans rfl
  have c1_4 : w1.cell? ⟨w.heap.size, 4, none⟩ = some (.int .u32 h) := (blk_cell B1.out 4).trans rfl
  have c1_5 : w1.cell? ⟨w.heap.size, 5, none⟩ = some (.bool N) := (blk_cell B1.out 5).trans rfl
  have c1_6 : w1.cell? ⟨w.heap.size, 6, none⟩ = some (.bool Z) := (blk_cell B1.out 6).trans rfl
  have c1_7 : w1.cell? ⟨w.heap.size, 7, none⟩ = some (.bool C) := (blk_cell B1.out 7).trans rfl
  have c1_8 : w1.cell? ⟨w.heap.size, 8, none⟩ = some (.bool V) := (blk_cell B1.out 8).trans rfl
  go_wp2_with fail
  refine (alu_Do.calls 40 6 false b n h N Z C V _ _ _ _ _ _ _ _ E2.out).mono ?_
  rintro e w2 ⟨rfl, hb2⟩
  have B2 := Aside0.mk (blk_below (blk_alloc B1.out _) hb2)
  have G2 := Aside0.mk (below_step (below_alloc G1.out _) hb2)
  have Z2 : w.heap.size < w2.heap.size := by have := hb2.size; simp at this; omega
  clear hb2
  clear Z1
  have c2_2 : w2.cell? ⟨w.heap.size, 2, none⟩ = some (.int .u32 b) := (blk_cell B2.out 2).trans rfl
  have c2_3 : w2.cell? ⟨w.heap.size, 3, none⟩ = some (.int .u32 n) := (blk_cell B2.out 3).trans rfl
  have c2_4 : w2.cell? ⟨w.heap.size, 4, none⟩ = some (.int .u32 h) := (blk_cell B2.out 4).trans rfl
  have c2_5 : w2.cell? ⟨w.heap.size, 5, none⟩ = some (.bool N) := (blk_cell B2.out 5).trans rfl
  have c2_6 : w2.cell? ⟨w.heap.size, 6, none⟩ = some (.bool Z) := (blk_cell B2.out 6).trans rfl
  have c2_7 : w2.cell? ⟨w.heap.size, 7, none⟩ = some (.bool C) := (blk_cell B2.out 7).trans rfl
  have c2_8 : w2.cell? ⟨w.heap.size, 8, none⟩ = some (.bool V) := (blk_cell B2.out 8).trans rfl
  go_wp2_with fail
  refine (alu_Do.calls 40 7 false b n h N Z C V _ _ _ _ _ _ _ _ E3.out).mono ?_
  rintro e w3 ⟨rfl, hb3⟩
  have B3 := Aside0.mk (blk_below (blk_alloc B2.out _) hb3)
  have G3 := Aside0.mk (below_step (below_alloc G2.out _) hb3)
  have Z3 : w.heap.size < w3.heap.size := by have := hb3.size; simp at this; omega
  clear hb3
  clear Z2
  have c3_2 : w3.cell? ⟨w.heap.size, 2, none⟩ = some (.int .u32 b) := (blk_cell B3.out 2).trans rfl
  have c3_3 : w3.cell? ⟨w.heap.size, 3, none⟩ = some (.int .u32 n) := (blk_cell B3.out 3).trans rfl
  have c3_4 : w3.cell? ⟨w.heap.size, 4, none⟩ = some (.int .u32 h) := (blk_cell B3.out 4).trans rfl
  have c3_5 : w3.cell? ⟨w.heap.size, 5, none⟩ = some (.bool N) := (blk_cell B3.out 5).trans rfl
  have c3_6 : w3.cell? ⟨w.heap.size, 6, none⟩ = some (.bool Z) := (blk_cell B3.out 6).trans rfl
  have c3_7 : w3.cell? ⟨w.heap.size, 7, none⟩ = some (.bool C) := (blk_cell B3.out 7).trans rfl
  have c3_8 : w3.cell? ⟨w.heap.size, 8, none⟩ = some (.bool V) := (blk_cell B3.out 8).trans rfl
  go_wp2_with fail
  refine (alu_Do.calls 40 5 false b n h N Z C V _ _ _ _ _ _ _ _ E4.out).mono ?_
  rintro e w4 ⟨rfl, hb4⟩
  have B4 := Aside0.mk (blk_below (blk_alloc B3.out _) hb4)
  have G4 := Aside0.mk (below_step (below_alloc G3.out _) hb4)
  have Z4 : w.heap.size < w4.heap.size := by have := hb4.size; simp at this; omega
  clear hb4
  clear Z3
  have c4_2 : w4.cell? ⟨w.heap.size, 2, none⟩ = some (.int .u32 b) := (blk_cell B4.out 2).trans rfl
  have c4_3 : w4.cell? ⟨w.heap.size, 3, none⟩ = some (.int .u32 n) := (blk_cell B4.out 3).trans rfl
  have c4_4 : w4.cell? ⟨w.heap.size, 4, none⟩ = some (.int .u32 h) := (blk_cell B4.out 4).trans rfl
  have c4_5 : w4.cell? ⟨w.heap.size, 5, none⟩ = some (.bool N) := (blk_cell B4.out 5).trans rfl
  have c4_6 : w4.cell? ⟨w.heap.size, 6, none⟩ = some (.bool Z) := (blk_cell B4.out 6).trans rfl
  have c4_7 : w4.cell? ⟨w.heap.size, 7, none⟩ = some (.bool C) := (blk_cell B4.out 7).trans rfl
  have c4_8 : w4.cell? ⟨w.heap.size, 8, none⟩ = some (.bool V) := (blk_cell B4.out 8).trans rfl
  go_wp2_with fail
  refine (alu_Do.calls 40 1 false b n h N Z C V _ _ _ _ _ _ _ _ E5.out).mono ?_
  rintro e w5 ⟨rfl, hb5⟩
  have B5 := Aside0.mk (blk_below (blk_alloc B4.out _) hb5)
  have G5 := Aside0.mk (below_step (below_alloc G4.out _) hb5)
  have Z5 : w.heap.size < w5.heap.size := by have := hb5.size; simp at this; omega
  have Y5 : w4.heap.size < w5.heap.size := by have := hb5.size; simp at this; omega
  have D5 := Aside0.mk (blk_below (MapKept.heap_alloc w4 _).1 hb5)
  clear hb5
  clear Z4
  have c5_2 : w5.cell? ⟨w.heap.size, 2, none⟩ = some (.int .u32 b) := (blk_cell B5.out 2).trans rfl
  have c5_3 : w5.cell? ⟨w.heap.size, 3, none⟩ = some (.int .u32 n) := (blk_cell B5.out 3).trans rfl
  have c5_4 : w5.cell? ⟨w.heap.size, 4, none⟩ = some (.int .u32 h) := (blk_cell B5.out 4).trans rfl
  have c5_5 : w5.cell? ⟨w.heap.size, 5, none⟩ = some (.bool N) := (blk_cell B5.out 5).trans rfl
  have c5_6 : w5.cell? ⟨w.heap.size, 6, none⟩ = some (.bool Z) := (blk_cell B5.out 6).trans rfl
  have c5_7 : w5.cell? ⟨w.heap.size, 7, none⟩ = some (.bool C) := (blk_cell B5.out 7).trans rfl
  have c5_8 : w5.cell? ⟨w.heap.size, 8, none⟩ = some (.bool V) := (blk_cell B5.out 8).trans rfl
  go_wp2_with fail
  refine (alu_Do.calls 40 1 false b (n % 32) h N Z C V _ _ _ _ _ _ _ _ E6.out).mono ?_
  rintro e w6 ⟨rfl, hb6⟩
  have B6 := Aside0.mk (blk_below (blk_alloc B5.out _) hb6)
  have G6 := Aside0.mk (below_step (below_alloc G5.out _) hb6)
  have Z6 : w.heap.size < w6.heap.size := by have := hb6.size; simp at this; omega
  have Y6 : w4.heap.size < w6.heap.size := by have := hb6.size; simp at this; omega
  clear Y5
  have D6 := Aside0.mk (blk_below (blk_alloc D5.out _) hb6)
  clear hb6
  clear Z5
  have c6_2 : w6.cell? ⟨w.heap.size, 2, none⟩ = some (.int .u32 b) := (blk_cell B6.out 2).trans rfl
  have c6_3 : w6.cell? ⟨w.heap.size, 3, none⟩ = some (.int .u32 n) := (blk_cell B6.out 3).trans rfl
  have c6_4 : w6.cell? ⟨w.heap.size, 4, none⟩ = some (.int .u32 h) := (blk_cell B6.out 4).trans rfl
  have c6_5 : w6.cell? ⟨w.heap.size, 5, none⟩ = some (.bool N) := (blk_cell B6.out 5).trans rfl
  have c6_6 : w6.cell? ⟨w.heap.size, 6, none⟩ = some (.bool Z) := (blk_cell B6.out 6).trans rfl
  have c6_7 : w6.cell? ⟨w.heap.size, 7, none⟩ = some (.bool C) := (blk_cell B6.out 7).trans rfl
  have c6_8 : w6.cell? ⟨w.heap.size, 8, none⟩ = some (.bool V) := (blk_cell B6.out 8).trans rfl
  go_wp2_with fail
  refine (alu_Do.calls 40 3 false b n h N Z C V _ _ _ _ _ _ _ _ E7.out).mono ?_
  rintro e w7 ⟨rfl, hb7⟩
  have B7 := Aside0.mk (blk_below (blk_alloc B6.out _) hb7)
  have G7 := Aside0.mk (below_step (below_alloc G6.out _) hb7)
  have Z7 : w.heap.size < w7.heap.size := by have := hb7.size; simp at this; omega
  have Y7 : w4.heap.size < w7.heap.size := by have := hb7.size; simp at this; omega
  clear Y6
  have D7 := Aside0.mk (blk_below (blk_alloc D6.out _) hb7)
  clear hb7
  clear Z6
  have c7_2 : w7.cell? ⟨w.heap.size, 2, none⟩ = some (.int .u32 b) := (blk_cell B7.out 2).trans rfl
  have c7_3 : w7.cell? ⟨w.heap.size, 3, none⟩ = some (.int .u32 n) := (blk_cell B7.out 3).trans rfl
  have c7_4 : w7.cell? ⟨w.heap.size, 4, none⟩ = some (.int .u32 h) := (blk_cell B7.out 4).trans rfl
  have c7_5 : w7.cell? ⟨w.heap.size, 5, none⟩ = some (.bool N) := (blk_cell B7.out 5).trans rfl
  have c7_6 : w7.cell? ⟨w.heap.size, 6, none⟩ = some (.bool Z) := (blk_cell B7.out 6).trans rfl
  have c7_7 : w7.cell? ⟨w.heap.size, 7, none⟩ = some (.bool C) := (blk_cell B7.out 7).trans rfl
  have c7_8 : w7.cell? ⟨w.heap.size, 8, none⟩ = some (.bool V) := (blk_cell B7.out 8).trans rfl
  go_wp2_with fail
  refine (alu_Do.calls 40 2 false b n h N Z C V _ _ _ _ _ _ _ _ E8.out).mono ?_
  rintro e w8 ⟨rfl, hb8⟩
  have B8 := Aside0.mk (blk_below (blk_alloc B7.out _) hb8)
  have G8 := Aside0.mk (below_step (below_alloc G7.out _) hb8)
  have Z8 : w.heap.size < w8.heap.size := by have := hb8.size; simp at this; omega
  have Y8 : w4.heap.size < w8.heap.size := by have := hb8.size; simp at this; omega
  clear Y7
  have D8 := Aside0.mk (blk_below (blk_alloc D7.out _) hb8)
  clear hb8
  clear Z7
  have c8_2 : w8.cell? ⟨w.heap.size, 2, none⟩ = some (.int .u32 b) := (blk_cell B8.out 2).trans rfl
  have c8_3 : w8.cell? ⟨w.heap.size, 3, none⟩ = some (.int .u32 n) := (blk_cell B8.out 3).trans rfl
  have c8_4 : w8.cell? ⟨w.heap.size, 4, none⟩ = some (.int .u32 h) := (blk_cell B8.out 4).trans rfl
  have c8_5 : w8.cell? ⟨w.heap.size, 5, none⟩ = some (.bool N) := (blk_cell B8.out 5).trans rfl
  have c8_6 : w8.cell? ⟨w.heap.size, 6, none⟩ = some (.bool Z) := (blk_cell B8.out 6).trans rfl
  have c8_7 : w8.cell? ⟨w.heap.size, 7, none⟩ = some (.bool C) := (blk_cell B8.out 7).trans rfl
  have c8_8 : w8.cell? ⟨w.heap.size, 8, none⟩ = some (.bool V) := (blk_cell B8.out 8).trans rfl
  have d0 : w8.cell? ⟨w4.heap.size, 0, none⟩ = some (.bool (decide (2147483648 ≤ Go.bits .andNot .u32 b n))) := (blk_cell D8.out 0).trans (by simp)
  have d1 : w8.cell? ⟨w4.heap.size, 1, none⟩ = some (.bool (Go.bits .andNot .u32 b n == 0)) := (blk_cell D8.out 1).trans (by simp)
  have d2 : w8.cell? ⟨w4.heap.size, 2, none⟩ = some (.bool C) := (blk_cell D8.out 2).trans (by simp)
  have d3 : w8.cell? ⟨w4.heap.size, 3, none⟩ = some (.bool V) := (blk_cell D8.out 3).trans (by simp)
  go_wp2_with (first | (go_at_call 12; refine (spinetlaw03_wakes.calls 40 true _ E9.out).mono ?_; rintro e w9 ⟨rfl, hb9⟩; have G9 := Aside0.mk (below_step (below_alloc G8.out _) hb9)))
  go_ret
  exact ⟨rfl, G9.out⟩
end Go.Proofs.Ytbcoanjgpebedaa.LogicWalk
