/- Functions and loops of the given program as Lean functions, and that the code comes to what they say: written by this session's own program; Lean checks it. -/
import Derived.Test.YtcflafkafbpibaaPx0
import Derived.Test.YtcflafkafbpibaaPx3
import Derived.Test.YtcflafkafbpibaaPx4
import Derived.Test.YtcflafkafbpibaaPx6
namespace Go.Proofs.Ytcflafkafbpibaa.P
open Go.RowKit Go.Proofs.YtcflafkafbpibaaW.PrintWords Go.Proofs.YtcflafkafbpibaaW.PrintLast Go.Proofs.YtcflafkafbpibaaW.PrintMore
attribute [local go_sem] max2_int min2_int max_two min_two max_three min_three max_four min_four   -- for this text's walks alone
set_option linter.unusedVariables false
set_option linter.unusedSimpArgs false

/-! ### carillonlaw06_HeaderIgnores: function 9: by our own printer -/
def carillonlaw06_HeaderIgnores.f (k : Nat) (a0_0 : Int) (a0_1 : Int) (a0_2 : Int) (a0_3 : Int) (a0_4 : Int) (a0_5 : Int) (a0_6 : Int) (a0_7 : Int) (a0_8 : Int) (a0_9 : Int) (a0_10 : Int) (a0_11 : Int) (a0_12 : Int) (a0_13 : Int) (a0_14 : Int) (a0_15 : Int) (a0_16 : Int) (a0_17 : Int) (a0_18 : Int) (a0_19 : Int) (a0_20 : Int) (a0_21 : Int) (a0_22 : Int) (a1 : Int) (a2 : Int) (a3 : Int) (a4 : Int) : Option (Bool) := (header_Put.f k a0_0 a0_1 a0_2 a0_3 a0_4 a0_5 a0_6 a0_7 a0_8 a0_9 a0_10 a0_11 a0_12 a0_13 a0_14 a0_15 a0_16 a0_17 a0_18 a0_19 a0_20 a0_21 a0_22 34).bind fun t6 => (if t6.2 = true then ((header_Get.f k t6.1).bind fun t15 => (if 1 < (t6.1.length : Int) then (if 5 < ((t6.1.set (1 : Int).toNat (Go.bits .or .u8 (Go.bits .and .u8 a4 240) 2)).length : Int) then (if 16 < (((t6.1.set (1 : Int).toNat (Go.bits .or .u8 (Go.bits .and .u8 a4 240) 2)).set (5 : Int).toNat a1).length : Int) then (if 19 < ((((t6.1.set (1 : Int).toNat (Go.bits .or .u8 (Go.bits .and .u8 a4 240) 2)).set (5 : Int).toNat a1).set (16 : Int).toNat a2).length : Int) then (if 32 < (((((t6.1.set (1 : Int).toNat (Go.bits .or .u8 (Go.bits .and .u8 a4 240) 2)).set (5 : Int).toNat a1).set (16 : Int).toNat a2).set (19 : Int).toNat a3).length : Int) then ((header_Get.f k (((((t6.1.set (1 : Int).toNat (Go.bits .or .u8 (Go.bits .and .u8 a4 240) 2)).set (5 : Int).toNat a1).set (16 : Int).toNat a2).set (19 : Int).toNat a3).set (32 : Int).toNat a1)).bind fun t58 => (if t15.2.2.2.2.2.2.2.2.2.2.2.2.2.2.2.2.2.2.2.2.2.2.2.2 = 0 then (if t58.2.2.2.2.2.2.2.2.2.2.2.2.2.2.2.2.2.2.2.2.2.2.2.2 = 0 then (if ((t58.1 == t15.1) && ((t58.2.1 == t15.2.1) && ((t58.2.2.1 == t15.2.2.1) && ((t58.2.2.2.1 == t15.2.2.2.1) && ((t58.2.2.2.2.1 == t15.2.2.2.2.1) && ((t58.2.2.2.2.2.1 == t15.2.2.2.2.2.1) && ((t58.2.2.2.2.2.2.1 == t15.2.2.2.2.2.2.1) && ((t58.2.2.2.2.2.2.2.1 == t15.2.2.2.2.2.2.2.1) && ((t58.2.2.2.2.2.2.2.2.1 == t15.2.2.2.2.2.2.2.2.1) && ((t58.2.2.2.2.2.2.2.2.2.1 == t15.2.2.2.2.2.2.2.2.2.1) && ((t58.2.2.2.2.2.2.2.2.2.2.1 == t15.2.2.2.2.2.2.2.2.2.2.1) && ((t58.2.2.2.2.2.2.2.2.2.2.2.1 == t15.2.2.2.2.2.2.2.2.2.2.2.1) && ((t58.2.2.2.2.2.2.2.2.2.2.2.2.1 == t15.2.2.2.2.2.2.2.2.2.2.2.2.1) && ((t58.2.2.2.2.2.2.2.2.2.2.2.2.2.1 == t15.2.2.2.2.2.2.2.2.2.2.2.2.2.1) && ((t58.2.2.2.2.2.2.2.2.2.2.2.2.2.2.1 == t15.2.2.2.2.2.2.2.2.2.2.2.2.2.2.1) && ((t58.2.2.2.2.2.2.2.2.2.2.2.2.2.2.2.1 == t15.2.2.2.2.2.2.2.2.2.2.2.2.2.2.2.1) && ((t58.2.2.2.2.2.2.2.2.2.2.2.2.2.2.2.2.1 == t15.2.2.2.2.2.2.2.2.2.2.2.2.2.2.2.2.1) && ((t58.2.2.2.2.2.2.2.2.2.2.2.2.2.2.2.2.2.1 == t15.2.2.2.2.2.2.2.2.2.2.2.2.2.2.2.2.2.1) && ((t58.2.2.2.2.2.2.2.2.2.2.2.2.2.2.2.2.2.2.1 == t15.2.2.2.2.2.2.2.2.2.2.2.2.2.2.2.2.2.2.1) && ((t58.2.2.2.2.2.2.2.2.2.2.2.2.2.2.2.2.2.2.2.1 == t15.2.2.2.2.2.2.2.2.2.2.2.2.2.2.2.2.2.2.2.1) && ((t58.2.2.2.2.2.2.2.2.2.2.2.2.2.2.2.2.2.2.2.2.1 == t15.2.2.2.2.2.2.2.2.2.2.2.2.2.2.2.2.2.2.2.2.1) && ((t58.2.2.2.2.2.2.2.2.2.2.2.2.2.2.2.2.2.2.2.2.2.1 == t15.2.2.2.2.2.2.2.2.2.2.2.2.2.2.2.2.2.2.2.2.2.1) && (t58.2.2.2.2.2.2.2.2.2.2.2.2.2.2.2.2.2.2.2.2.2.2.1 == t15.2.2.2.2.2.2.2.2.2.2.2.2.2.2.2.2.2.2.2.2.2.2.1))))))))))))))))))))))) = true then (if 1 < ((((((t6.1.set (1 : Int).toNat (Go.bits .or .u8 (Go.bits .and .u8 a4 240) 2)).set (5 : Int).toNat a1).set (16 : Int).toNat a2).set (19 : Int).toNat a3).set (32 : Int).toNat a1).length : Int) then ((header_Get.f k ((((((t6.1.set (1 : Int).toNat (Go.bits .or .u8 (Go.bits .and .u8 a4 240) 2)).set (5 : Int).toNat a1).set (16 : Int).toNat a2).set (19 : Int).toNat a3).set (32 : Int).toNat a1).set (1 : Int).toNat a4)).bind fun t81 => (if 1 < (((((((t6.1.set (1 : Int).toNat (Go.bits .or .u8 (Go.bits .and .u8 a4 240) 2)).set (5 : Int).toNat a1).set (16 : Int).toNat a2).set (19 : Int).toNat a3).set (32 : Int).toNat a1).set (1 : Int).toNat a4).length : Int) then (if 0 < ((((((((t6.1.set (1 : Int).toNat (Go.bits .or .u8 (Go.bits .and .u8 a4 240) 2)).set (5 : Int).toNat a1).set (16 : Int).toNat a2).set (19 : Int).toNat a3).set (32 : Int).toNat a1).set (1 : Int).toNat a4).set (1 : Int).toNat 2).length : Int) then ((header_Get.f k ((((((((t6.1.set (1 : Int).toNat (Go.bits .or .u8 (Go.bits .and .u8 a4 240) 2)).set (5 : Int).toNat a1).set (16 : Int).toNat a2).set (19 : Int).toNat a3).set (32 : Int).toNat a1).set (1 : Int).toNat a4).set (1 : Int).toNat 2).set (0 : Int).toNat (IntKind.u8.wrap (4 + (Int.tmod a4 4))))).bind fun t110 => (if ((decide (t81.2.2.2.2.2.2.2.2.2.2.2.2.2.2.2.2.2.2.2.2.2.2.2.2 = 0)) == (decide ((Go.bits .and .u8 a4 15) = 2))) = true then (if t110.2.2.2.2.2.2.2.2.2.2.2.2.2.2.2.2.2.2.2.2.2.2.2.2 = 4 then ((carillonlaw06_awake.f k ).bind fun t120 => (some t120)) else (some false)) else (some false))) else (none)) else (none))) else (none)) else (some false)) else (some false)) else (some false))) else (none)) else (none)) else (none)) else (none)) else (none))) else ((carillonlaw06_awake.f k ).bind fun t15 => (some t15)))
open Go.Proofs.Ytcflafkafbpibaa.E in
set_option maxRecDepth 100000 in
theorem carillonlaw06_HeaderIgnores.neq28 (x y : Operand) (w : World) (a0 a1 a2 a3 a4 a5 a6 a7 a8 a9 a10 a11 a12 a13 a14 a15 a16 a17 a18 a19 a20 a21 a22 b0 b1 b2 b3 b4 b5 b6 b7 b8 b9 b10 b11 b12 b13 b14 b15 b16 b17 b18 b19 b20 b21 b22 : Int) : (do eqGuard .neq 28 x y (.agg #[.int .i64 a0, .int .i64 a1, .int .i64 a2, .int .i64 a3, .int .u64 a4, .int .i64 a5, .int .i64 a6, .int .i64 a7, .int .i64 a8, .int .u64 a9, .int .i64 a10, .int .i64 a11, .int .i64 a12, .int .i64 a13, .int .i64 a14, .int .i64 a15, .int .i64 a16, .int .u64 a17, .int .i64 a18, .int .i64 a19, .int .i64 a20, .int .i64 a21, .int .i64 a22]) (.agg #[.int .i64 b0, .int .i64 b1, .int .i64 b2, .int .i64 b3, .int .u64 b4, .int .i64 b5, .int .i64 b6, .int .i64 b7, .int .i64 b8, .int .u64 b9, .int .i64 b10, .int .i64 b11, .int .i64 b12, .int .i64 b13, .int .i64 b14, .int .i64 b15, .int .i64 b16, .int .u64 b17, .int .i64 b18, .int .i64 b19, .int .i64 b20, .int .i64 b21, .int .i64 b22]); binOp .neq 28 (.agg #[.int .i64 a0, .int .i64 a1, .int .i64 a2, .int .i64 a3, .int .u64 a4, .int .i64 a5, .int .i64 a6, .int .i64 a7, .int .i64 a8, .int .u64 a9, .int .i64 a10, .int .i64 a11, .int .i64 a12, .int .i64 a13, .int .i64 a14, .int .i64 a15, .int .i64 a16, .int .u64 a17, .int .i64 a18, .int .i64 a19, .int .i64 a20, .int .i64 a21, .int .i64 a22]) (.agg #[.int .i64 b0, .int .i64 b1, .int .i64 b2, .int .i64 b3, .int .u64 b4, .int .i64 b5, .int .i64 b6, .int .i64 b7, .int .i64 b8, .int .u64 b9, .int .i64 b10, .int .i64 b11, .int .i64 b12, .int .i64 b13, .int .i64 b14, .int .i64 b15, .int .i64 b16, .int .u64 b17, .int .i64 b18, .int .i64 b19, .int .i64 b20, .int .i64 b21, .int .i64 b22]) : Sem Value).run Try.prog w = .ok (.bool (!((a0 == b0) && ((a1 == b1) && ((a2 == b2) && ((a3 == b3) && ((a4 == b4) && ((a5 == b5) && ((a6 == b6) && ((a7 == b7) && ((a8 == b8) && ((a9 == b9) && ((a10 == b10) && ((a11 == b11) && ((a12 == b12) && ((a13 == b13) && ((a14 == b14) && ((a15 == b15) && ((a16 == b16) && ((a17 == b17) && ((a18 == b18) && ((a19 == b19) && ((a20 == b20) && ((a21 == b21) && (a22 == b22))))))))))))))))))))))))) w := by
  have hu3 := Try.underlying3
  have hu22 := Try.underlying22
  have hu24 := Try.underlying24
  have hu26 := Try.underlying26
  have hu28 := Try.underlying28
  conv => lhs; simp [eqGuard, go_sem, hu3, hu22, hu24, hu26, hu28]
  exact ite_nand (ite_nand (ite_nand (ite_nand (ite_nand (ite_nand (ite_nand (ite_nand (ite_nand (ite_nand (ite_nand (ite_nand (ite_nand (ite_nand (ite_nand (ite_nand (ite_nand (ite_nand (ite_nand (ite_nand (ite_nand (ite_nand (ite_nlast))))))))))))))))))))))
open Go.Proofs.Ytcflafkafbpibaa.E in
set_option maxHeartbeats 8000000 in
set_option maxRecDepth 100000 in
theorem carillonlaw06_HeaderIgnores.calls (k : Nat) (a0_0 : Int) (a0_1 : Int) (a0_2 : Int) (a0_3 : Int) (a0_4 : Int) (a0_5 : Int) (a0_6 : Int) (a0_7 : Int) (a0_8 : Int) (a0_9 : Int) (a0_10 : Int) (a0_11 : Int) (a0_12 : Int) (a0_13 : Int) (a0_14 : Int) (a0_15 : Int) (a0_16 : Int) (a0_17 : Int) (a0_18 : Int) (a0_19 : Int) (a0_20 : Int) (a0_21 : Int) (a0_22 : Int) (a1 : Int) (a2 : Int) (a3 : Int) (a4 : Int) (w : World) (h : carillonlaw06_HeaderIgnores.f k a0_0 a0_1 a0_2 a0_3 a0_4 a0_5 a0_6 a0_7 a0_8 a0_9 a0_10 a0_11 a0_12 a0_13 a0_14 a0_15 a0_16 a0_17 a0_18 a0_19 a0_20 a0_21 a0_22 a1 a2 a3 a4 = some true) :
    Calls Try.prog 9 #[.agg #[.int .i64 a0_0, .int .i64 a0_1, .int .i64 a0_2, .int .i64 a0_3, .int .u64 a0_4, .int .i64 a0_5, .int .i64 a0_6, .int .i64 a0_7, .int .i64 a0_8, .int .u64 a0_9, .int .i64 a0_10, .int .i64 a0_11, .int .i64 a0_12, .int .i64 a0_13, .int .i64 a0_14, .int .i64 a0_15, .int .i64 a0_16, .int .u64 a0_17, .int .i64 a0_18, .int .i64 a0_19, .int .i64 a0_20, .int .i64 a0_21, .int .i64 a0_22], .int .u8 a1, .int .u8 a2, .int .u8 a3, .int .u8 a4] w fun e w' => e = .returned (.bool true) ∧ Below w.heap.size w w' := by
  have H := h
  clear h
  unfold carillonlaw06_HeaderIgnores.f at H
  obtain ⟨t6, At6, H⟩ := Option.bind_eq_some_iff.mp H
  obtain ⟨t6_1, t6_2⟩ := t6
  (try dsimp only at H)
  by_cases c1 : t6_2 = true
  · rw [if_pos c1] at H
    obtain ⟨t15, At15, H⟩ := Option.bind_eq_some_iff.mp H
    obtain ⟨t15_1, t15_2, t15_3, t15_4, t15_5, t15_6, t15_7, t15_8, t15_9, t15_10, t15_11, t15_12, t15_13, t15_14, t15_15, t15_16, t15_17, t15_18, t15_19, t15_20, t15_21, t15_22, t15_23, t15_24, t15_25⟩ := t15
    (try dsimp only at H)
    by_cases c2 : 1 < (t6_1.length : Int)
    · rw [if_pos c2] at H
      by_cases c3 : 5 < ((t6_1.set (1 : Int).toNat (Go.bits .or .u8 (Go.bits .and .u8 a4 240) 2)).length : Int)
      · rw [if_pos c3] at H
        by_cases c4 : 16 < (((t6_1.set (1 : Int).toNat (Go.bits .or .u8 (Go.bits .and .u8 a4 240) 2)).set (5 : Int).toNat a1).length : Int)
        · rw [if_pos c4] at H
          by_cases c5 : 19 < ((((t6_1.set (1 : Int).toNat (Go.bits .or .u8 (Go.bits .and .u8 a4 240) 2)).set (5 : Int).toNat a1).set (16 : Int).toNat a2).length : Int)
          · rw [if_pos c5] at H
            by_cases c6 : 32 < (((((t6_1.set (1 : Int).toNat (Go.bits .or .u8 (Go.bits .and .u8 a4 240) 2)).set (5 : Int).toNat a1).set (16 : Int).toNat a2).set (19 : Int).toNat a3).length : Int)
            · rw [if_pos c6] at H
              obtain ⟨t58, At58, H⟩ := Option.bind_eq_some_iff.mp H
              obtain ⟨t58_1, t58_2, t58_3, t58_4, t58_5, t58_6, t58_7, t58_8, t58_9, t58_10, t58_11, t58_12, t58_13, t58_14, t58_15, t58_16, t58_17, t58_18, t58_19, t58_20, t58_21, t58_22, t58_23, t58_24, t58_25⟩ := t58
              (try dsimp only at H)
              by_cases c7 : t15_25 = 0
              · rw [if_pos c7] at H
                by_cases c8 : t58_25 = 0
                · rw [if_pos c8] at H
                  by_cases c9 : ((t58_1 == t15_1) && ((t58_2 == t15_2) && ((t58_3 == t15_3) && ((t58_4 == t15_4) && ((t58_5 == t15_5) && ((t58_6 == t15_6) && ((t58_7 == t15_7) && ((t58_8 == t15_8) && ((t58_9 == t15_9) && ((t58_10 == t15_10) && ((t58_11 == t15_11) && ((t58_12 == t15_12) && ((t58_13 == t15_13) && ((t58_14 == t15_14) && ((t58_15 == t15_15) && ((t58_16 == t15_16) && ((t58_17 == t15_17) && ((t58_18 == t15_18) && ((t58_19 == t15_19) && ((t58_20 == t15_20) && ((t58_21 == t15_21) && ((t58_22 == t15_22) && (t58_23 == t15_23))))))))))))))))))))))) = true
                  · rw [if_pos c9] at H
                    by_cases c10 : 1 < ((((((t6_1.set (1 : Int).toNat (Go.bits .or .u8 (Go.bits .and .u8 a4 240) 2)).set (5 : Int).toNat a1).set (16 : Int).toNat a2).set (19 : Int).toNat a3).set (32 : Int).toNat a1).length : Int)
                    · rw [if_pos c10] at H
                      obtain ⟨t81, At81, H⟩ := Option.bind_eq_some_iff.mp H
                      obtain ⟨t81_1, t81_2, t81_3, t81_4, t81_5, t81_6, t81_7, t81_8, t81_9, t81_10, t81_11, t81_12, t81_13, t81_14, t81_15, t81_16, t81_17, t81_18, t81_19, t81_20, t81_21, t81_22, t81_23, t81_24, t81_25⟩ := t81
                      (try dsimp only at H)
                      by_cases c11 : 1 < (((((((t6_1.set (1 : Int).toNat (Go.bits .or .u8 (Go.bits .and .u8 a4 240) 2)).set (5 : Int).toNat a1).set (16 : Int).toNat a2).set (19 : Int).toNat a3).set (32 : Int).toNat a1).set (1 : Int).toNat a4).length : Int)
                      · rw [if_pos c11] at H
                        by_cases c12 : 0 < ((((((((t6_1.set (1 : Int).toNat (Go.bits .or .u8 (Go.bits .and .u8 a4 240) 2)).set (5 : Int).toNat a1).set (16 : Int).toNat a2).set (19 : Int).toNat a3).set (32 : Int).toNat a1).set (1 : Int).toNat a4).set (1 : Int).toNat 2).length : Int)
                        · rw [if_pos c12] at H
                          obtain ⟨t110, At110, H⟩ := Option.bind_eq_some_iff.mp H
                          obtain ⟨t110_1, t110_2, t110_3, t110_4, t110_5, t110_6, t110_7, t110_8, t110_9, t110_10, t110_11, t110_12, t110_13, t110_14, t110_15, t110_16, t110_17, t110_18, t110_19, t110_20, t110_21, t110_22, t110_23, t110_24, t110_25⟩ := t110
                          (try dsimp only at H)
                          by_cases c13 : ((decide (t81_25 = 0)) == (decide ((Go.bits .and .u8 a4 15) = 2))) = true
                          · rw [if_pos c13] at H
                            by_cases c14 : t110_25 = 4
                            · rw [if_pos c14] at H
                              obtain ⟨t120, At120, H⟩ := Option.bind_eq_some_iff.mp H
                              have hret := Option.some.inj H
                              clear H
                              refine calls_of_wp (fn := Try.f9) (by kernel_rfl) rfl ?_
                              have hS := St.enter #[.agg #[.int .i64 a0_0, .int .i64 a0_1, .int .i64 a0_2, .int .i64 a0_3, .int .u64 a0_4, .int .i64 a0_5, .int .i64 a0_6, .int .i64 a0_7, .int .i64 a0_8, .int .u64 a0_9, .int .i64 a0_10, .int .i64 a0_11, .int .i64 a0_12, .int .i64 a0_13, .int .i64 a0_14, .int .i64 a0_15, .int .i64 a0_16, .int .u64 a0_17, .int .i64 a0_18, .int .i64 a0_19, .int .i64 a0_20, .int .i64 a0_21, .int .i64 a0_22], .int .u8 a1, .int .u8 a2, .int .u8 a3, .int .u8 a4] 108 (by simp) [(0, .agg #[.int .i64 a0_0, .int .i64 a0_1, .int .i64 a0_2, .int .i64 a0_3, .int .u64 a0_4, .int .i64 a0_5, .int .i64 a0_6, .int .i64 a0_7, .int .i64 a0_8, .int .u64 a0_9, .int .i64 a0_10, .int .i64 a0_11, .int .i64 a0_12, .int .i64 a0_13, .int .i64 a0_14, .int .i64 a0_15, .int .i64 a0_16, .int .u64 a0_17, .int .i64 a0_18, .int .i64 a0_19, .int .i64 a0_20, .int .i64 a0_21, .int .i64 a0_22]), (1, .int .u8 a1), (2, .int .u8 a2), (3, .int .u8 a3), (4, .int .u8 a4)] (by simp)
                              have HB0 := Below.refl w.heap.size w
                              refine wp_seq_k (fun K1 hK1 => ?_)
                              refine reg_seq (N := 108) (bs := [(0, .agg #[.int .i64 a0_0, .int .i64 a0_1, .int .i64 a0_2, .int .i64 a0_3, .int .u64 a0_4, .int .i64 a0_5, .int .i64 a0_6, .int .i64 a0_7, .int .i64 a0_8, .int .u64 a0_9, .int .i64 a0_10, .int .i64 a0_11, .int .i64 a0_12, .int .i64 a0_13, .int .i64 a0_14, .int .i64 a0_15, .int .i64 a0_16, .int .u64 a0_17, .int .i64 a0_18, .int .i64 a0_19, .int .i64 a0_20, .int .i64 a0_21, .int .i64 a0_22]), (1, .int .u8 a1), (2, .int .u8 a2), (3, .int .u8 a3), (4, .int .u8 a4)]) (I := fun x => Below w.heap.size w x) (ps := [IsB #[.int .i64 a0_0, .int .i64 a0_1, .int .i64 a0_2, .int .i64 a0_3, .int .u64 a0_4, .int .i64 a0_5, .int .i64 a0_6, .int .i64 a0_7, .int .i64 a0_8, .int .u64 a0_9, .int .i64 a0_10, .int .i64 a0_11, .int .i64 a0_12, .int .i64 a0_13, .int .i64 a0_14, .int .i64 a0_15, .int .i64 a0_16, .int .u64 a0_17, .int .i64 a0_18, .int .i64 a0_19, .int .i64 a0_20, .int .i64 a0_21, .int .i64 a0_22] 28 w.heap.size, IsV (.bool false)]) (by kernel_rfl) ?_ ?_ rfl hS HB0 ?_ ?_
                              · exact fun x y hI hb => below_step hI hb
                              · exact AllStay.cons (Stays.b _ _ _) (AllStay.cons (Stays.v _) (AllStay.nil))
                              · refine Steps.cons (fun a w hS hI hp => ok_on rfl (does_var (x_box rfl (congrArg Value.cells (hS.get 0 rfl))) (hI).size)) ?_
                                refine Steps.cons (fun a w hS hI hp => ok_on rfl (does_val (x_assign rfl (rfl)) rfl)) ?_
                                exact Steps.nil
                              clear hS
                              intro at2 w3 hS hI hp
                              have hBw3_w := hI
                              replace hS := ((((hS.nil).cons (hS.get 4 rfl)).cons (hS.get 3 rfl)).cons (hS.get 2 rfl)).cons (hS.get 1 rfl)
                              obtain ⟨g4, hv5, hgeg4, hbxg4⟩ := (show IsB _ 28 _ (sl _ 5) _ from hp 0 (by decide))
                              have hv10 : sl _ 10 = .bool false := hp 1 (by decide)
                              have hBw3_w3 := Below.refl w3.heap.size w3
                              have hS := hS.cons hv5
                              have hS := hS.cons hv10
                              clear hp hI hv5 hv10
                              refine hK1 _ _ ?_
                              clear hK1 K1
                              refine wp_seq_k (fun K5 hK5 => ?_)
                              refine reg_seq (N := 108) (bs := [(10, .bool false), (5, .pointer (some ⟨g4, 0, none⟩)), (1, .int .u8 a1), (2, .int .u8 a2), (3, .int .u8 a3), (4, .int .u8 a4)]) (I := fun x => Below w.heap.size w x ∧ Below w3.heap.size w3 x) (ps := [IsV (.agg #[.int .i64 a0_0, .int .i64 a0_1, .int .i64 a0_2, .int .i64 a0_3, .int .u64 a0_4, .int .i64 a0_5, .int .i64 a0_6, .int .i64 a0_7, .int .i64 a0_8, .int .u64 a0_9, .int .i64 a0_10, .int .i64 a0_11, .int .i64 a0_12, .int .i64 a0_13, .int .i64 a0_14, .int .i64 a0_15, .int .i64 a0_16, .int .u64 a0_17, .int .i64 a0_18, .int .i64 a0_19, .int .i64 a0_20, .int .i64 a0_21, .int .i64 a0_22]), IsTR (Kd.int .u8) 5 w3.heap.size t6_1 [.bool t6_2], IsTR (Kd.int .u8) 5 w3.heap.size t6_1 [.bool t6_2], IsR (Kd.int .u8) 5 w3.heap.size t6_1, IsV (.bool t6_2), IsR (Kd.int .u8) 5 w3.heap.size t6_1, IsV (.bool t6_2)]) (by kernel_rfl) ?_ ?_ rfl hS ⟨hBw3_w, hBw3_w3⟩ ?_ ?_
                              · exact fun x y hI hb => ⟨below_step hI.1 hb, below_step hI.2 hb⟩
                              · exact AllStay.cons (Stays.v _) (AllStay.cons (Stays.tr _ _ _ _ _) (AllStay.cons (Stays.tr _ _ _ _ _) (AllStay.cons (Stays.r _ _ _ _) (AllStay.cons (Stays.v _) (AllStay.cons (Stays.r _ _ _ _) (AllStay.cons (Stays.v _) (AllStay.nil)))))))
                              · refine Steps.cons (fun a w hS hI hp => ok_on rfl (does_loadrow rfl (hS.get 1 rfl) (((hI.2).block g4 (blk_lt hbxg4)).trans hbxg4) Try.underlying28 rfl (by kernel_rfl) rfl)) ?_
                                refine Steps.cons (fun a w hS hI hp => ok_on rfl (does_call (by kernel_rfl) (ar2 ((hp.get 0 (by rfl) rfl rfl)) (rfl)) ((header_Put.calls k a0_0 a0_1 a0_2 a0_3 a0_4 a0_5 a0_6 a0_7 a0_8 a0_9 a0_10 a0_11 a0_12 a0_13 a0_14 a0_15 a0_16 a0_17 a0_18 a0_19 a0_20 a0_21 a0_22 34 t6_1 t6_2 _  At6).mono fun _ _ h => h.elim fun v0 h => ⟨_, h.1, h.2.2, v0, rfl, Kd.R_lower h.2.1 hI.2.size⟩))) ?_
                                refine Steps.cons (fun a w hS hI hp => ok_on rfl (does_val (x_move rfl rfl) ((hp.get 1 (by rfl) rfl rfl)))) ?_
                                refine Steps.cons (fun a w hS hI hp => ok_on rfl (((hp.get 2 (by rfl) rfl rfl)).elim fun v0 h0 => does_val (x_extract rfl h0.1 rfl) h0.2)) ?_
                                refine Steps.cons (fun a w hS hI hp => ok_on rfl (((hp.get 2 (by rfl) rfl rfl)).elim fun v0 h0 => does_val (x_extract rfl h0.1 rfl) rfl)) ?_
                                refine Steps.cons (fun a w hS hI hp => ok_on rfl (does_val (x_assign rfl rfl) ((hp.get 3 (by rfl) rfl rfl)))) ?_
                                refine Steps.cons (fun a w hS hI hp => ok_on rfl (does_val (x_assign rfl ((hp.get 4 (by rfl) rfl rfl))) rfl)) ?_
                                exact Steps.nil
                              clear hS
                              intro at7 w8 hS hI hp
                              have hBw8_w := hI.1
                              have hBw8_w3 := hI.2
                              replace hS := (((((hS.nil).cons (hS.get 5 rfl)).cons (hS.get 4 rfl)).cons (hS.get 3 rfl)).cons (hS.get 2 rfl)).cons (hS.get 0 rfl)
                              obtain ⟨A9, C9, hv11, hl9, hc9⟩ := Kd.R_reads (show Kd.R (Kd.int .u8) 5 w8 w3.heap.size (fun _ => True) (sl _ 11) t6_1 from hp 5 (by decide))
                              have ho9 : Kd.R (Kd.int .u8) 5 w8 w3.heap.size (fun _ => True) (.slice A9 t6_1.length C9) t6_1 := hv11 ▸ (hp 5 (by decide))
                              have hv12 : sl _ 12 = .bool t6_2 := hp 6 (by decide)
                              have hBw8_w8 := Below.refl w8.heap.size w8
                              have hS := hS.cons hv11
                              have hS := hS.cons hv12
                              clear hp hI hv11 hv12
                              refine hK5 _ _ ?_
                              clear hK5 K5
                              refine wp_seq_k (fun K10 hK10 => ?_)
                              refine wp_seq_k (fun K11 hK11 => ?_)
                              refine reg_seq (N := 108) (bs := [(12, .bool t6_2), (11, .slice A9 t6_1.length C9), (10, .bool false), (1, .int .u8 a1), (2, .int .u8 a2), (3, .int .u8 a3), (4, .int .u8 a4)]) (I := fun x => Below w.heap.size w x ∧ Below w3.heap.size w3 x ∧ Below w8.heap.size w8 x) (ps := [IsV (.bool t6_2), IsV (.bool (!t6_2))]) (by kernel_rfl) ?_ ?_ rfl hS ⟨hBw8_w, hBw8_w3, hBw8_w8⟩ ?_ ?_
                              · exact fun x y hI hb => ⟨below_step hI.1 hb, below_step hI.2.1 hb, below_step hI.2.2 hb⟩
                              · exact AllStay.cons (Stays.v _) (AllStay.cons (Stays.v _) (AllStay.nil))
                              · refine Steps.cons (fun a w hS hI hp => ok_on rfl (does_val (x_move rfl (hS.get 0 rfl)) rfl)) ?_
                                refine Steps.cons (fun a w hS hI hp => ok_on rfl (does_val (x_not rfl ((hp.get 0 (by rfl) rfl rfl))) rfl)) ?_
                                exact Steps.nil
                              clear hS
                              intro at12 w13 hS hI hp
                              have hBw13_w := hI.1
                              have hBw13_w3 := hI.2.1
                              have hBw13_w8 := hI.2.2
                              replace hS := ((((((hS.nil).cons (hS.get 6 rfl)).cons (hS.get 5 rfl)).cons (hS.get 4 rfl)).cons (hS.get 3 rfl)).cons (hS.get 2 rfl)).cons (hS.get 1 rfl)
                              have hv31 : sl _ 31 = .bool (!t6_2) := hp 1 (by decide)
                              have hBw13_w13 := Below.refl w13.heap.size w13
                              have hS := hS.cons hv31
                              clear hp hI hv31
                              refine hK11 _ _ ?_
                              clear hK11 K11
                              refine wp_cond_false ((hS.get 0 rfl).trans (bF (congrArg (!·) c1))) ?_
                              refine wp_skip ?_
                              refine hK10 _ _ ?_
                              clear hK10 K10
                              refine wp_seq_k (fun K14 hK14 => ?_)
                              refine reg_seq_tail 7 (N := 108) (bs := [(31, .bool (!t6_2)), (11, .slice A9 t6_1.length C9), (10, .bool false), (1, .int .u8 a1), (2, .int .u8 a2), (3, .int .u8 a3), (4, .int .u8 a4)]) (I := fun x => Below w.heap.size w x ∧ Below w3.heap.size w3 x ∧ Below w8.heap.size w8 x ∧ Below w13.heap.size w13 x) (ps := [IsV (.slice A9 t6_1.length C9), IsV (.tuple #[.agg #[.int .i64 t15_1, .int .i64 t15_2, .int .i64 t15_3, .int .i64 t15_4, .int .u64 t15_5, .int .i64 t15_6, .int .i64 t15_7, .int .i64 t15_8, .int .i64 t15_9, .int .u64 t15_10, .int .i64 t15_11, .int .i64 t15_12, .int .i64 t15_13, .int .i64 t15_14, .int .i64 t15_15, .int .i64 t15_16, .int .i64 t15_17, .int .u64 t15_18, .int .i64 t15_19, .int .i64 t15_20, .int .i64 t15_21, .int .i64 t15_22, .int .i64 t15_23], .int .i64 t15_24, .int .i64 t15_25]), IsV (.tuple #[.agg #[.int .i64 t15_1, .int .i64 t15_2, .int .i64 t15_3, .int .i64 t15_4, .int .u64 t15_5, .int .i64 t15_6, .int .i64 t15_7, .int .i64 t15_8, .int .i64 t15_9, .int .u64 t15_10, .int .i64 t15_11, .int .i64 t15_12, .int .i64 t15_13, .int .i64 t15_14, .int .i64 t15_15, .int .i64 t15_16, .int .i64 t15_17, .int .u64 t15_18, .int .i64 t15_19, .int .i64 t15_20, .int .i64 t15_21, .int .i64 t15_22, .int .i64 t15_23], .int .i64 t15_24, .int .i64 t15_25]), IsV (.agg #[.int .i64 t15_1, .int .i64 t15_2, .int .i64 t15_3, .int .i64 t15_4, .int .u64 t15_5, .int .i64 t15_6, .int .i64 t15_7, .int .i64 t15_8, .int .i64 t15_9, .int .u64 t15_10, .int .i64 t15_11, .int .i64 t15_12, .int .i64 t15_13, .int .i64 t15_14, .int .i64 t15_15, .int .i64 t15_16, .int .i64 t15_17, .int .u64 t15_18, .int .i64 t15_19, .int .i64 t15_20, .int .i64 t15_21, .int .i64 t15_22, .int .i64 t15_23]), IsV (.int .i64 t15_24), IsV (.int .i64 t15_25), IsB #[.int .i64 0, .int .i64 0, .int .i64 0, .int .i64 0, .int .u64 0, .int .i64 0, .int .i64 0, .int .i64 0, .int .i64 0, .int .u64 0, .int .i64 0, .int .i64 0, .int .i64 0, .int .i64 0, .int .i64 0, .int .i64 0, .int .i64 0, .int .u64 0, .int .i64 0, .int .i64 0, .int .i64 0, .int .i64 0, .int .i64 0] 28 w13.heap.size]) (by kernel_rfl) ?_ ?_ rfl hS ⟨hBw13_w, hBw13_w3, hBw13_w8, hBw13_w13⟩ ?_ ?_
                              · exact fun x y hI hb => ⟨below_step hI.1 hb, below_step hI.2.1 hb, below_step hI.2.2.1 hb, below_step hI.2.2.2 hb⟩
                              · exact AllStay.cons (Stays.v _) (AllStay.cons (Stays.v _) (AllStay.cons (Stays.v _) (AllStay.cons (Stays.v _) (AllStay.cons (Stays.v _) (AllStay.cons (Stays.v _) (AllStay.cons (Stays.b _ _ _) (AllStay.nil)))))))
                              · refine Steps.cons (fun a w hS hI hp => ok_on rfl (does_val (x_move rfl (hS.get 1 rfl)) rfl)) ?_
                                refine Steps.cons (fun a w hS hI hp => ok_on rfl (does_call (by kernel_rfl) (ar1 ((hp.get 0 (by rfl) rfl rfl))) ((header_Get.calls k _ _ t6_1 t15_1 t15_2 t15_3 t15_4 t15_5 t15_6 t15_7 t15_8 t15_9 t15_10 t15_11 t15_12 t15_13 t15_14 t15_15 t15_16 t15_17 t15_18 t15_19 t15_20 t15_21 t15_22 t15_23 t15_24 t15_25 _ (Kd.C_below hc9 hI.2.2.1) hl9 At15).mono fun _ _ h => ⟨_, h.1, h.2, rfl⟩))) ?_
                                refine Steps.cons (fun a w hS hI hp => ok_on rfl (does_val (x_move rfl ((hp.get 1 (by rfl) rfl rfl))) rfl)) ?_
                                refine Steps.cons (fun a w hS hI hp => ok_on rfl (does_val (x_extract rfl ((hp.get 2 (by rfl) rfl rfl)) rfl) rfl)) ?_
                                refine Steps.cons (fun a w hS hI hp => ok_on rfl (does_val (x_extract rfl ((hp.get 2 (by rfl) rfl rfl)) rfl) rfl)) ?_
                                refine Steps.cons (fun a w hS hI hp => ok_on rfl (does_val (x_extract rfl ((hp.get 2 (by rfl) rfl rfl)) rfl) rfl)) ?_
                                refine Steps.cons (fun a w hS hI hp => ok_on rfl (does_var (x_alloc rfl (by kernel_rfl)) (hI.2.2.2).size)) ?_
                                exact Steps.nil
                              clear hS
                              intro at16 w17 hS hI hp
                              have hBw17_w := hI.1
                              have hBw17_w3 := hI.2.1
                              have hBw17_w8 := hI.2.2.1
                              have hBw17_w13 := hI.2.2.2
                              have hv36 : sl _ 36 = .agg #[.int .i64 t15_1, .int .i64 t15_2, .int .i64 t15_3, .int .i64 t15_4, .int .u64 t15_5, .int .i64 t15_6, .int .i64 t15_7, .int .i64 t15_8, .int .i64 t15_9, .int .u64 t15_10, .int .i64 t15_11, .int .i64 t15_12, .int .i64 t15_13, .int .i64 t15_14, .int .i64 t15_15, .int .i64 t15_16, .int .i64 t15_17, .int .u64 t15_18, .int .i64 t15_19, .int .i64 t15_20, .int .i64 t15_21, .int .i64 t15_22, .int .i64 t15_23] := hp 3 (by decide)
                              have hv37 : sl _ 37 = .int .i64 t15_24 := hp 4 (by decide)
                              have hv38 : sl _ 38 = .int .i64 t15_25 := hp 5 (by decide)
                              obtain ⟨g18, hv13, hgeg18, hbxg18⟩ := (show IsB _ 28 _ (sl _ 13) _ from hp 6 (by decide))
                              have hBw17_w17 := Below.refl w17.heap.size w17
                              have hS := hS.cons hv36
                              have hS := hS.cons hv37
                              have hS := hS.cons hv38
                              have hS := hS.cons hv13
                              clear hp hI hv36 hv37 hv38 hv13
                              show wpList _ _ _ [_, _, _] _ _
                              refine list_step rfl (does_storeAll (g := g18) (cs := #[.int .i64 t15_1, .int .i64 t15_2, .int .i64 t15_3, .int .i64 t15_4, .int .u64 t15_5, .int .i64 t15_6, .int .i64 t15_7, .int .i64 t15_8, .int .i64 t15_9, .int .u64 t15_10, .int .i64 t15_11, .int .i64 t15_12, .int .i64 t15_13, .int .i64 t15_14, .int .i64 t15_15, .int .i64 t15_16, .int .i64 t15_17, .int .u64 t15_18, .int .i64 t15_19, .int .i64 t15_20, .int .i64 t15_21, .int .i64 t15_22, .int .i64 t15_23]) rfl (hS.get 0 rfl) (hS.get 3 rfl) ((hBw17_w17.block g18 (blk_lt hbxg18)).trans hbxg18) (by kernel_rfl) (by kernel_rfl) (by kernel_rfl)) ?_
                              rintro vw19 w19 ⟨rfl, hbxw19, hT⟩
                              have hBw19_w := hT.below hBw17_w (Nat.le_trans (hBw13_w).size hgeg18) (hBw17_w).size
                              have hBw19_w3 := hT.below hBw17_w3 (Nat.le_trans (hBw13_w3).size hgeg18) (hBw17_w3).size
                              have hBw19_w8 := hT.below hBw17_w8 (Nat.le_trans (hBw13_w8).size hgeg18) (hBw17_w8).size
                              have hBw19_w13 := hT.below hBw17_w13 hgeg18 (hBw17_w13).size
                              have hBw19_w19 := Below.refl w19.heap.size w19
                              clear hT
                              refine list_step rfl (R := fun v w' => Below _ _ w' ∧ (IsV (.int .i64 t15_24)) v w') (does_val (x_assign rfl (hS.get 2 rfl)) rfl) ?_
                              rintro vw20 w20 ⟨hb, he⟩
                              have hBw20_w := below_step hBw19_w hb
                              have hBw20_w3 := below_step hBw19_w3 hb
                              have hBw20_w8 := below_step hBw19_w8 hb
                              have hBw20_w13 := below_step hBw19_w13 hb
                              have hBw20_w19 := below_step hBw19_w19 hb
                              have hBw20_w20 := Below.refl w20.heap.size w20
                              obtain rfl : vw20 = .int .i64 t15_24 := he
                              refine hS.next (v := .int .i64 t15_24) (d := 14) rfl (by decide) (by rfl) ?_
                              clear hS
                              intro at21 hS
                              refine list_step rfl (R := fun v w' => Below _ _ w' ∧ (IsV (.int .i64 t15_25)) v w') (does_val (x_assign rfl (hS.get 2 rfl)) rfl) ?_
                              rintro vw22 w22 ⟨hb, he⟩
                              have hBw22_w := below_step hBw20_w hb
                              have hBw22_w3 := below_step hBw20_w3 hb
                              have hBw22_w8 := below_step hBw20_w8 hb
                              have hBw22_w13 := below_step hBw20_w13 hb
                              have hBw22_w19 := below_step hBw20_w19 hb
                              have hBw22_w20 := below_step hBw20_w20 hb
                              have hBw22_w22 := Below.refl w22.heap.size w22
                              obtain rfl : vw22 = .int .i64 t15_25 := he
                              refine hS.next (v := .int .i64 t15_25) (d := 15) rfl (by decide) (by rfl) ?_
                              clear hS
                              intro at23 hS
                              refine wpList_nil ?_
                              refine hK14 _ _ ?_
                              clear hK14 K14
                              refine wp_seq_k (fun K24 hK24 => ?_)
                              refine reg_seq_tail 5 (N := 108) (bs := [(15, .int .i64 t15_25), (14, .int .i64 t15_24), (13, .pointer (some ⟨g18, 0, none⟩)), (38, .int .i64 t15_25), (37, .int .i64 t15_24), (36, .agg #[.int .i64 t15_1, .int .i64 t15_2, .int .i64 t15_3, .int .i64 t15_4, .int .u64 t15_5, .int .i64 t15_6, .int .i64 t15_7, .int .i64 t15_8, .int .i64 t15_9, .int .u64 t15_10, .int .i64 t15_11, .int .i64 t15_12, .int .i64 t15_13, .int .i64 t15_14, .int .i64 t15_15, .int .i64 t15_16, .int .i64 t15_17, .int .u64 t15_18, .int .i64 t15_19, .int .i64 t15_20, .int .i64 t15_21, .int .i64 t15_22, .int .i64 t15_23]), (31, .bool (!t6_2)), (11, .slice A9 t6_1.length C9), (10, .bool false), (1, .int .u8 a1), (2, .int .u8 a2), (3, .int .u8 a3), (4, .int .u8 a4)]) (I := fun x => Below w.heap.size w x ∧ Below w3.heap.size w3 x ∧ Below w8.heap.size w8 x ∧ Below w13.heap.size w13 x ∧ Below w19.heap.size w19 x ∧ Below w22.heap.size w22 x) (ps := [IsV (.slice A9 t6_1.length C9), IsV (.int .u8 a4), IsV (.int .u8 (Go.bits .and .u8 a4 240)), IsV (.int .u8 (Go.bits .or .u8 (Go.bits .and .u8 a4 240) 2)), IsP A9 (1 : Int).toNat]) (by kernel_rfl) ?_ ?_ rfl hS ⟨hBw22_w, hBw22_w3, hBw22_w8, hBw22_w13, hBw22_w19, hBw22_w22⟩ ?_ ?_
                              · exact fun x y hI hb => ⟨below_step hI.1 hb, below_step hI.2.1 hb, below_step hI.2.2.1 hb, below_step hI.2.2.2.1 hb, below_step hI.2.2.2.2.1 hb, below_step hI.2.2.2.2.2 hb⟩
                              · exact AllStay.cons (Stays.v _) (AllStay.cons (Stays.v _) (AllStay.cons (Stays.v _) (AllStay.cons (Stays.v _) (AllStay.cons (stays_p _ _) (AllStay.nil)))))
                              · refine Steps.cons (fun a w hS hI hp => ok_on rfl (does_val (x_move rfl (hS.get 7 rfl)) rfl)) ?_
                                refine Steps.cons (fun a w hS hI hp => ok_on rfl (does_val (x_move rfl (hS.get 12 rfl)) rfl)) ?_
                                refine Steps.cons (fun a w hS hI hp => ok_on rfl (does_val (x_bin rfl ((hp.get 1 (by rfl) rfl rfl)) (rfl) (b_and _ _ _ _ _ _)) rfl)) ?_
                                refine Steps.cons (fun a w hS hI hp => ok_on rfl (does_val (x_bin rfl ((hp.get 2 (by rfl) rfl rfl)) (rfl) (b_or _ _ _ _ _ _)) rfl)) ?_
                                refine Steps.cons (fun a w hS hI hp => ok_on rfl (does_place (e := 5) (xs := t6_1) (i := 1) rfl ((hp.get 0 (by rfl) rfl rfl)) (rfl) (by kernel_rfl) (by kernel_rfl) (by decide) c2 (Kd.R_below ho9 hI.2.2.1))) ?_
                                exact Steps.nil
                              clear hS
                              intro at25 w26 hS hI hp
                              have hBw26_w := hI.1
                              have hBw26_w3 := hI.2.1
                              have hBw26_w8 := hI.2.2.1
                              have hBw26_w13 := hI.2.2.2.1
                              have hBw26_w19 := hI.2.2.2.2.1
                              have hBw26_w22 := hI.2.2.2.2.2
                              replace hS := (((((((((hS.nil).cons (hS.get 12 rfl)).cons (hS.get 11 rfl)).cons (hS.get 10 rfl)).cons (hS.get 9 rfl)).cons (hS.get 8 rfl)).cons (hS.get 7 rfl)).cons (hS.get 6 rfl)).cons (hS.get 2 rfl)).cons (hS.get 0 rfl)
                              have hv42 : sl _ 42 = .int .u8 (Go.bits .or .u8 (Go.bits .and .u8 a4 240) 2) := hp 3 (by decide)
                              obtain ⟨g27, hAg27, hv43⟩ := (show IsP A9 (1 : Int).toNat (sl _ 43) w26 from hp 4 (by decide))
                              have hBw26_w26 := Below.refl w26.heap.size w26
                              have hS := hS.cons hv42
                              have hS := hS.cons hv43
                              clear hp hI hv42 hv43
                              show wpList _ _ _ [_] _ _
                              refine list_step rfl (does_put (e := 5) (xs := t6_1) (i := 1) (u := (Go.bits .or .u8 (Go.bits .and .u8 a4 240) 2)) rfl ⟨g27, hAg27, hS.get 0 rfl⟩ (hS.get 1 rfl) (by kernel_rfl) (by decide) c2 (Kd.R_below ho9 hBw26_w8)) ?_
                              rintro vw28 w28 ⟨rfl, g29, hA29, hge29, hlt29, hT, ho29⟩
                              have hBw28_w := hT.below hBw26_w (Nat.le_trans (hBw3_w).size hge29) (hBw26_w).size
                              have hBw28_w3 := hT.below hBw26_w3 hge29 (hBw26_w3).size
                              have hn29 : ((t6_1.set (1 : Int).toNat (Go.bits .or .u8 (Go.bits .and .u8 a4 240) 2)).length : Nat) = t6_1.length := by simp [List.length_set]
                              rw [← hn29] at ho29
                              have hc29 := (Kd.R_reads' ho29).2.2
                              have hna30 : ∀ g_ : Nat, A9 = some ⟨g_, 0, none⟩ → g18 ≠ g_ := fun g_ e_ => by have h1_ := (own_block ho9 (by have := c2; omega)); obtain ⟨x_, _, a_, _, c_, _⟩ := h1_; rw [e_] at a_; injection a_ with a_; injection a_ with a_; have h2_ := blk_lt c_; have h3_ := Nat.le_trans (hBw13_w8).size hgeg18; omega
                              have hn31 := hT.blk ((hBw26_w19.block g18 (blk_lt hbxw19)).trans hbxw19) (hna30 _ hA29)
                              replace hS := (((((((((((hS.nil).cons (hS.get 10 rfl)).cons (hS.get 9 rfl)).cons (hS.get 8 rfl)).cons (hS.get 7 rfl)).cons (hS.get 6 rfl)).cons ((hS.get 5 rfl).trans (congrArg (fun n => Value.slice A9 n C9) hn29.symm))).cons (hS.get 4 rfl)).cons (hS.get 3 rfl)).cons (hS.get 2 rfl)).cons (hS.get 1 rfl)).cons (hS.get 0 rfl)
                              have hBw28_w28 := Below.refl w28.heap.size w28
                              clear hT
                              refine wpList_nil ?_
                              refine hK24 _ _ ?_
                              clear hK24 K24
                              refine wp_seq_k (fun K32 hK32 => ?_)
                              refine reg_seq_tail 9 (N := 108) (bs := [(43, .pointer (some (⟨g27, (1 : Int).toNat, none⟩))), (42, .int .u8 (Go.bits .or .u8 (Go.bits .and .u8 a4 240) 2)), (15, .int .i64 t15_25), (13, .pointer (some ⟨g18, 0, none⟩)), (31, .bool (!t6_2)), (11, .slice A9 ((t6_1.set (1 : Int).toNat (Go.bits .or .u8 (Go.bits .and .u8 a4 240) 2)).length) C9), (10, .bool false), (1, .int .u8 a1), (2, .int .u8 a2), (3, .int .u8 a3), (4, .int .u8 a4)]) (I := fun x => Below w.heap.size w x ∧ Below w3.heap.size w3 x ∧ Below w28.heap.size w28 x) (ps := [IsV (.slice A9 ((t6_1.set (1 : Int).toNat (Go.bits .or .u8 (Go.bits .and .u8 a4 240) 2)).length) C9), IsV (.slice A9 ((t6_1.set (1 : Int).toNat (Go.bits .or .u8 (Go.bits .and .u8 a4 240) 2)).length) C9), IsV (.slice A9 ((t6_1.set (1 : Int).toNat (Go.bits .or .u8 (Go.bits .and .u8 a4 240) 2)).length) C9), IsV (.slice A9 ((t6_1.set (1 : Int).toNat (Go.bits .or .u8 (Go.bits .and .u8 a4 240) 2)).length) C9), IsV (.int .u8 a1), IsV (.int .u8 a2), IsV (.int .u8 a3), IsV (.int .u8 a1), IsP A9 (5 : Int).toNat]) (by kernel_rfl) ?_ ?_ rfl hS ⟨hBw28_w, hBw28_w3, hBw28_w28⟩ ?_ ?_
                              · exact fun x y hI hb => ⟨below_step hI.1 hb, below_step hI.2.1 hb, below_step hI.2.2 hb⟩
                              · exact AllStay.cons (Stays.v _) (AllStay.cons (Stays.v _) (AllStay.cons (Stays.v _) (AllStay.cons (Stays.v _) (AllStay.cons (Stays.v _) (AllStay.cons (Stays.v _) (AllStay.cons (Stays.v _) (AllStay.cons (Stays.v _) (AllStay.cons (stays_p _ _) (AllStay.nil)))))))))
                              · refine Steps.cons (fun a w hS hI hp => ok_on rfl (does_val (x_move rfl (hS.get 5 rfl)) rfl)) ?_
                                refine Steps.cons (fun a w hS hI hp => ok_on rfl (does_val (x_move rfl (hS.get 5 rfl)) rfl)) ?_
                                refine Steps.cons (fun a w hS hI hp => ok_on rfl (does_val (x_move rfl (hS.get 5 rfl)) rfl)) ?_
                                refine Steps.cons (fun a w hS hI hp => ok_on rfl (does_val (x_move rfl (hS.get 5 rfl)) rfl)) ?_
                                refine Steps.cons (fun a w hS hI hp => ok_on rfl (does_val (x_move rfl (hS.get 7 rfl)) rfl)) ?_
                                refine Steps.cons (fun a w hS hI hp => ok_on rfl (does_val (x_move rfl (hS.get 8 rfl)) rfl)) ?_
                                refine Steps.cons (fun a w hS hI hp => ok_on rfl (does_val (x_move rfl (hS.get 9 rfl)) rfl)) ?_
                                refine Steps.cons (fun a w hS hI hp => ok_on rfl (does_val (x_move rfl (hS.get 7 rfl)) rfl)) ?_
                                refine Steps.cons (fun a w hS hI hp => ok_on rfl (does_place (e := 5) (xs := (t6_1.set (1 : Int).toNat (Go.bits .or .u8 (Go.bits .and .u8 a4 240) 2))) (i := 5) rfl ((hp.get 0 (by rfl) rfl rfl)) (rfl) (by kernel_rfl) (by kernel_rfl) (by decide) c3 (Kd.R_below ho29 hI.2.2))) ?_
                                exact Steps.nil
                              clear hS
                              intro at33 w34 hS hI hp
                              have hBw34_w := hI.1
                              have hBw34_w3 := hI.2.1
                              have hBw34_w28 := hI.2.2
                              replace hS := ((((((hS.nil).cons (hS.get 10 rfl)).cons (hS.get 6 rfl)).cons (hS.get 5 rfl)).cons (hS.get 4 rfl)).cons (hS.get 3 rfl)).cons (hS.get 2 rfl)
                              have hv45 : sl _ 45 = .slice A9 ((t6_1.set (1 : Int).toNat (Go.bits .or .u8 (Go.bits .and .u8 a4 240) 2)).length) C9 := hp 1 (by decide)
                              have hv46 : sl _ 46 = .slice A9 ((t6_1.set (1 : Int).toNat (Go.bits .or .u8 (Go.bits .and .u8 a4 240) 2)).length) C9 := hp 2 (by decide)
                              have hv47 : sl _ 47 = .slice A9 ((t6_1.set (1 : Int).toNat (Go.bits .or .u8 (Go.bits .and .u8 a4 240) 2)).length) C9 := hp 3 (by decide)
                              have hv48 : sl _ 48 = .int .u8 a1 := hp 4 (by decide)
                              have hv49 : sl _ 49 = .int .u8 a2 := hp 5 (by decide)
                              have hv50 : sl _ 50 = .int .u8 a3 := hp 6 (by decide)
                              have hv51 : sl _ 51 = .int .u8 a1 := hp 7 (by decide)
                              obtain ⟨g35, hAg35, hv52⟩ := (show IsP A9 (5 : Int).toNat (sl _ 52) w34 from hp 8 (by decide))
                              have hBw34_w34 := Below.refl w34.heap.size w34
                              have hS := hS.cons hv45
                              have hS := hS.cons hv46
                              have hS := hS.cons hv47
                              have hS := hS.cons hv48
                              have hS := hS.cons hv49
                              have hS := hS.cons hv50
                              have hS := hS.cons hv51
                              have hS := hS.cons hv52
                              clear hp hI hv45 hv46 hv47 hv48 hv49 hv50 hv51 hv52
                              show wpList _ _ _ [_, _, _, _, _, _, _] _ _
                              refine list_step rfl (does_put (e := 5) (xs := (t6_1.set (1 : Int).toNat (Go.bits .or .u8 (Go.bits .and .u8 a4 240) 2))) (i := 5) (u := a1) rfl ⟨g35, hAg35, hS.get 0 rfl⟩ (hS.get 4 rfl) (by kernel_rfl) (by decide) c3 (Kd.R_below ho29 hBw34_w28)) ?_
                              rintro vw36 w36 ⟨rfl, g37, hA37, hge37, hlt37, hT, ho37⟩
                              have hBw36_w := hT.below hBw34_w (Nat.le_trans (hBw3_w).size hge37) (hBw34_w).size
                              have hBw36_w3 := hT.below hBw34_w3 hge37 (hBw34_w3).size
                              have hn37 : (((t6_1.set (1 : Int).toNat (Go.bits .or .u8 (Go.bits .and .u8 a4 240) 2)).set (5 : Int).toNat a1).length : Nat) = (t6_1.set (1 : Int).toNat (Go.bits .or .u8 (Go.bits .and .u8 a4 240) 2)).length := by simp [List.length_set]
                              rw [← hn37] at ho37
                              have hc37 := (Kd.R_reads' ho37).2.2
                              have hn38 := hT.blk ((hBw34_w28.block g18 (blk_lt hn31)).trans hn31) (hna30 _ hA37)
                              replace hS := ((((((((((((((hS.nil).cons (hS.get 13 rfl)).cons (hS.get 12 rfl)).cons ((hS.get 11 rfl).trans (congrArg (fun n => Value.slice A9 n C9) hn37.symm))).cons (hS.get 10 rfl)).cons (hS.get 9 rfl)).cons (hS.get 8 rfl)).cons ((hS.get 7 rfl).trans (congrArg (fun n => Value.slice A9 n C9) hn37.symm))).cons ((hS.get 6 rfl).trans (congrArg (fun n => Value.slice A9 n C9) hn37.symm))).cons ((hS.get 5 rfl).trans (congrArg (fun n => Value.slice A9 n C9) hn37.symm))).cons (hS.get 4 rfl)).cons (hS.get 3 rfl)).cons (hS.get 2 rfl)).cons (hS.get 1 rfl)).cons (hS.get 0 rfl)
                              have hBw36_w36 := Below.refl w36.heap.size w36
                              clear hT
                              refine list_step rfl (R := fun v w' => Below _ _ w' ∧ (IsP A9 (16 : Int).toNat) v w') (does_place (e := 5) (xs := ((t6_1.set (1 : Int).toNat (Go.bits .or .u8 (Go.bits .and .u8 a4 240) 2)).set (5 : Int).toNat a1)) (i := 16) rfl (hS.get 7 rfl) (rfl) (by kernel_rfl) (by kernel_rfl) (by decide) c4 (Kd.R_below ho37 hBw36_w36)) ?_
                              rintro vw39 w39 ⟨hb, he⟩
                              have hBw39_w := below_step hBw36_w hb
                              have hBw39_w3 := below_step hBw36_w3 hb
                              have hBw39_w36 := below_step hBw36_w36 hb
                              have hBw39_w39 := Below.refl w39.heap.size w39
                              obtain ⟨g40, hAg40, rfl⟩ := he
                              refine hS.next (v := .pointer (some (⟨g40, (16 : Int).toNat, none⟩))) (d := 53) rfl (by decide) (by rfl) ?_
                              clear hS
                              intro at41 hS
                              refine list_step rfl (does_put (e := 5) (xs := ((t6_1.set (1 : Int).toNat (Go.bits .or .u8 (Go.bits .and .u8 a4 240) 2)).set (5 : Int).toNat a1)) (i := 16) (u := a2) rfl ⟨g40, hAg40, hS.get 0 rfl⟩ (hS.get 4 rfl) (by kernel_rfl) (by decide) c4 (Kd.R_below ho37 hBw39_w36)) ?_
                              rintro vw42 w42 ⟨rfl, g43, hA43, hge43, hlt43, hT, ho43⟩
                              have hBw42_w := hT.below hBw39_w (Nat.le_trans (hBw3_w).size hge43) (hBw39_w).size
                              have hBw42_w3 := hT.below hBw39_w3 hge43 (hBw39_w3).size
                              have hn43 : ((((t6_1.set (1 : Int).toNat (Go.bits .or .u8 (Go.bits .and .u8 a4 240) 2)).set (5 : Int).toNat a1).set (16 : Int).toNat a2).length : Nat) = ((t6_1.set (1 : Int).toNat (Go.bits .or .u8 (Go.bits .and .u8 a4 240) 2)).set (5 : Int).toNat a1).length := by simp [List.length_set]
                              rw [← hn43] at ho43
                              have hc43 := (Kd.R_reads' ho43).2.2
                              have hn44 := hT.blk ((hBw39_w36.block g18 (blk_lt hn38)).trans hn38) (hna30 _ hA43)
                              replace hS := (((((((((((((((hS.nil).cons (hS.get 14 rfl)).cons (hS.get 13 rfl)).cons ((hS.get 12 rfl).trans (congrArg (fun n => Value.slice A9 n C9) hn43.symm))).cons (hS.get 11 rfl)).cons (hS.get 10 rfl)).cons (hS.get 9 rfl)).cons ((hS.get 8 rfl).trans (congrArg (fun n => Value.slice A9 n C9) hn43.symm))).cons ((hS.get 7 rfl).trans (congrArg (fun n => Value.slice A9 n C9) hn43.symm))).cons ((hS.get 6 rfl).trans (congrArg (fun n => Value.slice A9 n C9) hn43.symm))).cons (hS.get 5 rfl)).cons (hS.get 4 rfl)).cons (hS.get 3 rfl)).cons (hS.get 2 rfl)).cons (hS.get 1 rfl)).cons (hS.get 0 rfl)
                              have hBw42_w42 := Below.refl w42.heap.size w42
                              clear hT
                              refine list_step rfl (R := fun v w' => Below _ _ w' ∧ (IsP A9 (19 : Int).toNat) v w') (does_place (e := 5) (xs := (((t6_1.set (1 : Int).toNat (Go.bits .or .u8 (Go.bits .and .u8 a4 240) 2)).set (5 : Int).toNat a1).set (16 : Int).toNat a2)) (i := 19) rfl (hS.get 7 rfl) (rfl) (by kernel_rfl) (by kernel_rfl) (by decide) c5 (Kd.R_below ho43 hBw42_w42)) ?_
                              rintro vw45 w45 ⟨hb, he⟩
                              have hBw45_w := below_step hBw42_w hb
                              have hBw45_w3 := below_step hBw42_w3 hb
                              have hBw45_w42 := below_step hBw42_w42 hb
                              have hBw45_w45 := Below.refl w45.heap.size w45
                              obtain ⟨g46, hAg46, rfl⟩ := he
                              refine hS.next (v := .pointer (some (⟨g46, (19 : Int).toNat, none⟩))) (d := 54) rfl (by decide) (by rfl) ?_
                              clear hS
                              intro at47 hS
                              refine list_step rfl (does_put (e := 5) (xs := (((t6_1.set (1 : Int).toNat (Go.bits .or .u8 (Go.bits .and .u8 a4 240) 2)).set (5 : Int).toNat a1).set (16 : Int).toNat a2)) (i := 19) (u := a3) rfl ⟨g46, hAg46, hS.get 0 rfl⟩ (hS.get 4 rfl) (by kernel_rfl) (by decide) c5 (Kd.R_below ho43 hBw45_w42)) ?_
                              rintro vw48 w48 ⟨rfl, g49, hA49, hge49, hlt49, hT, ho49⟩
                              have hBw48_w := hT.below hBw45_w (Nat.le_trans (hBw3_w).size hge49) (hBw45_w).size
                              have hBw48_w3 := hT.below hBw45_w3 hge49 (hBw45_w3).size
                              have hn49 : (((((t6_1.set (1 : Int).toNat (Go.bits .or .u8 (Go.bits .and .u8 a4 240) 2)).set (5 : Int).toNat a1).set (16 : Int).toNat a2).set (19 : Int).toNat a3).length : Nat) = (((t6_1.set (1 : Int).toNat (Go.bits .or .u8 (Go.bits .and .u8 a4 240) 2)).set (5 : Int).toNat a1).set (16 : Int).toNat a2).length := by simp [List.length_set]
                              rw [← hn49] at ho49
                              have hc49 := (Kd.R_reads' ho49).2.2
                              have hn50 := hT.blk ((hBw45_w42.block g18 (blk_lt hn44)).trans hn44) (hna30 _ hA49)
                              replace hS := ((((((((((((((((hS.nil).cons (hS.get 15 rfl)).cons (hS.get 14 rfl)).cons ((hS.get 13 rfl).trans (congrArg (fun n => Value.slice A9 n C9) hn49.symm))).cons (hS.get 12 rfl)).cons (hS.get 11 rfl)).cons (hS.get 10 rfl)).cons ((hS.get 9 rfl).trans (congrArg (fun n => Value.slice A9 n C9) hn49.symm))).cons ((hS.get 8 rfl).trans (congrArg (fun n => Value.slice A9 n C9) hn49.symm))).cons ((hS.get 7 rfl).trans (congrArg (fun n => Value.slice A9 n C9) hn49.symm))).cons (hS.get 6 rfl)).cons (hS.get 5 rfl)).cons (hS.get 4 rfl)).cons (hS.get 3 rfl)).cons (hS.get 2 rfl)).cons (hS.get 1 rfl)).cons (hS.get 0 rfl)
                              have hBw48_w48 := Below.refl w48.heap.size w48
                              clear hT
                              refine list_step rfl (R := fun v w' => Below _ _ w' ∧ (IsP A9 (32 : Int).toNat) v w') (does_place (e := 5) (xs := ((((t6_1.set (1 : Int).toNat (Go.bits .or .u8 (Go.bits .and .u8 a4 240) 2)).set (5 : Int).toNat a1).set (16 : Int).toNat a2).set (19 : Int).toNat a3)) (i := 32) rfl (hS.get 7 rfl) (rfl) (by kernel_rfl) (by kernel_rfl) (by decide) c6 (Kd.R_below ho49 hBw48_w48)) ?_
                              rintro vw51 w51 ⟨hb, he⟩
                              have hBw51_w := below_step hBw48_w hb
                              have hBw51_w3 := below_step hBw48_w3 hb
                              have hBw51_w48 := below_step hBw48_w48 hb
                              have hBw51_w51 := Below.refl w51.heap.size w51
                              obtain ⟨g52, hAg52, rfl⟩ := he
                              refine hS.next (v := .pointer (some (⟨g52, (32 : Int).toNat, none⟩))) (d := 55) rfl (by decide) (by rfl) ?_
                              clear hS
                              intro at53 hS
                              refine list_step rfl (does_put (e := 5) (xs := ((((t6_1.set (1 : Int).toNat (Go.bits .or .u8 (Go.bits .and .u8 a4 240) 2)).set (5 : Int).toNat a1).set (16 : Int).toNat a2).set (19 : Int).toNat a3)) (i := 32) (u := a1) rfl ⟨g52, hAg52, hS.get 0 rfl⟩ (hS.get 4 rfl) (by kernel_rfl) (by decide) c6 (Kd.R_below ho49 hBw51_w48)) ?_
                              rintro vw54 w54 ⟨rfl, g55, hA55, hge55, hlt55, hT, ho55⟩
                              have hBw54_w := hT.below hBw51_w (Nat.le_trans (hBw3_w).size hge55) (hBw51_w).size
                              have hBw54_w3 := hT.below hBw51_w3 hge55 (hBw51_w3).size
                              have hn55 : ((((((t6_1.set (1 : Int).toNat (Go.bits .or .u8 (Go.bits .and .u8 a4 240) 2)).set (5 : Int).toNat a1).set (16 : Int).toNat a2).set (19 : Int).toNat a3).set (32 : Int).toNat a1).length : Nat) = ((((t6_1.set (1 : Int).toNat (Go.bits .or .u8 (Go.bits .and .u8 a4 240) 2)).set (5 : Int).toNat a1).set (16 : Int).toNat a2).set (19 : Int).toNat a3).length := by simp [List.length_set]
                              rw [← hn55] at ho55
                              have hc55 := (Kd.R_reads' ho55).2.2
                              have hn56 := hT.blk ((hBw51_w48.block g18 (blk_lt hn50)).trans hn50) (hna30 _ hA55)
                              replace hS := (((((((((((((((((hS.nil).cons (hS.get 16 rfl)).cons (hS.get 15 rfl)).cons ((hS.get 14 rfl).trans (congrArg (fun n => Value.slice A9 n C9) hn55.symm))).cons (hS.get 13 rfl)).cons (hS.get 12 rfl)).cons (hS.get 11 rfl)).cons ((hS.get 10 rfl).trans (congrArg (fun n => Value.slice A9 n C9) hn55.symm))).cons ((hS.get 9 rfl).trans (congrArg (fun n => Value.slice A9 n C9) hn55.symm))).cons ((hS.get 8 rfl).trans (congrArg (fun n => Value.slice A9 n C9) hn55.symm))).cons (hS.get 7 rfl)).cons (hS.get 6 rfl)).cons (hS.get 5 rfl)).cons (hS.get 4 rfl)).cons (hS.get 3 rfl)).cons (hS.get 2 rfl)).cons (hS.get 1 rfl)).cons (hS.get 0 rfl)
                              have hBw54_w54 := Below.refl w54.heap.size w54
                              clear hT
                              refine wpList_nil ?_
                              refine hK32 _ _ ?_
                              clear hK32 K32
                              refine wp_seq_k (fun K57 hK57 => ?_)
                              refine reg_seq_tail 7 (N := 108) (bs := [(55, .pointer (some (⟨g52, (32 : Int).toNat, none⟩))), (54, .pointer (some (⟨g46, (19 : Int).toNat, none⟩))), (53, .pointer (some (⟨g40, (16 : Int).toNat, none⟩))), (52, .pointer (some (⟨g35, (5 : Int).toNat, none⟩))), (51, .int .u8 a1), (50, .int .u8 a3), (49, .int .u8 a2), (48, .int .u8 a1), (47, .slice A9 ((((((t6_1.set (1 : Int).toNat (Go.bits .or .u8 (Go.bits .and .u8 a4 240) 2)).set (5 : Int).toNat a1).set (16 : Int).toNat a2).set (19 : Int).toNat a3).set (32 : Int).toNat a1).length) C9), (46, .slice A9 ((((((t6_1.set (1 : Int).toNat (Go.bits .or .u8 (Go.bits .and .u8 a4 240) 2)).set (5 : Int).toNat a1).set (16 : Int).toNat a2).set (19 : Int).toNat a3).set (32 : Int).toNat a1).length) C9), (45, .slice A9 ((((((t6_1.set (1 : Int).toNat (Go.bits .or .u8 (Go.bits .and .u8 a4 240) 2)).set (5 : Int).toNat a1).set (16 : Int).toNat a2).set (19 : Int).toNat a3).set (32 : Int).toNat a1).length) C9), (15, .int .i64 t15_25), (13, .pointer (some ⟨g18, 0, none⟩)), (31, .bool (!t6_2)), (11, .slice A9 ((((((t6_1.set (1 : Int).toNat (Go.bits .or .u8 (Go.bits .and .u8 a4 240) 2)).set (5 : Int).toNat a1).set (16 : Int).toNat a2).set (19 : Int).toNat a3).set (32 : Int).toNat a1).length) C9), (10, .bool false), (4, .int .u8 a4)]) (I := fun x => Below w.heap.size w x ∧ Below w3.heap.size w3 x ∧ Below w54.heap.size w54 x) (ps := [IsV (.slice A9 ((((((t6_1.set (1 : Int).toNat (Go.bits .or .u8 (Go.bits .and .u8 a4 240) 2)).set (5 : Int).toNat a1).set (16 : Int).toNat a2).set (19 : Int).toNat a3).set (32 : Int).toNat a1).length) C9), IsV (.tuple #[.agg #[.int .i64 t58_1, .int .i64 t58_2, .int .i64 t58_3, .int .i64 t58_4, .int .u64 t58_5, .int .i64 t58_6, .int .i64 t58_7, .int .i64 t58_8, .int .i64 t58_9, .int .u64 t58_10, .int .i64 t58_11, .int .i64 t58_12, .int .i64 t58_13, .int .i64 t58_14, .int .i64 t58_15, .int .i64 t58_16, .int .i64 t58_17, .int .u64 t58_18, .int .i64 t58_19, .int .i64 t58_20, .int .i64 t58_21, .int .i64 t58_22, .int .i64 t58_23], .int .i64 t58_24, .int .i64 t58_25]), IsV (.tuple #[.agg #[.int .i64 t58_1, .int .i64 t58_2, .int .i64 t58_3, .int .i64 t58_4, .int .u64 t58_5, .int .i64 t58_6, .int .i64 t58_7, .int .i64 t58_8, .int .i64 t58_9, .int .u64 t58_10, .int .i64 t58_11, .int .i64 t58_12, .int .i64 t58_13, .int .i64 t58_14, .int .i64 t58_15, .int .i64 t58_16, .int .i64 t58_17, .int .u64 t58_18, .int .i64 t58_19, .int .i64 t58_20, .int .i64 t58_21, .int .i64 t58_22, .int .i64 t58_23], .int .i64 t58_24, .int .i64 t58_25]), IsV (.agg #[.int .i64 t58_1, .int .i64 t58_2, .int .i64 t58_3, .int .i64 t58_4, .int .u64 t58_5, .int .i64 t58_6, .int .i64 t58_7, .int .i64 t58_8, .int .i64 t58_9, .int .u64 t58_10, .int .i64 t58_11, .int .i64 t58_12, .int .i64 t58_13, .int .i64 t58_14, .int .i64 t58_15, .int .i64 t58_16, .int .i64 t58_17, .int .u64 t58_18, .int .i64 t58_19, .int .i64 t58_20, .int .i64 t58_21, .int .i64 t58_22, .int .i64 t58_23]), IsV (.int .i64 t58_24), IsV (.int .i64 t58_25), IsB #[.int .i64 0, .int .i64 0, .int .i64 0, .int .i64 0, .int .u64 0, .int .i64 0, .int .i64 0, .int .i64 0, .int .i64 0, .int .u64 0, .int .i64 0, .int .i64 0, .int .i64 0, .int .i64 0, .int .i64 0, .int .i64 0, .int .i64 0, .int .u64 0, .int .i64 0, .int .i64 0, .int .i64 0, .int .i64 0, .int .i64 0] 28 w54.heap.size]) (by kernel_rfl) ?_ ?_ rfl hS ⟨hBw54_w, hBw54_w3, hBw54_w54⟩ ?_ ?_
                              · exact fun x y hI hb => ⟨below_step hI.1 hb, below_step hI.2.1 hb, below_step hI.2.2 hb⟩
                              · exact AllStay.cons (Stays.v _) (AllStay.cons (Stays.v _) (AllStay.cons (Stays.v _) (AllStay.cons (Stays.v _) (AllStay.cons (Stays.v _) (AllStay.cons (Stays.v _) (AllStay.cons (Stays.b _ _ _) (AllStay.nil)))))))
                              · refine Steps.cons (fun a w hS hI hp => ok_on rfl (does_val (x_move rfl (hS.get 14 rfl)) rfl)) ?_
                                refine Steps.cons (fun a w hS hI hp => ok_on rfl (does_call (by kernel_rfl) (ar1 ((hp.get 0 (by rfl) rfl rfl))) ((header_Get.calls k _ _ (((((t6_1.set (1 : Int).toNat (Go.bits .or .u8 (Go.bits .and .u8 a4 240) 2)).set (5 : Int).toNat a1).set (16 : Int).toNat a2).set (19 : Int).toNat a3).set (32 : Int).toNat a1) t58_1 t58_2 t58_3 t58_4 t58_5 t58_6 t58_7 t58_8 t58_9 t58_10 t58_11 t58_12 t58_13 t58_14 t58_15 t58_16 t58_17 t58_18 t58_19 t58_20 t58_21 t58_22 t58_23 t58_24 t58_25 _ (Kd.C_below hc55 hI.2.2) (hn55 ▸ (hn49 ▸ (hn43 ▸ (hn37 ▸ (hn29 ▸ hl9))))) At58).mono fun _ _ h => ⟨_, h.1, h.2, rfl⟩))) ?_
                                refine Steps.cons (fun a w hS hI hp => ok_on rfl (does_val (x_move rfl ((hp.get 1 (by rfl) rfl rfl))) rfl)) ?_
                                refine Steps.cons (fun a w hS hI hp => ok_on rfl (does_val (x_extract rfl ((hp.get 2 (by rfl) rfl rfl)) rfl) rfl)) ?_
                                refine Steps.cons (fun a w hS hI hp => ok_on rfl (does_val (x_extract rfl ((hp.get 2 (by rfl) rfl rfl)) rfl) rfl)) ?_
                                refine Steps.cons (fun a w hS hI hp => ok_on rfl (does_val (x_extract rfl ((hp.get 2 (by rfl) rfl rfl)) rfl) rfl)) ?_
                                refine Steps.cons (fun a w hS hI hp => ok_on rfl (does_var (x_alloc rfl (by kernel_rfl)) (hI.2.2).size)) ?_
                                exact Steps.nil
                              clear hS
                              intro at59 w60 hS hI hp
                              have hBw60_w := hI.1
                              have hBw60_w3 := hI.2.1
                              have hBw60_w54 := hI.2.2
                              replace hS := ((((((hS.nil).cons (hS.get 16 rfl)).cons (hS.get 15 rfl)).cons (hS.get 14 rfl)).cons (hS.get 13 rfl)).cons (hS.get 12 rfl)).cons (hS.get 11 rfl)
                              have hv59 : sl _ 59 = .agg #[.int .i64 t58_1, .int .i64 t58_2, .int .i64 t58_3, .int .i64 t58_4, .int .u64 t58_5, .int .i64 t58_6, .int .i64 t58_7, .int .i64 t58_8, .int .i64 t58_9, .int .u64 t58_10, .int .i64 t58_11, .int .i64 t58_12, .int .i64 t58_13, .int .i64 t58_14, .int .i64 t58_15, .int .i64 t58_16, .int .i64 t58_17, .int .u64 t58_18, .int .i64 t58_19, .int .i64 t58_20, .int .i64 t58_21, .int .i64 t58_22, .int .i64 t58_23] := hp 3 (by decide)
                              have hv60 : sl _ 60 = .int .i64 t58_24 := hp 4 (by decide)
                              have hv61 : sl _ 61 = .int .i64 t58_25 := hp 5 (by decide)
                              obtain ⟨g61, hv16, hgeg61, hbxg61⟩ := (show IsB _ 28 _ (sl _ 16) _ from hp 6 (by decide))
                              have hBw60_w60 := Below.refl w60.heap.size w60
                              have hS := hS.cons hv59
                              have hS := hS.cons hv60
                              have hS := hS.cons hv61
                              have hS := hS.cons hv16
                              clear hp hI hv59 hv60 hv61 hv16
                              show wpList _ _ _ [_, _, _] _ _
                              refine list_step rfl (does_storeAll (g := g61) (cs := #[.int .i64 t58_1, .int .i64 t58_2, .int .i64 t58_3, .int .i64 t58_4, .int .u64 t58_5, .int .i64 t58_6, .int .i64 t58_7, .int .i64 t58_8, .int .i64 t58_9, .int .u64 t58_10, .int .i64 t58_11, .int .i64 t58_12, .int .i64 t58_13, .int .i64 t58_14, .int .i64 t58_15, .int .i64 t58_16, .int .i64 t58_17, .int .u64 t58_18, .int .i64 t58_19, .int .i64 t58_20, .int .i64 t58_21, .int .i64 t58_22, .int .i64 t58_23]) rfl (hS.get 0 rfl) (hS.get 3 rfl) ((hBw60_w60.block g61 (blk_lt hbxg61)).trans hbxg61) (by kernel_rfl) (by kernel_rfl) (by kernel_rfl)) ?_
                              rintro vw62 w62 ⟨rfl, hbxw62, hT⟩
                              have hBw62_w := hT.below hBw60_w (Nat.le_trans (hBw54_w).size hgeg61) (hBw60_w).size
                              have hBw62_w3 := hT.below hBw60_w3 (Nat.le_trans (hBw54_w3).size hgeg61) (hBw60_w3).size
                              have hBw62_w54 := hT.below hBw60_w54 hgeg61 (hBw60_w54).size
                              have hBw62_w62 := Below.refl w62.heap.size w62
                              clear hT
                              refine list_step rfl (R := fun v w' => Below _ _ w' ∧ (IsV (.int .i64 t58_24)) v w') (does_val (x_assign rfl (hS.get 2 rfl)) rfl) ?_
                              rintro vw63 w63 ⟨hb, he⟩
                              have hBw63_w := below_step hBw62_w hb
                              have hBw63_w3 := below_step hBw62_w3 hb
                              have hBw63_w54 := below_step hBw62_w54 hb
                              have hBw63_w62 := below_step hBw62_w62 hb
                              have hBw63_w63 := Below.refl w63.heap.size w63
                              obtain rfl : vw63 = .int .i64 t58_24 := he
                              refine hS.next (v := .int .i64 t58_24) (d := 17) rfl (by decide) (by rfl) ?_
                              clear hS
                              intro at64 hS
                              refine list_step rfl (R := fun v w' => Below _ _ w' ∧ (IsV (.int .i64 t58_25)) v w') (does_val (x_assign rfl (hS.get 2 rfl)) rfl) ?_
                              rintro vw65 w65 ⟨hb, he⟩
                              have hBw65_w := below_step hBw63_w hb
                              have hBw65_w3 := below_step hBw63_w3 hb
                              have hBw65_w54 := below_step hBw63_w54 hb
                              have hBw65_w62 := below_step hBw63_w62 hb
                              have hBw65_w63 := below_step hBw63_w63 hb
                              have hBw65_w65 := Below.refl w65.heap.size w65
                              obtain rfl : vw65 = .int .i64 t58_25 := he
                              refine hS.next (v := .int .i64 t58_25) (d := 18) rfl (by decide) (by rfl) ?_
                              clear hS
                              intro at66 hS
                              refine wpList_nil ?_
                              refine hK57 _ _ ?_
                              clear hK57 K57
                              refine wp_seq_k (fun K67 hK67 => ?_)
                              refine wp_seq_k (fun K68 hK68 => ?_)
                              refine reg_seq (N := 108) (bs := [(18, .int .i64 t58_25), (17, .int .i64 t58_24), (16, .pointer (some ⟨g61, 0, none⟩)), (61, .int .i64 t58_25), (60, .int .i64 t58_24), (59, .agg #[.int .i64 t58_1, .int .i64 t58_2, .int .i64 t58_3, .int .i64 t58_4, .int .u64 t58_5, .int .i64 t58_6, .int .i64 t58_7, .int .i64 t58_8, .int .i64 t58_9, .int .u64 t58_10, .int .i64 t58_11, .int .i64 t58_12, .int .i64 t58_13, .int .i64 t58_14, .int .i64 t58_15, .int .i64 t58_16, .int .i64 t58_17, .int .u64 t58_18, .int .i64 t58_19, .int .i64 t58_20, .int .i64 t58_21, .int .i64 t58_22, .int .i64 t58_23]), (15, .int .i64 t15_25), (13, .pointer (some ⟨g18, 0, none⟩)), (31, .bool (!t6_2)), (11, .slice A9 ((((((t6_1.set (1 : Int).toNat (Go.bits .or .u8 (Go.bits .and .u8 a4 240) 2)).set (5 : Int).toNat a1).set (16 : Int).toNat a2).set (19 : Int).toNat a3).set (32 : Int).toNat a1).length) C9), (10, .bool false), (4, .int .u8 a4)]) (I := fun x => Below w.heap.size w x ∧ Below w3.heap.size w3 x ∧ Below w54.heap.size w54 x ∧ Below w62.heap.size w62 x ∧ Below w65.heap.size w65 x) (ps := [IsV (.int .i64 t15_25), IsV (.bool (!decide (t15_25 = 0))), IsV (.bool (!decide (t15_25 = 0))), IsV (.int .i64 t58_25), IsV (.bool (!decide (t58_25 = 0))), IsV (.bool (!decide (t58_25 = 0))), IsV (.bool (!decide (t58_25 = 0))), IsV (.agg #[.int .i64 t58_1, .int .i64 t58_2, .int .i64 t58_3, .int .i64 t58_4, .int .u64 t58_5, .int .i64 t58_6, .int .i64 t58_7, .int .i64 t58_8, .int .i64 t58_9, .int .u64 t58_10, .int .i64 t58_11, .int .i64 t58_12, .int .i64 t58_13, .int .i64 t58_14, .int .i64 t58_15, .int .i64 t58_16, .int .i64 t58_17, .int .u64 t58_18, .int .i64 t58_19, .int .i64 t58_20, .int .i64 t58_21, .int .i64 t58_22, .int .i64 t58_23]), IsV (.agg #[.int .i64 t15_1, .int .i64 t15_2, .int .i64 t15_3, .int .i64 t15_4, .int .u64 t15_5, .int .i64 t15_6, .int .i64 t15_7, .int .i64 t15_8, .int .i64 t15_9, .int .u64 t15_10, .int .i64 t15_11, .int .i64 t15_12, .int .i64 t15_13, .int .i64 t15_14, .int .i64 t15_15, .int .i64 t15_16, .int .i64 t15_17, .int .u64 t15_18, .int .i64 t15_19, .int .i64 t15_20, .int .i64 t15_21, .int .i64 t15_22, .int .i64 t15_23]), IsV (.bool (!((t58_1 == t15_1) && ((t58_2 == t15_2) && ((t58_3 == t15_3) && ((t58_4 == t15_4) && ((t58_5 == t15_5) && ((t58_6 == t15_6) && ((t58_7 == t15_7) && ((t58_8 == t15_8) && ((t58_9 == t15_9) && ((t58_10 == t15_10) && ((t58_11 == t15_11) && ((t58_12 == t15_12) && ((t58_13 == t15_13) && ((t58_14 == t15_14) && ((t58_15 == t15_15) && ((t58_16 == t15_16) && ((t58_17 == t15_17) && ((t58_18 == t15_18) && ((t58_19 == t15_19) && ((t58_20 == t15_20) && ((t58_21 == t15_21) && ((t58_22 == t15_22) && (t58_23 == t15_23))))))))))))))))))))))))), IsV (.bool (!((t58_1 == t15_1) && ((t58_2 == t15_2) && ((t58_3 == t15_3) && ((t58_4 == t15_4) && ((t58_5 == t15_5) && ((t58_6 == t15_6) && ((t58_7 == t15_7) && ((t58_8 == t15_8) && ((t58_9 == t15_9) && ((t58_10 == t15_10) && ((t58_11 == t15_11) && ((t58_12 == t15_12) && ((t58_13 == t15_13) && ((t58_14 == t15_14) && ((t58_15 == t15_15) && ((t58_16 == t15_16) && ((t58_17 == t15_17) && ((t58_18 == t15_18) && ((t58_19 == t15_19) && ((t58_20 == t15_20) && ((t58_21 == t15_21) && ((t58_22 == t15_22) && (t58_23 == t15_23)))))))))))))))))))))))))]) (by kernel_rfl) ?_ ?_ rfl hS ⟨hBw65_w, hBw65_w3, hBw65_w54, hBw65_w62, hBw65_w65⟩ ?_ ?_
                              · exact fun x y hI hb => ⟨below_step hI.1 hb, below_step hI.2.1 hb, below_step hI.2.2.1 hb, below_step hI.2.2.2.1 hb, below_step hI.2.2.2.2 hb⟩
                              · exact AllStay.cons (Stays.v _) (AllStay.cons (Stays.v _) (AllStay.cons (Stays.v _) (AllStay.cons (Stays.v _) (AllStay.cons (Stays.v _) (AllStay.cons (Stays.v _) (AllStay.cons (Stays.v _) (AllStay.cons (Stays.v _) (AllStay.cons (Stays.v _) (AllStay.cons (Stays.v _) (AllStay.cons (Stays.v _) (AllStay.nil)))))))))))
                              · refine Steps.cons (fun a w hS hI hp => ok_on rfl (does_val (x_move rfl (hS.get 6 rfl)) rfl)) ?_
                                refine Steps.cons (fun a w hS hI hp => ok_on rfl (does_val (x_bin rfl ((hp.get 0 (by rfl) rfl rfl)) (rfl) (b_neq _ _ _ _ _ _)) rfl)) ?_
                                refine Steps.cons (fun a w hS hI hp => ok_on rfl (does_val (x_move rfl ((hp.get 1 (by rfl) rfl rfl))) rfl)) ?_
                                refine Steps.cons (fun a w hS hI hp => ok_if (d := 64) rfl rfl (by rw [hS.size]; decide) (((hp.get 2 (by rfl) rfl rfl)).trans (bF (congrArg (!·) (decide_eq_true c7)))) (does_val (x_move rfl (hS.get 0 rfl)) rfl)) ?_
                                refine Steps.cons (fun a w hS hI hp => ok_if (d := 64) rfl rfl (by rw [hS.size]; decide) (((hp.get 2 (by rfl) rfl rfl)).trans (bF (congrArg (!·) (decide_eq_true c7)))) (does_val (x_bin rfl ((hp.get 3 (by rfl) rfl rfl)) (rfl) (b_neq _ _ _ _ _ _)) rfl)) ?_
                                refine Steps.cons (fun a w hS hI hp => ok_on rfl (does_val (x_pickF rfl (((hp.get 2 (by rfl) rfl rfl)).trans (bF (congrArg (!·) (decide_eq_true c7)))) ((hp.get 4 (by rfl) rfl rfl))) rfl)) ?_
                                refine Steps.cons (fun a w hS hI hp => ok_on rfl (does_val (x_move rfl ((hp.get 5 (by rfl) rfl rfl))) rfl)) ?_
                                refine Steps.cons (fun a w hS hI hp => ok_if (d := 68) rfl rfl (by rw [hS.size]; decide) (((hp.get 6 (by rfl) rfl rfl)).trans (bF (congrArg (!·) (decide_eq_true c8)))) (does_loadrow rfl (hS.get 2 rfl) (((hI.2.2.2.1).block g61 (blk_lt hbxw62)).trans hbxw62) Try.underlying28 rfl (by kernel_rfl) rfl)) ?_
                                refine Steps.cons (fun a w hS hI hp => ok_if (d := 68) rfl rfl (by rw [hS.size]; decide) (((hp.get 6 (by rfl) rfl rfl)).trans (bF (congrArg (!·) (decide_eq_true c8)))) (does_loadrow rfl (hS.get 7 rfl) (((hI.2.2.1).block g18 (blk_lt hn56)).trans hn56) Try.underlying28 rfl (by kernel_rfl) rfl)) ?_
                                refine Steps.cons (fun a w hS hI hp => ok_if (d := 68) rfl rfl (by rw [hS.size]; decide) (((hp.get 6 (by rfl) rfl rfl)).trans (bF (congrArg (!·) (decide_eq_true c8)))) (does_val (x_bin rfl ((hp.get 7 (by rfl) rfl rfl)) ((hp.get 8 (by rfl) rfl rfl)) (carillonlaw06_HeaderIgnores.neq28 _ _ _ t58_1 t58_2 t58_3 t58_4 t58_5 t58_6 t58_7 t58_8 t58_9 t58_10 t58_11 t58_12 t58_13 t58_14 t58_15 t58_16 t58_17 t58_18 t58_19 t58_20 t58_21 t58_22 t58_23 t15_1 t15_2 t15_3 t15_4 t15_5 t15_6 t15_7 t15_8 t15_9 t15_10 t15_11 t15_12 t15_13 t15_14 t15_15 t15_16 t15_17 t15_18 t15_19 t15_20 t15_21 t15_22 t15_23)) rfl)) ?_
                                refine Steps.cons (fun a w hS hI hp => ok_on rfl (does_val (x_pickF rfl (((hp.get 6 (by rfl) rfl rfl)).trans (bF (congrArg (!·) (decide_eq_true c8)))) ((hp.get 9 (by rfl) rfl rfl))) rfl)) ?_
                                exact Steps.nil
                              clear hS
                              intro at69 w70 hS hI hp
                              have hBw70_w := hI.1
                              have hBw70_w3 := hI.2.1
                              have hBw70_w54 := hI.2.2.1
                              have hBw70_w62 := hI.2.2.2.1
                              have hBw70_w65 := hI.2.2.2.2
                              replace hS := ((((hS.nil).cons (hS.get 11 rfl)).cons (hS.get 10 rfl)).cons (hS.get 9 rfl)).cons (hS.get 8 rfl)
                              have hv72 : sl _ 72 = .bool (!((t58_1 == t15_1) && ((t58_2 == t15_2) && ((t58_3 == t15_3) && ((t58_4 == t15_4) && ((t58_5 == t15_5) && ((t58_6 == t15_6) && ((t58_7 == t15_7) && ((t58_8 == t15_8) && ((t58_9 == t15_9) && ((t58_10 == t15_10) && ((t58_11 == t15_11) && ((t58_12 == t15_12) && ((t58_13 == t15_13) && ((t58_14 == t15_14) && ((t58_15 == t15_15) && ((t58_16 == t15_16) && ((t58_17 == t15_17) && ((t58_18 == t15_18) && ((t58_19 == t15_19) && ((t58_20 == t15_20) && ((t58_21 == t15_21) && ((t58_22 == t15_22) && (t58_23 == t15_23)))))))))))))))))))))))) := hp 10 (by decide)
                              have hBw70_w70 := Below.refl w70.heap.size w70
                              have hS := hS.cons hv72
                              clear hp hI hv72
                              refine hK68 _ _ ?_
                              clear hK68 K68
                              refine wp_cond_false ((hS.get 0 rfl).trans (bF (congrArg (!·) c9))) ?_
                              refine wp_skip ?_
                              refine hK67 _ _ ?_
                              clear hK67 K67
                              refine wp_seq_k (fun K71 hK71 => ?_)
                              refine reg_seq_tail 3 (N := 108) (bs := [(72, .bool (!((t58_1 == t15_1) && ((t58_2 == t15_2) && ((t58_3 == t15_3) && ((t58_4 == t15_4) && ((t58_5 == t15_5) && ((t58_6 == t15_6) && ((t58_7 == t15_7) && ((t58_8 == t15_8) && ((t58_9 == t15_9) && ((t58_10 == t15_10) && ((t58_11 == t15_11) && ((t58_12 == t15_12) && ((t58_13 == t15_13) && ((t58_14 == t15_14) && ((t58_15 == t15_15) && ((t58_16 == t15_16) && ((t58_17 == t15_17) && ((t58_18 == t15_18) && ((t58_19 == t15_19) && ((t58_20 == t15_20) && ((t58_21 == t15_21) && ((t58_22 == t15_22) && (t58_23 == t15_23))))))))))))))))))))))))), (31, .bool (!t6_2)), (11, .slice A9 ((((((t6_1.set (1 : Int).toNat (Go.bits .or .u8 (Go.bits .and .u8 a4 240) 2)).set (5 : Int).toNat a1).set (16 : Int).toNat a2).set (19 : Int).toNat a3).set (32 : Int).toNat a1).length) C9), (10, .bool false), (4, .int .u8 a4)]) (I := fun x => Below w.heap.size w x ∧ Below w3.heap.size w3 x ∧ Below w54.heap.size w54 x ∧ Below w62.heap.size w62 x ∧ Below w70.heap.size w70 x) (ps := [IsV (.slice A9 ((((((t6_1.set (1 : Int).toNat (Go.bits .or .u8 (Go.bits .and .u8 a4 240) 2)).set (5 : Int).toNat a1).set (16 : Int).toNat a2).set (19 : Int).toNat a3).set (32 : Int).toNat a1).length) C9), IsV (.int .u8 a4), IsP A9 (1 : Int).toNat]) (by kernel_rfl) ?_ ?_ rfl hS ⟨hBw70_w, hBw70_w3, hBw70_w54, hBw70_w62, hBw70_w70⟩ ?_ ?_
                              · exact fun x y hI hb => ⟨below_step hI.1 hb, below_step hI.2.1 hb, below_step hI.2.2.1 hb, below_step hI.2.2.2.1 hb, below_step hI.2.2.2.2 hb⟩
                              · exact AllStay.cons (Stays.v _) (AllStay.cons (Stays.v _) (AllStay.cons (stays_p _ _) (AllStay.nil)))
                              · refine Steps.cons (fun a w hS hI hp => ok_on rfl (does_val (x_move rfl (hS.get 2 rfl)) rfl)) ?_
                                refine Steps.cons (fun a w hS hI hp => ok_on rfl (does_val (x_move rfl (hS.get 4 rfl)) rfl)) ?_
                                refine Steps.cons (fun a w hS hI hp => ok_on rfl (does_place (e := 5) (xs := (((((t6_1.set (1 : Int).toNat (Go.bits .or .u8 (Go.bits .and .u8 a4 240) 2)).set (5 : Int).toNat a1).set (16 : Int).toNat a2).set (19 : Int).toNat a3).set (32 : Int).toNat a1)) (i := 1) rfl ((hp.get 0 (by rfl) rfl rfl)) (rfl) (by kernel_rfl) (by kernel_rfl) (by decide) c10 (Kd.R_below ho55 hI.2.2.1))) ?_
                                exact Steps.nil
                              clear hS
                              intro at72 w73 hS hI hp
                              have hBw73_w := hI.1
                              have hBw73_w3 := hI.2.1
                              have hBw73_w54 := hI.2.2.1
                              have hBw73_w62 := hI.2.2.2.1
                              have hBw73_w70 := hI.2.2.2.2
                              have hv74 : sl _ 74 = .int .u8 a4 := hp 1 (by decide)
                              obtain ⟨g74, hAg74, hv75⟩ := (show IsP A9 (1 : Int).toNat (sl _ 75) w73 from hp 2 (by decide))
                              have hBw73_w73 := Below.refl w73.heap.size w73
                              have hS := hS.cons hv74
                              have hS := hS.cons hv75
                              clear hp hI hv74 hv75
                              show wpList _ _ _ [_] _ _
                              refine list_step rfl (does_put (e := 5) (xs := (((((t6_1.set (1 : Int).toNat (Go.bits .or .u8 (Go.bits .and .u8 a4 240) 2)).set (5 : Int).toNat a1).set (16 : Int).toNat a2).set (19 : Int).toNat a3).set (32 : Int).toNat a1)) (i := 1) (u := a4) rfl ⟨g74, hAg74, hS.get 0 rfl⟩ (hS.get 1 rfl) (by kernel_rfl) (by decide) c10 (Kd.R_below ho55 hBw73_w54)) ?_
                              rintro vw75 w75 ⟨rfl, g76, hA76, hge76, hlt76, hT, ho76⟩
                              have hBw75_w := hT.below hBw73_w (Nat.le_trans (hBw3_w).size hge76) (hBw73_w).size
                              have hBw75_w3 := hT.below hBw73_w3 hge76 (hBw73_w3).size
                              have hn76 : (((((((t6_1.set (1 : Int).toNat (Go.bits .or .u8 (Go.bits .and .u8 a4 240) 2)).set (5 : Int).toNat a1).set (16 : Int).toNat a2).set (19 : Int).toNat a3).set (32 : Int).toNat a1).set (1 : Int).toNat a4).length : Nat) = (((((t6_1.set (1 : Int).toNat (Go.bits .or .u8 (Go.bits .and .u8 a4 240) 2)).set (5 : Int).toNat a1).set (16 : Int).toNat a2).set (19 : Int).toNat a3).set (32 : Int).toNat a1).length := by simp [List.length_set]
                              rw [← hn76] at ho76
                              have hc76 := (Kd.R_reads' ho76).2.2
                              have hn77 := hT.blk ((hBw73_w54.block g18 (blk_lt hn56)).trans hn56) (hna30 _ hA76)
                              have hna78 : ∀ g_ : Nat, A9 = some ⟨g_, 0, none⟩ → g61 ≠ g_ := fun g_ e_ => by have h1_ := (own_block ho55 (by have := c10; omega)); obtain ⟨x_, _, a_, _, c_, _⟩ := h1_; rw [e_] at a_; injection a_ with a_; injection a_ with a_; have h2_ := blk_lt c_; have h3_ := Nat.le_trans (Nat.le_refl _) hgeg61; omega
                              have hn79 := hT.blk ((hBw73_w62.block g61 (blk_lt hbxw62)).trans hbxw62) (hna78 _ hA76)
                              replace hS := (((((((hS.nil).cons (hS.get 6 rfl)).cons (hS.get 5 rfl)).cons ((hS.get 4 rfl).trans (congrArg (fun n => Value.slice A9 n C9) hn76.symm))).cons (hS.get 3 rfl)).cons (hS.get 2 rfl)).cons (hS.get 1 rfl)).cons (hS.get 0 rfl)
                              have hBw75_w75 := Below.refl w75.heap.size w75
                              clear hT
                              refine wpList_nil ?_
                              refine hK71 _ _ ?_
                              clear hK71 K71
                              refine wp_seq_k (fun K80 hK80 => ?_)
                              refine reg_seq_tail 7 (N := 108) (bs := [(75, .pointer (some (⟨g74, (1 : Int).toNat, none⟩))), (74, .int .u8 a4), (72, .bool (!((t58_1 == t15_1) && ((t58_2 == t15_2) && ((t58_3 == t15_3) && ((t58_4 == t15_4) && ((t58_5 == t15_5) && ((t58_6 == t15_6) && ((t58_7 == t15_7) && ((t58_8 == t15_8) && ((t58_9 == t15_9) && ((t58_10 == t15_10) && ((t58_11 == t15_11) && ((t58_12 == t15_12) && ((t58_13 == t15_13) && ((t58_14 == t15_14) && ((t58_15 == t15_15) && ((t58_16 == t15_16) && ((t58_17 == t15_17) && ((t58_18 == t15_18) && ((t58_19 == t15_19) && ((t58_20 == t15_20) && ((t58_21 == t15_21) && ((t58_22 == t15_22) && (t58_23 == t15_23))))))))))))))))))))))))), (31, .bool (!t6_2)), (11, .slice A9 (((((((t6_1.set (1 : Int).toNat (Go.bits .or .u8 (Go.bits .and .u8 a4 240) 2)).set (5 : Int).toNat a1).set (16 : Int).toNat a2).set (19 : Int).toNat a3).set (32 : Int).toNat a1).set (1 : Int).toNat a4).length) C9), (10, .bool false), (4, .int .u8 a4)]) (I := fun x => Below w.heap.size w x ∧ Below w3.heap.size w3 x ∧ Below w75.heap.size w75 x) (ps := [IsV (.slice A9 (((((((t6_1.set (1 : Int).toNat (Go.bits .or .u8 (Go.bits .and .u8 a4 240) 2)).set (5 : Int).toNat a1).set (16 : Int).toNat a2).set (19 : Int).toNat a3).set (32 : Int).toNat a1).set (1 : Int).toNat a4).length) C9), IsV (.tuple #[.agg #[.int .i64 t81_1, .int .i64 t81_2, .int .i64 t81_3, .int .i64 t81_4, .int .u64 t81_5, .int .i64 t81_6, .int .i64 t81_7, .int .i64 t81_8, .int .i64 t81_9, .int .u64 t81_10, .int .i64 t81_11, .int .i64 t81_12, .int .i64 t81_13, .int .i64 t81_14, .int .i64 t81_15, .int .i64 t81_16, .int .i64 t81_17, .int .u64 t81_18, .int .i64 t81_19, .int .i64 t81_20, .int .i64 t81_21, .int .i64 t81_22, .int .i64 t81_23], .int .i64 t81_24, .int .i64 t81_25]), IsV (.tuple #[.agg #[.int .i64 t81_1, .int .i64 t81_2, .int .i64 t81_3, .int .i64 t81_4, .int .u64 t81_5, .int .i64 t81_6, .int .i64 t81_7, .int .i64 t81_8, .int .i64 t81_9, .int .u64 t81_10, .int .i64 t81_11, .int .i64 t81_12, .int .i64 t81_13, .int .i64 t81_14, .int .i64 t81_15, .int .i64 t81_16, .int .i64 t81_17, .int .u64 t81_18, .int .i64 t81_19, .int .i64 t81_20, .int .i64 t81_21, .int .i64 t81_22, .int .i64 t81_23], .int .i64 t81_24, .int .i64 t81_25]), IsV (.agg #[.int .i64 t81_1, .int .i64 t81_2, .int .i64 t81_3, .int .i64 t81_4, .int .u64 t81_5, .int .i64 t81_6, .int .i64 t81_7, .int .i64 t81_8, .int .i64 t81_9, .int .u64 t81_10, .int .i64 t81_11, .int .i64 t81_12, .int .i64 t81_13, .int .i64 t81_14, .int .i64 t81_15, .int .i64 t81_16, .int .i64 t81_17, .int .u64 t81_18, .int .i64 t81_19, .int .i64 t81_20, .int .i64 t81_21, .int .i64 t81_22, .int .i64 t81_23]), IsV (.int .i64 t81_24), IsV (.int .i64 t81_25), IsB #[.int .i64 0, .int .i64 0, .int .i64 0, .int .i64 0, .int .u64 0, .int .i64 0, .int .i64 0, .int .i64 0, .int .i64 0, .int .u64 0, .int .i64 0, .int .i64 0, .int .i64 0, .int .i64 0, .int .i64 0, .int .i64 0, .int .i64 0, .int .u64 0, .int .i64 0, .int .i64 0, .int .i64 0, .int .i64 0, .int .i64 0] 28 w75.heap.size]) (by kernel_rfl) ?_ ?_ rfl hS ⟨hBw75_w, hBw75_w3, hBw75_w75⟩ ?_ ?_
                              · exact fun x y hI hb => ⟨below_step hI.1 hb, below_step hI.2.1 hb, below_step hI.2.2 hb⟩
                              · exact AllStay.cons (Stays.v _) (AllStay.cons (Stays.v _) (AllStay.cons (Stays.v _) (AllStay.cons (Stays.v _) (AllStay.cons (Stays.v _) (AllStay.cons (Stays.v _) (AllStay.cons (Stays.b _ _ _) (AllStay.nil)))))))
                              · refine Steps.cons (fun a w hS hI hp => ok_on rfl (does_val (x_move rfl (hS.get 4 rfl)) rfl)) ?_
                                refine Steps.cons (fun a w hS hI hp => ok_on rfl (does_call (by kernel_rfl) (ar1 ((hp.get 0 (by rfl) rfl rfl))) ((header_Get.calls k _ _ ((((((t6_1.set (1 : Int).toNat (Go.bits .or .u8 (Go.bits .and .u8 a4 240) 2)).set (5 : Int).toNat a1).set (16 : Int).toNat a2).set (19 : Int).toNat a3).set (32 : Int).toNat a1).set (1 : Int).toNat a4) t81_1 t81_2 t81_3 t81_4 t81_5 t81_6 t81_7 t81_8 t81_9 t81_10 t81_11 t81_12 t81_13 t81_14 t81_15 t81_16 t81_17 t81_18 t81_19 t81_20 t81_21 t81_22 t81_23 t81_24 t81_25 _ (Kd.C_below hc76 hI.2.2) (hn76 ▸ (hn55 ▸ (hn49 ▸ (hn43 ▸ (hn37 ▸ (hn29 ▸ hl9)))))) At81).mono fun _ _ h => ⟨_, h.1, h.2, rfl⟩))) ?_
                                refine Steps.cons (fun a w hS hI hp => ok_on rfl (does_val (x_move rfl ((hp.get 1 (by rfl) rfl rfl))) rfl)) ?_
                                refine Steps.cons (fun a w hS hI hp => ok_on rfl (does_val (x_extract rfl ((hp.get 2 (by rfl) rfl rfl)) rfl) rfl)) ?_
                                refine Steps.cons (fun a w hS hI hp => ok_on rfl (does_val (x_extract rfl ((hp.get 2 (by rfl) rfl rfl)) rfl) rfl)) ?_
                                refine Steps.cons (fun a w hS hI hp => ok_on rfl (does_val (x_extract rfl ((hp.get 2 (by rfl) rfl rfl)) rfl) rfl)) ?_
                                refine Steps.cons (fun a w hS hI hp => ok_on rfl (does_var (x_alloc rfl (by kernel_rfl)) (hI.2.2).size)) ?_
                                exact Steps.nil
                              clear hS
                              intro at82 w83 hS hI hp
                              have hBw83_w := hI.1
                              have hBw83_w3 := hI.2.1
                              have hBw83_w75 := hI.2.2
                              replace hS := (((((hS.nil).cons (hS.get 6 rfl)).cons (hS.get 5 rfl)).cons (hS.get 4 rfl)).cons (hS.get 3 rfl)).cons (hS.get 2 rfl)
                              have hv79 : sl _ 79 = .agg #[.int .i64 t81_1, .int .i64 t81_2, .int .i64 t81_3, .int .i64 t81_4, .int .u64 t81_5, .int .i64 t81_6, .int .i64 t81_7, .int .i64 t81_8, .int .i64 t81_9, .int .u64 t81_10, .int .i64 t81_11, .int .i64 t81_12, .int .i64 t81_13, .int .i64 t81_14, .int .i64 t81_15, .int .i64 t81_16, .int .i64 t81_17, .int .u64 t81_18, .int .i64 t81_19, .int .i64 t81_20, .int .i64 t81_21, .int .i64 t81_22, .int .i64 t81_23] := hp 3 (by decide)
                              have hv80 : sl _ 80 = .int .i64 t81_24 := hp 4 (by decide)
                              have hv81 : sl _ 81 = .int .i64 t81_25 := hp 5 (by decide)
                              obtain ⟨g84, hv19, hgeg84, hbxg84⟩ := (show IsB _ 28 _ (sl _ 19) _ from hp 6 (by decide))
                              have hBw83_w83 := Below.refl w83.heap.size w83
                              have hS := hS.cons hv79
                              have hS := hS.cons hv80
                              have hS := hS.cons hv81
                              have hS := hS.cons hv19
                              clear hp hI hv79 hv80 hv81 hv19
                              show wpList _ _ _ [_, _, _] _ _
                              refine list_step rfl (does_storeAll (g := g84) (cs := #[.int .i64 t81_1, .int .i64 t81_2, .int .i64 t81_3, .int .i64 t81_4, .int .u64 t81_5, .int .i64 t81_6, .int .i64 t81_7, .int .i64 t81_8, .int .i64 t81_9, .int .u64 t81_10, .int .i64 t81_11, .int .i64 t81_12, .int .i64 t81_13, .int .i64 t81_14, .int .i64 t81_15, .int .i64 t81_16, .int .i64 t81_17, .int .u64 t81_18, .int .i64 t81_19, .int .i64 t81_20, .int .i64 t81_21, .int .i64 t81_22, .int .i64 t81_23]) rfl (hS.get 0 rfl) (hS.get 3 rfl) ((hBw83_w83.block g84 (blk_lt hbxg84)).trans hbxg84) (by kernel_rfl) (by kernel_rfl) (by kernel_rfl)) ?_
                              rintro vw85 w85 ⟨rfl, hbxw85, hT⟩
                              have hBw85_w := hT.below hBw83_w (Nat.le_trans (hBw75_w).size hgeg84) (hBw83_w).size
                              have hBw85_w3 := hT.below hBw83_w3 (Nat.le_trans (hBw75_w3).size hgeg84) (hBw83_w3).size
                              have hBw85_w75 := hT.below hBw83_w75 hgeg84 (hBw83_w75).size
                              have hBw85_w85 := Below.refl w85.heap.size w85
                              clear hT
                              refine list_step rfl (R := fun v w' => Below _ _ w' ∧ (IsV (.int .i64 t81_24)) v w') (does_val (x_assign rfl (hS.get 2 rfl)) rfl) ?_
                              rintro vw86 w86 ⟨hb, he⟩
                              have hBw86_w := below_step hBw85_w hb
                              have hBw86_w3 := below_step hBw85_w3 hb
                              have hBw86_w75 := below_step hBw85_w75 hb
                              have hBw86_w85 := below_step hBw85_w85 hb
                              have hBw86_w86 := Below.refl w86.heap.size w86
                              obtain rfl : vw86 = .int .i64 t81_24 := he
                              refine hS.next (v := .int .i64 t81_24) (d := 20) rfl (by decide) (by rfl) ?_
                              clear hS
                              intro at87 hS
                              refine list_step rfl (R := fun v w' => Below _ _ w' ∧ (IsV (.int .i64 t81_25)) v w') (does_val (x_assign rfl (hS.get 2 rfl)) rfl) ?_
                              rintro vw88 w88 ⟨hb, he⟩
                              have hBw88_w := below_step hBw86_w hb
                              have hBw88_w3 := below_step hBw86_w3 hb
                              have hBw88_w75 := below_step hBw86_w75 hb
                              have hBw88_w85 := below_step hBw86_w85 hb
                              have hBw88_w86 := below_step hBw86_w86 hb
                              have hBw88_w88 := Below.refl w88.heap.size w88
                              obtain rfl : vw88 = .int .i64 t81_25 := he
                              refine hS.next (v := .int .i64 t81_25) (d := 21) rfl (by decide) (by rfl) ?_
                              clear hS
                              intro at89 hS
                              refine wpList_nil ?_
                              refine hK80 _ _ ?_
                              clear hK80 K80
                              refine wp_seq_k (fun K90 hK90 => ?_)
                              refine reg_seq_tail 2 (N := 108) (bs := [(21, .int .i64 t81_25), (20, .int .i64 t81_24), (19, .pointer (some ⟨g84, 0, none⟩)), (81, .int .i64 t81_25), (80, .int .i64 t81_24), (79, .agg #[.int .i64 t81_1, .int .i64 t81_2, .int .i64 t81_3, .int .i64 t81_4, .int .u64 t81_5, .int .i64 t81_6, .int .i64 t81_7, .int .i64 t81_8, .int .i64 t81_9, .int .u64 t81_10, .int .i64 t81_11, .int .i64 t81_12, .int .i64 t81_13, .int .i64 t81_14, .int .i64 t81_15, .int .i64 t81_16, .int .i64 t81_17, .int .u64 t81_18, .int .i64 t81_19, .int .i64 t81_20, .int .i64 t81_21, .int .i64 t81_22, .int .i64 t81_23]), (72, .bool (!((t58_1 == t15_1) && ((t58_2 == t15_2) && ((t58_3 == t15_3) && ((t58_4 == t15_4) && ((t58_5 == t15_5) && ((t58_6 == t15_6) && ((t58_7 == t15_7) && ((t58_8 == t15_8) && ((t58_9 == t15_9) && ((t58_10 == t15_10) && ((t58_11 == t15_11) && ((t58_12 == t15_12) && ((t58_13 == t15_13) && ((t58_14 == t15_14) && ((t58_15 == t15_15) && ((t58_16 == t15_16) && ((t58_17 == t15_17) && ((t58_18 == t15_18) && ((t58_19 == t15_19) && ((t58_20 == t15_20) && ((t58_21 == t15_21) && ((t58_22 == t15_22) && (t58_23 == t15_23))))))))))))))))))))))))), (31, .bool (!t6_2)), (11, .slice A9 (((((((t6_1.set (1 : Int).toNat (Go.bits .or .u8 (Go.bits .and .u8 a4 240) 2)).set (5 : Int).toNat a1).set (16 : Int).toNat a2).set (19 : Int).toNat a3).set (32 : Int).toNat a1).set (1 : Int).toNat a4).length) C9), (10, .bool false), (4, .int .u8 a4)]) (I := fun x => Below w.heap.size w x ∧ Below w3.heap.size w3 x ∧ Below w75.heap.size w75 x ∧ Below w85.heap.size w85 x ∧ Below w88.heap.size w88 x) (ps := [IsV (.slice A9 (((((((t6_1.set (1 : Int).toNat (Go.bits .or .u8 (Go.bits .and .u8 a4 240) 2)).set (5 : Int).toNat a1).set (16 : Int).toNat a2).set (19 : Int).toNat a3).set (32 : Int).toNat a1).set (1 : Int).toNat a4).length) C9), IsP A9 (1 : Int).toNat]) (by kernel_rfl) ?_ ?_ rfl hS ⟨hBw88_w, hBw88_w3, hBw88_w75, hBw88_w85, hBw88_w88⟩ ?_ ?_
                              · exact fun x y hI hb => ⟨below_step hI.1 hb, below_step hI.2.1 hb, below_step hI.2.2.1 hb, below_step hI.2.2.2.1 hb, below_step hI.2.2.2.2 hb⟩
                              · exact AllStay.cons (Stays.v _) (AllStay.cons (stays_p _ _) (AllStay.nil))
                              · refine Steps.cons (fun a w hS hI hp => ok_on rfl (does_val (x_move rfl (hS.get 8 rfl)) rfl)) ?_
                                refine Steps.cons (fun a w hS hI hp => ok_on rfl (does_place (e := 5) (xs := ((((((t6_1.set (1 : Int).toNat (Go.bits .or .u8 (Go.bits .and .u8 a4 240) 2)).set (5 : Int).toNat a1).set (16 : Int).toNat a2).set (19 : Int).toNat a3).set (32 : Int).toNat a1).set (1 : Int).toNat a4)) (i := 1) rfl ((hp.get 0 (by rfl) rfl rfl)) (rfl) (by kernel_rfl) (by kernel_rfl) (by decide) c11 (Kd.R_below ho76 hI.2.2.1))) ?_
                                exact Steps.nil
                              clear hS
                              intro at91 w92 hS hI hp
                              have hBw92_w := hI.1
                              have hBw92_w3 := hI.2.1
                              have hBw92_w75 := hI.2.2.1
                              have hBw92_w85 := hI.2.2.2.1
                              have hBw92_w88 := hI.2.2.2.2
                              replace hS := ((((((hS.nil).cons (hS.get 10 rfl)).cons (hS.get 9 rfl)).cons (hS.get 8 rfl)).cons (hS.get 7 rfl)).cons (hS.get 6 rfl)).cons (hS.get 0 rfl)
                              obtain ⟨g93, hAg93, hv83⟩ := (show IsP A9 (1 : Int).toNat (sl _ 83) w92 from hp 1 (by decide))
                              have hBw92_w92 := Below.refl w92.heap.size w92
                              have hS := hS.cons hv83
                              clear hp hI hv83
                              show wpList _ _ _ [_] _ _
                              refine list_step rfl (does_put (e := 5) (xs := ((((((t6_1.set (1 : Int).toNat (Go.bits .or .u8 (Go.bits .and .u8 a4 240) 2)).set (5 : Int).toNat a1).set (16 : Int).toNat a2).set (19 : Int).toNat a3).set (32 : Int).toNat a1).set (1 : Int).toNat a4)) (i := 1) (u := 2) rfl ⟨g93, hAg93, hS.get 0 rfl⟩ (rfl) (by kernel_rfl) (by decide) c11 (Kd.R_below ho76 hBw92_w75)) ?_
                              rintro vw94 w94 ⟨rfl, g95, hA95, hge95, hlt95, hT, ho95⟩
                              have hBw94_w := hT.below hBw92_w (Nat.le_trans (hBw3_w).size hge95) (hBw92_w).size
                              have hBw94_w3 := hT.below hBw92_w3 hge95 (hBw92_w3).size
                              have hn95 : ((((((((t6_1.set (1 : Int).toNat (Go.bits .or .u8 (Go.bits .and .u8 a4 240) 2)).set (5 : Int).toNat a1).set (16 : Int).toNat a2).set (19 : Int).toNat a3).set (32 : Int).toNat a1).set (1 : Int).toNat a4).set (1 : Int).toNat 2).length : Nat) = ((((((t6_1.set (1 : Int).toNat (Go.bits .or .u8 (Go.bits .and .u8 a4 240) 2)).set (5 : Int).toNat a1).set (16 : Int).toNat a2).set (19 : Int).toNat a3).set (32 : Int).toNat a1).set (1 : Int).toNat a4).length := by simp [List.length_set]
                              rw [← hn95] at ho95
                              have hc95 := (Kd.R_reads' ho95).2.2
                              have hn96 := hT.blk ((hBw92_w75.block g18 (blk_lt hn77)).trans hn77) (hna30 _ hA95)
                              have hn97 := hT.blk ((hBw92_w75.block g61 (blk_lt hn79)).trans hn79) (hna78 _ hA95)
                              have hna98 : ∀ g_ : Nat, A9 = some ⟨g_, 0, none⟩ → g84 ≠ g_ := fun g_ e_ => by have h1_ := (own_block ho76 (by have := c11; omega)); obtain ⟨x_, _, a_, _, c_, _⟩ := h1_; rw [e_] at a_; injection a_ with a_; injection a_ with a_; have h2_ := blk_lt c_; have h3_ := Nat.le_trans (Nat.le_refl _) hgeg84; omega
                              have hn99 := hT.blk ((hBw92_w85.block g84 (blk_lt hbxw85)).trans hbxw85) (hna98 _ hA95)
                              replace hS := (((((((hS.nil).cons (hS.get 6 rfl)).cons (hS.get 5 rfl)).cons ((hS.get 4 rfl).trans (congrArg (fun n => Value.slice A9 n C9) hn95.symm))).cons (hS.get 3 rfl)).cons (hS.get 2 rfl)).cons (hS.get 1 rfl)).cons (hS.get 0 rfl)
                              have hBw94_w94 := Below.refl w94.heap.size w94
                              clear hT
                              refine wpList_nil ?_
                              refine hK90 _ _ ?_
                              clear hK90 K90
                              refine wp_seq_k (fun K100 hK100 => ?_)
                              refine reg_seq_tail 5 (N := 108) (bs := [(83, .pointer (some (⟨g93, (1 : Int).toNat, none⟩))), (21, .int .i64 t81_25), (72, .bool (!((t58_1 == t15_1) && ((t58_2 == t15_2) && ((t58_3 == t15_3) && ((t58_4 == t15_4) && ((t58_5 == t15_5) && ((t58_6 == t15_6) && ((t58_7 == t15_7) && ((t58_8 == t15_8) && ((t58_9 == t15_9) && ((t58_10 == t15_10) && ((t58_11 == t15_11) && ((t58_12 == t15_12) && ((t58_13 == t15_13) && ((t58_14 == t15_14) && ((t58_15 == t15_15) && ((t58_16 == t15_16) && ((t58_17 == t15_17) && ((t58_18 == t15_18) && ((t58_19 == t15_19) && ((t58_20 == t15_20) && ((t58_21 == t15_21) && ((t58_22 == t15_22) && (t58_23 == t15_23))))))))))))))))))))))))), (31, .bool (!t6_2)), (11, .slice A9 ((((((((t6_1.set (1 : Int).toNat (Go.bits .or .u8 (Go.bits .and .u8 a4 240) 2)).set (5 : Int).toNat a1).set (16 : Int).toNat a2).set (19 : Int).toNat a3).set (32 : Int).toNat a1).set (1 : Int).toNat a4).set (1 : Int).toNat 2).length) C9), (10, .bool false), (4, .int .u8 a4)]) (I := fun x => Below w.heap.size w x ∧ Below w3.heap.size w3 x ∧ Below w94.heap.size w94 x) (ps := [IsV (.slice A9 ((((((((t6_1.set (1 : Int).toNat (Go.bits .or .u8 (Go.bits .and .u8 a4 240) 2)).set (5 : Int).toNat a1).set (16 : Int).toNat a2).set (19 : Int).toNat a3).set (32 : Int).toNat a1).set (1 : Int).toNat a4).set (1 : Int).toNat 2).length) C9), IsV (.int .u8 a4), IsV (.int .u8 (Int.tmod a4 4)), IsV (.int .u8 (IntKind.u8.wrap (4 + (Int.tmod a4 4)))), IsP A9 (0 : Int).toNat]) (by kernel_rfl) ?_ ?_ rfl hS ⟨hBw94_w, hBw94_w3, hBw94_w94⟩ ?_ ?_
                              · exact fun x y hI hb => ⟨below_step hI.1 hb, below_step hI.2.1 hb, below_step hI.2.2 hb⟩
                              · exact AllStay.cons (Stays.v _) (AllStay.cons (Stays.v _) (AllStay.cons (Stays.v _) (AllStay.cons (Stays.v _) (AllStay.cons (stays_p _ _) (AllStay.nil)))))
                              · refine Steps.cons (fun a w hS hI hp => ok_on rfl (does_val (x_move rfl (hS.get 4 rfl)) rfl)) ?_
                                refine Steps.cons (fun a w hS hI hp => ok_on rfl (does_val (x_move rfl (hS.get 6 rfl)) rfl)) ?_
                                refine Steps.cons (fun a w hS hI hp => ok_on rfl (does_val (x_bin rfl ((hp.get 1 (by rfl) rfl rfl)) (rfl) (b_rem _ _ _ _ _ _ (by decide))) rfl)) ?_
                                refine Steps.cons (fun a w hS hI hp => ok_on rfl (does_val (x_bin rfl (rfl) ((hp.get 2 (by rfl) rfl rfl)) (b_addk _ _ _ _ _ _)) rfl)) ?_
                                refine Steps.cons (fun a w hS hI hp => ok_on rfl (does_place (e := 5) (xs := (((((((t6_1.set (1 : Int).toNat (Go.bits .or .u8 (Go.bits .and .u8 a4 240) 2)).set (5 : Int).toNat a1).set (16 : Int).toNat a2).set (19 : Int).toNat a3).set (32 : Int).toNat a1).set (1 : Int).toNat a4).set (1 : Int).toNat 2)) (i := 0) rfl ((hp.get 0 (by rfl) rfl rfl)) (rfl) (by kernel_rfl) (by kernel_rfl) (by decide) c12 (Kd.R_below ho95 hI.2.2))) ?_
                                exact Steps.nil
                              clear hS
                              intro at101 w102 hS hI hp
                              have hBw102_w := hI.1
                              have hBw102_w3 := hI.2.1
                              have hBw102_w94 := hI.2.2
                              replace hS := ((((((hS.nil).cons (hS.get 6 rfl)).cons (hS.get 5 rfl)).cons (hS.get 4 rfl)).cons (hS.get 3 rfl)).cons (hS.get 2 rfl)).cons (hS.get 1 rfl)
                              have hv87 : sl _ 87 = .int .u8 (IntKind.u8.wrap (4 + (Int.tmod a4 4))) := hp 3 (by decide)
                              obtain ⟨g103, hAg103, hv88⟩ := (show IsP A9 (0 : Int).toNat (sl _ 88) w102 from hp 4 (by decide))
                              have hBw102_w102 := Below.refl w102.heap.size w102
                              have hS := hS.cons hv87
                              have hS := hS.cons hv88
                              clear hp hI hv87 hv88
                              show wpList _ _ _ [_] _ _
                              refine list_step rfl (does_put (e := 5) (xs := (((((((t6_1.set (1 : Int).toNat (Go.bits .or .u8 (Go.bits .and .u8 a4 240) 2)).set (5 : Int).toNat a1).set (16 : Int).toNat a2).set (19 : Int).toNat a3).set (32 : Int).toNat a1).set (1 : Int).toNat a4).set (1 : Int).toNat 2)) (i := 0) (u := (IntKind.u8.wrap (4 + (Int.tmod a4 4)))) rfl ⟨g103, hAg103, hS.get 0 rfl⟩ (hS.get 1 rfl) (by kernel_rfl) (by decide) c12 (Kd.R_below ho95 hBw102_w94)) ?_
                              rintro vw104 w104 ⟨rfl, g105, hA105, hge105, hlt105, hT, ho105⟩
                              have hBw104_w := hT.below hBw102_w (Nat.le_trans (hBw3_w).size hge105) (hBw102_w).size
                              have hBw104_w3 := hT.below hBw102_w3 hge105 (hBw102_w3).size
                              have hn105 : (((((((((t6_1.set (1 : Int).toNat (Go.bits .or .u8 (Go.bits .and .u8 a4 240) 2)).set (5 : Int).toNat a1).set (16 : Int).toNat a2).set (19 : Int).toNat a3).set (32 : Int).toNat a1).set (1 : Int).toNat a4).set (1 : Int).toNat 2).set (0 : Int).toNat (IntKind.u8.wrap (4 + (Int.tmod a4 4)))).length : Nat) = (((((((t6_1.set (1 : Int).toNat (Go.bits .or .u8 (Go.bits .and .u8 a4 240) 2)).set (5 : Int).toNat a1).set (16 : Int).toNat a2).set (19 : Int).toNat a3).set (32 : Int).toNat a1).set (1 : Int).toNat a4).set (1 : Int).toNat 2).length := by simp [List.length_set]
                              rw [← hn105] at ho105
                              have hc105 := (Kd.R_reads' ho105).2.2
                              have hn106 := hT.blk ((hBw102_w94.block g18 (blk_lt hn96)).trans hn96) (hna30 _ hA105)
                              have hn107 := hT.blk ((hBw102_w94.block g61 (blk_lt hn97)).trans hn97) (hna78 _ hA105)
                              have hn108 := hT.blk ((hBw102_w94.block g84 (blk_lt hn99)).trans hn99) (hna98 _ hA105)
                              replace hS := ((((((((hS.nil).cons (hS.get 7 rfl)).cons (hS.get 6 rfl)).cons ((hS.get 5 rfl).trans (congrArg (fun n => Value.slice A9 n C9) hn105.symm))).cons (hS.get 4 rfl)).cons (hS.get 3 rfl)).cons (hS.get 2 rfl)).cons (hS.get 1 rfl)).cons (hS.get 0 rfl)
                              have hBw104_w104 := Below.refl w104.heap.size w104
                              clear hT
                              refine wpList_nil ?_
                              refine hK100 _ _ ?_
                              clear hK100 K100
                              refine wp_seq_k (fun K109 hK109 => ?_)
                              refine reg_seq_tail 7 (N := 108) (bs := [(88, .pointer (some (⟨g103, (0 : Int).toNat, none⟩))), (87, .int .u8 (IntKind.u8.wrap (4 + (Int.tmod a4 4)))), (21, .int .i64 t81_25), (72, .bool (!((t58_1 == t15_1) && ((t58_2 == t15_2) && ((t58_3 == t15_3) && ((t58_4 == t15_4) && ((t58_5 == t15_5) && ((t58_6 == t15_6) && ((t58_7 == t15_7) && ((t58_8 == t15_8) && ((t58_9 == t15_9) && ((t58_10 == t15_10) && ((t58_11 == t15_11) && ((t58_12 == t15_12) && ((t58_13 == t15_13) && ((t58_14 == t15_14) && ((t58_15 == t15_15) && ((t58_16 == t15_16) && ((t58_17 == t15_17) && ((t58_18 == t15_18) && ((t58_19 == t15_19) && ((t58_20 == t15_20) && ((t58_21 == t15_21) && ((t58_22 == t15_22) && (t58_23 == t15_23))))))))))))))))))))))))), (31, .bool (!t6_2)), (11, .slice A9 (((((((((t6_1.set (1 : Int).toNat (Go.bits .or .u8 (Go.bits .and .u8 a4 240) 2)).set (5 : Int).toNat a1).set (16 : Int).toNat a2).set (19 : Int).toNat a3).set (32 : Int).toNat a1).set (1 : Int).toNat a4).set (1 : Int).toNat 2).set (0 : Int).toNat (IntKind.u8.wrap (4 + (Int.tmod a4 4)))).length) C9), (10, .bool false), (4, .int .u8 a4)]) (I := fun x => Below w.heap.size w x ∧ Below w3.heap.size w3 x ∧ Below w104.heap.size w104 x) (ps := [IsV (.slice A9 (((((((((t6_1.set (1 : Int).toNat (Go.bits .or .u8 (Go.bits .and .u8 a4 240) 2)).set (5 : Int).toNat a1).set (16 : Int).toNat a2).set (19 : Int).toNat a3).set (32 : Int).toNat a1).set (1 : Int).toNat a4).set (1 : Int).toNat 2).set (0 : Int).toNat (IntKind.u8.wrap (4 + (Int.tmod a4 4)))).length) C9), IsV (.tuple #[.agg #[.int .i64 t110_1, .int .i64 t110_2, .int .i64 t110_3, .int .i64 t110_4, .int .u64 t110_5, .int .i64 t110_6, .int .i64 t110_7, .int .i64 t110_8, .int .i64 t110_9, .int .u64 t110_10, .int .i64 t110_11, .int .i64 t110_12, .int .i64 t110_13, .int .i64 t110_14, .int .i64 t110_15, .int .i64 t110_16, .int .i64 t110_17, .int .u64 t110_18, .int .i64 t110_19, .int .i64 t110_20, .int .i64 t110_21, .int .i64 t110_22, .int .i64 t110_23], .int .i64 t110_24, .int .i64 t110_25]), IsV (.tuple #[.agg #[.int .i64 t110_1, .int .i64 t110_2, .int .i64 t110_3, .int .i64 t110_4, .int .u64 t110_5, .int .i64 t110_6, .int .i64 t110_7, .int .i64 t110_8, .int .i64 t110_9, .int .u64 t110_10, .int .i64 t110_11, .int .i64 t110_12, .int .i64 t110_13, .int .i64 t110_14, .int .i64 t110_15, .int .i64 t110_16, .int .i64 t110_17, .int .u64 t110_18, .int .i64 t110_19, .int .i64 t110_20, .int .i64 t110_21, .int .i64 t110_22, .int .i64 t110_23], .int .i64 t110_24, .int .i64 t110_25]), IsV (.agg #[.int .i64 t110_1, .int .i64 t110_2, .int .i64 t110_3, .int .i64 t110_4, .int .u64 t110_5, .int .i64 t110_6, .int .i64 t110_7, .int .i64 t110_8, .int .i64 t110_9, .int .u64 t110_10, .int .i64 t110_11, .int .i64 t110_12, .int .i64 t110_13, .int .i64 t110_14, .int .i64 t110_15, .int .i64 t110_16, .int .i64 t110_17, .int .u64 t110_18, .int .i64 t110_19, .int .i64 t110_20, .int .i64 t110_21, .int .i64 t110_22, .int .i64 t110_23]), IsV (.int .i64 t110_24), IsV (.int .i64 t110_25), IsB #[.int .i64 0, .int .i64 0, .int .i64 0, .int .i64 0, .int .u64 0, .int .i64 0, .int .i64 0, .int .i64 0, .int .i64 0, .int .u64 0, .int .i64 0, .int .i64 0, .int .i64 0, .int .i64 0, .int .i64 0, .int .i64 0, .int .i64 0, .int .u64 0, .int .i64 0, .int .i64 0, .int .i64 0, .int .i64 0, .int .i64 0] 28 w104.heap.size]) (by kernel_rfl) ?_ ?_ rfl hS ⟨hBw104_w, hBw104_w3, hBw104_w104⟩ ?_ ?_
                              · exact fun x y hI hb => ⟨below_step hI.1 hb, below_step hI.2.1 hb, below_step hI.2.2 hb⟩
                              · exact AllStay.cons (Stays.v _) (AllStay.cons (Stays.v _) (AllStay.cons (Stays.v _) (AllStay.cons (Stays.v _) (AllStay.cons (Stays.v _) (AllStay.cons (Stays.v _) (AllStay.cons (Stays.b _ _ _) (AllStay.nil)))))))
                              · refine Steps.cons (fun a w hS hI hp => ok_on rfl (does_val (x_move rfl (hS.get 5 rfl)) rfl)) ?_
                                refine Steps.cons (fun a w hS hI hp => ok_on rfl (does_call (by kernel_rfl) (ar1 ((hp.get 0 (by rfl) rfl rfl))) ((header_Get.calls k _ _ ((((((((t6_1.set (1 : Int).toNat (Go.bits .or .u8 (Go.bits .and .u8 a4 240) 2)).set (5 : Int).toNat a1).set (16 : Int).toNat a2).set (19 : Int).toNat a3).set (32 : Int).toNat a1).set (1 : Int).toNat a4).set (1 : Int).toNat 2).set (0 : Int).toNat (IntKind.u8.wrap (4 + (Int.tmod a4 4)))) t110_1 t110_2 t110_3 t110_4 t110_5 t110_6 t110_7 t110_8 t110_9 t110_10 t110_11 t110_12 t110_13 t110_14 t110_15 t110_16 t110_17 t110_18 t110_19 t110_20 t110_21 t110_22 t110_23 t110_24 t110_25 _ (Kd.C_below hc105 hI.2.2) (hn105 ▸ (hn95 ▸ (hn76 ▸ (hn55 ▸ (hn49 ▸ (hn43 ▸ (hn37 ▸ (hn29 ▸ hl9)))))))) At110).mono fun _ _ h => ⟨_, h.1, h.2, rfl⟩))) ?_
                                refine Steps.cons (fun a w hS hI hp => ok_on rfl (does_val (x_move rfl ((hp.get 1 (by rfl) rfl rfl))) rfl)) ?_
                                refine Steps.cons (fun a w hS hI hp => ok_on rfl (does_val (x_extract rfl ((hp.get 2 (by rfl) rfl rfl)) rfl) rfl)) ?_
                                refine Steps.cons (fun a w hS hI hp => ok_on rfl (does_val (x_extract rfl ((hp.get 2 (by rfl) rfl rfl)) rfl) rfl)) ?_
                                refine Steps.cons (fun a w hS hI hp => ok_on rfl (does_val (x_extract rfl ((hp.get 2 (by rfl) rfl rfl)) rfl) rfl)) ?_
                                refine Steps.cons (fun a w hS hI hp => ok_on rfl (does_var (x_alloc rfl (by kernel_rfl)) (hI.2.2).size)) ?_
                                exact Steps.nil
                              clear hS
                              intro at111 w112 hS hI hp
                              have hBw112_w := hI.1
                              have hBw112_w3 := hI.2.1
                              have hBw112_w104 := hI.2.2
                              replace hS := (((((hS.nil).cons (hS.get 7 rfl)).cons (hS.get 6 rfl)).cons (hS.get 4 rfl)).cons (hS.get 3 rfl)).cons (hS.get 2 rfl)
                              have hv92 : sl _ 92 = .agg #[.int .i64 t110_1, .int .i64 t110_2, .int .i64 t110_3, .int .i64 t110_4, .int .u64 t110_5, .int .i64 t110_6, .int .i64 t110_7, .int .i64 t110_8, .int .i64 t110_9, .int .u64 t110_10, .int .i64 t110_11, .int .i64 t110_12, .int .i64 t110_13, .int .i64 t110_14, .int .i64 t110_15, .int .i64 t110_16, .int .i64 t110_17, .int .u64 t110_18, .int .i64 t110_19, .int .i64 t110_20, .int .i64 t110_21, .int .i64 t110_22, .int .i64 t110_23] := hp 3 (by decide)
                              have hv93 : sl _ 93 = .int .i64 t110_24 := hp 4 (by decide)
                              have hv94 : sl _ 94 = .int .i64 t110_25 := hp 5 (by decide)
                              obtain ⟨g113, hv22, hgeg113, hbxg113⟩ := (show IsB _ 28 _ (sl _ 22) _ from hp 6 (by decide))
                              have hBw112_w112 := Below.refl w112.heap.size w112
                              have hS := hS.cons hv92
                              have hS := hS.cons hv93
                              have hS := hS.cons hv94
                              have hS := hS.cons hv22
                              clear hp hI hv92 hv93 hv94 hv22
                              show wpList _ _ _ [_, _, _] _ _
                              refine list_step rfl (does_storeAll (g := g113) (cs := #[.int .i64 t110_1, .int .i64 t110_2, .int .i64 t110_3, .int .i64 t110_4, .int .u64 t110_5, .int .i64 t110_6, .int .i64 t110_7, .int .i64 t110_8, .int .i64 t110_9, .int .u64 t110_10, .int .i64 t110_11, .int .i64 t110_12, .int .i64 t110_13, .int .i64 t110_14, .int .i64 t110_15, .int .i64 t110_16, .int .i64 t110_17, .int .u64 t110_18, .int .i64 t110_19, .int .i64 t110_20, .int .i64 t110_21, .int .i64 t110_22, .int .i64 t110_23]) rfl (hS.get 0 rfl) (hS.get 3 rfl) ((hBw112_w112.block g113 (blk_lt hbxg113)).trans hbxg113) (by kernel_rfl) (by kernel_rfl) (by kernel_rfl)) ?_
                              rintro vw114 w114 ⟨rfl, hbxw114, hT⟩
                              have hBw114_w := hT.below hBw112_w (Nat.le_trans (hBw104_w).size hgeg113) (hBw112_w).size
                              have hBw114_w3 := hT.below hBw112_w3 (Nat.le_trans (hBw104_w3).size hgeg113) (hBw112_w3).size
                              have hBw114_w104 := hT.below hBw112_w104 hgeg113 (hBw112_w104).size
                              have hBw114_w114 := Below.refl w114.heap.size w114
                              clear hT
                              refine list_step rfl (R := fun v w' => Below _ _ w' ∧ (IsV (.int .i64 t110_24)) v w') (does_val (x_assign rfl (hS.get 2 rfl)) rfl) ?_
                              rintro vw115 w115 ⟨hb, he⟩
                              have hBw115_w := below_step hBw114_w hb
                              have hBw115_w3 := below_step hBw114_w3 hb
                              have hBw115_w104 := below_step hBw114_w104 hb
                              have hBw115_w114 := below_step hBw114_w114 hb
                              have hBw115_w115 := Below.refl w115.heap.size w115
                              obtain rfl : vw115 = .int .i64 t110_24 := he
                              refine hS.next (v := .int .i64 t110_24) (d := 23) rfl (by decide) (by rfl) ?_
                              clear hS
                              intro at116 hS
                              refine list_step rfl (R := fun v w' => Below _ _ w' ∧ (IsV (.int .i64 t110_25)) v w') (does_val (x_assign rfl (hS.get 2 rfl)) rfl) ?_
                              rintro vw117 w117 ⟨hb, he⟩
                              have hBw117_w := below_step hBw115_w hb
                              have hBw117_w3 := below_step hBw115_w3 hb
                              have hBw117_w104 := below_step hBw115_w104 hb
                              have hBw117_w114 := below_step hBw115_w114 hb
                              have hBw117_w115 := below_step hBw115_w115 hb
                              have hBw117_w117 := Below.refl w117.heap.size w117
                              obtain rfl : vw117 = .int .i64 t110_25 := he
                              refine hS.next (v := .int .i64 t110_25) (d := 24) rfl (by decide) (by rfl) ?_
                              clear hS
                              intro at118 hS
                              refine wpList_nil ?_
                              refine hK109 _ _ ?_
                              clear hK109 K109
                              refine wp_seq_k (fun K119 hK119 => ?_)
                              replace hS := ((((((((((hS.nil).cons (hS.get 10 rfl)).cons (hS.get 8 rfl)).cons (hS.get 7 rfl)).cons (hS.get 6 rfl)).cons (hS.get 5 rfl)).cons (hS.get 4 rfl)).cons (hS.get 3 rfl)).cons (hS.get 2 rfl)).cons (hS.get 1 rfl)).cons (hS.get 0 rfl)
                              refine reg_seq (N := 108) (bs := [(24, .int .i64 t110_25), (23, .int .i64 t110_24), (22, .pointer (some ⟨g113, 0, none⟩)), (94, .int .i64 t110_25), (93, .int .i64 t110_24), (92, .agg #[.int .i64 t110_1, .int .i64 t110_2, .int .i64 t110_3, .int .i64 t110_4, .int .u64 t110_5, .int .i64 t110_6, .int .i64 t110_7, .int .i64 t110_8, .int .i64 t110_9, .int .u64 t110_10, .int .i64 t110_11, .int .i64 t110_12, .int .i64 t110_13, .int .i64 t110_14, .int .i64 t110_15, .int .i64 t110_16, .int .i64 t110_17, .int .u64 t110_18, .int .i64 t110_19, .int .i64 t110_20, .int .i64 t110_21, .int .i64 t110_22, .int .i64 t110_23]), (21, .int .i64 t81_25), (72, .bool (!((t58_1 == t15_1) && ((t58_2 == t15_2) && ((t58_3 == t15_3) && ((t58_4 == t15_4) && ((t58_5 == t15_5) && ((t58_6 == t15_6) && ((t58_7 == t15_7) && ((t58_8 == t15_8) && ((t58_9 == t15_9) && ((t58_10 == t15_10) && ((t58_11 == t15_11) && ((t58_12 == t15_12) && ((t58_13 == t15_13) && ((t58_14 == t15_14) && ((t58_15 == t15_15) && ((t58_16 == t15_16) && ((t58_17 == t15_17) && ((t58_18 == t15_18) && ((t58_19 == t15_19) && ((t58_20 == t15_20) && ((t58_21 == t15_21) && ((t58_22 == t15_22) && (t58_23 == t15_23))))))))))))))))))))))))), (31, .bool (!t6_2)), (4, .int .u8 a4)]) (I := fun x => Below w.heap.size w x ∧ Below w3.heap.size w3 x ∧ Below w104.heap.size w104 x ∧ Below w114.heap.size w114 x ∧ Below w117.heap.size w117 x) (ps := [IsV (.int .i64 t81_25), IsV (.bool (decide (t81_25 = 0))), IsV (.int .u8 a4), IsV (.int .u8 (Go.bits .and .u8 a4 15)), IsV (.bool (decide ((Go.bits .and .u8 a4 15) = 2))), IsV (.bool ((decide (t81_25 = 0)) == (decide ((Go.bits .and .u8 a4 15) = 2)))), IsV (.bool ((decide (t81_25 = 0)) == (decide ((Go.bits .and .u8 a4 15) = 2)))), IsV (.int .i64 t110_25), IsV (.bool (decide (t110_25 = 4))), IsV (.bool (decide (t110_25 = 4))), IsV (.bool (decide (t110_25 = 4))), IsV (.bool t120), IsV (.bool t120), IsV (.bool t120)]) (by kernel_rfl) ?_ ?_ rfl hS ⟨hBw117_w, hBw117_w3, hBw117_w104, hBw117_w114, hBw117_w117⟩ ?_ ?_
                              · exact fun x y hI hb => ⟨below_step hI.1 hb, below_step hI.2.1 hb, below_step hI.2.2.1 hb, below_step hI.2.2.2.1 hb, below_step hI.2.2.2.2 hb⟩
                              · exact AllStay.cons (Stays.v _) (AllStay.cons (Stays.v _) (AllStay.cons (Stays.v _) (AllStay.cons (Stays.v _) (AllStay.cons (Stays.v _) (AllStay.cons (Stays.v _) (AllStay.cons (Stays.v _) (AllStay.cons (Stays.v _) (AllStay.cons (Stays.v _) (AllStay.cons (Stays.v _) (AllStay.cons (Stays.v _) (AllStay.cons (Stays.v _) (AllStay.cons (Stays.v _) (AllStay.cons (Stays.v _) (AllStay.nil))))))))))))))
                              · refine Steps.cons (fun a w hS hI hp => ok_on rfl (does_val (x_move rfl (hS.get 6 rfl)) rfl)) ?_
                                refine Steps.cons (fun a w hS hI hp => ok_on rfl (does_val (x_bin rfl ((hp.get 0 (by rfl) rfl rfl)) (rfl) (b_eql _ _ _ _ _ _)) rfl)) ?_
                                refine Steps.cons (fun a w hS hI hp => ok_on rfl (does_val (x_move rfl (hS.get 9 rfl)) rfl)) ?_
                                refine Steps.cons (fun a w hS hI hp => ok_on rfl (does_val (x_bin rfl ((hp.get 2 (by rfl) rfl rfl)) (rfl) (b_and _ _ _ _ _ _)) rfl)) ?_
                                refine Steps.cons (fun a w hS hI hp => ok_on rfl (does_val (x_bin rfl ((hp.get 3 (by rfl) rfl rfl)) (rfl) (b_eql _ _ _ _ _ _)) rfl)) ?_
                                refine Steps.cons (fun a w hS hI hp => ok_on rfl (does_val (x_bin rfl ((hp.get 1 (by rfl) rfl rfl)) ((hp.get 4 (by rfl) rfl rfl)) (b_eqb _ _ _ _ _ (by kernel_rfl))) rfl)) ?_
                                refine Steps.cons (fun a w hS hI hp => ok_on rfl (does_val (x_move rfl ((hp.get 5 (by rfl) rfl rfl))) rfl)) ?_
                                refine Steps.cons (fun a w hS hI hp => ok_if (d := 101) rfl rfl (by rw [hS.size]; decide) (((hp.get 6 (by rfl) rfl rfl)).trans (bT c13)) (does_val (x_move rfl (hS.get 0 rfl)) rfl)) ?_
                                refine Steps.cons (fun a w hS hI hp => ok_if (d := 101) rfl rfl (by rw [hS.size]; decide) (((hp.get 6 (by rfl) rfl rfl)).trans (bT c13)) (does_val (x_bin rfl ((hp.get 7 (by rfl) rfl rfl)) (rfl) (b_eql _ _ _ _ _ _)) rfl)) ?_
                                refine Steps.cons (fun a w hS hI hp => ok_on rfl (does_val (x_pickT rfl (((hp.get 6 (by rfl) rfl rfl)).trans (bT c13)) ((hp.get 8 (by rfl) rfl rfl))) rfl)) ?_
                                refine Steps.cons (fun a w hS hI hp => ok_on rfl (does_val (x_move rfl ((hp.get 9 (by rfl) rfl rfl))) rfl)) ?_
                                refine Steps.cons (fun a w hS hI hp => ok_if (d := 105) rfl rfl (by rw [hS.size]; decide) (((hp.get 10 (by rfl) rfl rfl)).trans (bT (decide_eq_true c14))) (does_call (by kernel_rfl) rfl ((carillonlaw06_awake.calls k  t120 _  At120).mono fun _ _ h => ⟨_, h.1, h.2, rfl⟩))) ?_
                                refine Steps.cons (fun a w hS hI hp => ok_on rfl (does_val (x_pickT rfl (((hp.get 10 (by rfl) rfl rfl)).trans (bT (decide_eq_true c14))) ((hp.get 11 (by rfl) rfl rfl))) rfl)) ?_
                                refine Steps.cons (fun a w hS hI hp => ok_on rfl (does_val (x_assign rfl ((hp.get 12 (by rfl) rfl rfl))) rfl)) ?_
                                exact Steps.nil
                              clear hS
                              intro at121 w122 hS hI hp
                              have hBw122_w := hI.1
                              have hBw122_w3 := hI.2.1
                              have hBw122_w104 := hI.2.2.1
                              have hBw122_w114 := hI.2.2.2.1
                              have hBw122_w117 := hI.2.2.2.2
                              replace hS := ((hS.nil).cons (hS.get 8 rfl)).cons (hS.get 7 rfl)
                              have hv10 : sl _ 10 = .bool t120 := hp 13 (by decide)
                              have hBw122_w122 := Below.refl w122.heap.size w122
                              have hS := hS.cons hv10
                              clear hp hI hv10
                              refine hK119 _ _ ?_
                              clear hK119 K119
                              refine wp_ret ?_
                              (try simp only [Exit.then, Exit.inBlock])
                              exact bodyPost_ret (v := .bool true) (by rw [results_tmp rfl]; exact congrArg (Result.ok · _) ((hS.get 0 rfl).trans (congrArg Value.bool hret))) hS.nodef ⟨rfl, hBw122_w⟩
                            · rw [if_neg c14] at H
                              exact absurd H (by simp)
                          · rw [if_neg c13] at H
                            exact absurd H (by simp)
                        · rw [if_neg c12] at H
                          exact absurd H (by simp)
                      · rw [if_neg c11] at H
                        exact absurd H (by simp)
                    · rw [if_neg c10] at H
                      exact absurd H (by simp)
                  · rw [if_neg c9] at H
                    exact absurd H (by simp)
                · rw [if_neg c8] at H
                  exact absurd H (by simp)
              · rw [if_neg c7] at H
                exact absurd H (by simp)
            · rw [if_neg c6] at H
              exact absurd H (by simp)
          · rw [if_neg c5] at H
            exact absurd H (by simp)
        · rw [if_neg c4] at H
          exact absurd H (by simp)
      · rw [if_neg c3] at H
        exact absurd H (by simp)
    · rw [if_neg c2] at H
      exact absurd H (by simp)
  · rw [if_neg c1] at H
    obtain ⟨t15, At15, H⟩ := Option.bind_eq_some_iff.mp H
    have hret := Option.some.inj H
    clear H
    refine calls_of_wp (fn := Try.f9) (by kernel_rfl) rfl ?_
    have hS := St.enter #[.agg #[.int .i64 a0_0, .int .i64 a0_1, .int .i64 a0_2, .int .i64 a0_3, .int .u64 a0_4, .int .i64 a0_5, .int .i64 a0_6, .int .i64 a0_7, .int .i64 a0_8, .int .u64 a0_9, .int .i64 a0_10, .int .i64 a0_11, .int .i64 a0_12, .int .i64 a0_13, .int .i64 a0_14, .int .i64 a0_15, .int .i64 a0_16, .int .u64 a0_17, .int .i64 a0_18, .int .i64 a0_19, .int .i64 a0_20, .int .i64 a0_21, .int .i64 a0_22], .int .u8 a1, .int .u8 a2, .int .u8 a3, .int .u8 a4] 108 (by simp) [(0, .agg #[.int .i64 a0_0, .int .i64 a0_1, .int .i64 a0_2, .int .i64 a0_3, .int .u64 a0_4, .int .i64 a0_5, .int .i64 a0_6, .int .i64 a0_7, .int .i64 a0_8, .int .u64 a0_9, .int .i64 a0_10, .int .i64 a0_11, .int .i64 a0_12, .int .i64 a0_13, .int .i64 a0_14, .int .i64 a0_15, .int .i64 a0_16, .int .u64 a0_17, .int .i64 a0_18, .int .i64 a0_19, .int .i64 a0_20, .int .i64 a0_21, .int .i64 a0_22]), (1, .int .u8 a1), (2, .int .u8 a2), (3, .int .u8 a3), (4, .int .u8 a4)] (by simp)
    have HB0 := Below.refl w.heap.size w
    refine wp_seq_k (fun K1 hK1 => ?_)
    refine reg_seq (N := 108) (bs := [(0, .agg #[.int .i64 a0_0, .int .i64 a0_1, .int .i64 a0_2, .int .i64 a0_3, .int .u64 a0_4, .int .i64 a0_5, .int .i64 a0_6, .int .i64 a0_7, .int .i64 a0_8, .int .u64 a0_9, .int .i64 a0_10, .int .i64 a0_11, .int .i64 a0_12, .int .i64 a0_13, .int .i64 a0_14, .int .i64 a0_15, .int .i64 a0_16, .int .u64 a0_17, .int .i64 a0_18, .int .i64 a0_19, .int .i64 a0_20, .int .i64 a0_21, .int .i64 a0_22]), (1, .int .u8 a1), (2, .int .u8 a2), (3, .int .u8 a3), (4, .int .u8 a4)]) (I := fun x => Below w.heap.size w x) (ps := [IsB #[.int .i64 a0_0, .int .i64 a0_1, .int .i64 a0_2, .int .i64 a0_3, .int .u64 a0_4, .int .i64 a0_5, .int .i64 a0_6, .int .i64 a0_7, .int .i64 a0_8, .int .u64 a0_9, .int .i64 a0_10, .int .i64 a0_11, .int .i64 a0_12, .int .i64 a0_13, .int .i64 a0_14, .int .i64 a0_15, .int .i64 a0_16, .int .u64 a0_17, .int .i64 a0_18, .int .i64 a0_19, .int .i64 a0_20, .int .i64 a0_21, .int .i64 a0_22] 28 w.heap.size, IsV (.bool false)]) (by kernel_rfl) ?_ ?_ rfl hS HB0 ?_ ?_
    · exact fun x y hI hb => below_step hI hb
    · exact AllStay.cons (Stays.b _ _ _) (AllStay.cons (Stays.v _) (AllStay.nil))
    · refine Steps.cons (fun a w hS hI hp => ok_on rfl (does_var (x_box rfl (congrArg Value.cells (hS.get 0 rfl))) (hI).size)) ?_
      refine Steps.cons (fun a w hS hI hp => ok_on rfl (does_val (x_assign rfl (rfl)) rfl)) ?_
      exact Steps.nil
    clear hS
    intro at2 w3 hS hI hp
    have hBw3_w := hI
    replace hS := ((((hS.nil).cons (hS.get 4 rfl)).cons (hS.get 3 rfl)).cons (hS.get 2 rfl)).cons (hS.get 1 rfl)
    obtain ⟨g4, hv5, hgeg4, hbxg4⟩ := (show IsB _ 28 _ (sl _ 5) _ from hp 0 (by decide))
    have hv10 : sl _ 10 = .bool false := hp 1 (by decide)
    have hBw3_w3 := Below.refl w3.heap.size w3
    have hS := hS.cons hv5
    have hS := hS.cons hv10
    clear hp hI hv5 hv10
    refine hK1 _ _ ?_
    clear hK1 K1
    refine wp_seq_k (fun K5 hK5 => ?_)
    refine reg_seq (N := 108) (bs := [(10, .bool false), (5, .pointer (some ⟨g4, 0, none⟩)), (1, .int .u8 a1), (2, .int .u8 a2), (3, .int .u8 a3), (4, .int .u8 a4)]) (I := fun x => Below w.heap.size w x ∧ Below w3.heap.size w3 x) (ps := [IsV (.agg #[.int .i64 a0_0, .int .i64 a0_1, .int .i64 a0_2, .int .i64 a0_3, .int .u64 a0_4, .int .i64 a0_5, .int .i64 a0_6, .int .i64 a0_7, .int .i64 a0_8, .int .u64 a0_9, .int .i64 a0_10, .int .i64 a0_11, .int .i64 a0_12, .int .i64 a0_13, .int .i64 a0_14, .int .i64 a0_15, .int .i64 a0_16, .int .u64 a0_17, .int .i64 a0_18, .int .i64 a0_19, .int .i64 a0_20, .int .i64 a0_21, .int .i64 a0_22]), IsTR (Kd.int .u8) 5 w3.heap.size t6_1 [.bool t6_2], IsTR (Kd.int .u8) 5 w3.heap.size t6_1 [.bool t6_2], IsR (Kd.int .u8) 5 w3.heap.size t6_1, IsV (.bool t6_2), IsR (Kd.int .u8) 5 w3.heap.size t6_1, IsV (.bool t6_2)]) (by kernel_rfl) ?_ ?_ rfl hS ⟨hBw3_w, hBw3_w3⟩ ?_ ?_
    · exact fun x y hI hb => ⟨below_step hI.1 hb, below_step hI.2 hb⟩
    · exact AllStay.cons (Stays.v _) (AllStay.cons (Stays.tr _ _ _ _ _) (AllStay.cons (Stays.tr _ _ _ _ _) (AllStay.cons (Stays.r _ _ _ _) (AllStay.cons (Stays.v _) (AllStay.cons (Stays.r _ _ _ _) (AllStay.cons (Stays.v _) (AllStay.nil)))))))
    · refine Steps.cons (fun a w hS hI hp => ok_on rfl (does_loadrow rfl (hS.get 1 rfl) (((hI.2).block g4 (blk_lt hbxg4)).trans hbxg4) Try.underlying28 rfl (by kernel_rfl) rfl)) ?_
      refine Steps.cons (fun a w hS hI hp => ok_on rfl (does_call (by kernel_rfl) (ar2 ((hp.get 0 (by rfl) rfl rfl)) (rfl)) ((header_Put.calls k a0_0 a0_1 a0_2 a0_3 a0_4 a0_5 a0_6 a0_7 a0_8 a0_9 a0_10 a0_11 a0_12 a0_13 a0_14 a0_15 a0_16 a0_17 a0_18 a0_19 a0_20 a0_21 a0_22 34 t6_1 t6_2 _  At6).mono fun _ _ h => h.elim fun v0 h => ⟨_, h.1, h.2.2, v0, rfl, Kd.R_lower h.2.1 hI.2.size⟩))) ?_
      refine Steps.cons (fun a w hS hI hp => ok_on rfl (does_val (x_move rfl rfl) ((hp.get 1 (by rfl) rfl rfl)))) ?_
      refine Steps.cons (fun a w hS hI hp => ok_on rfl (((hp.get 2 (by rfl) rfl rfl)).elim fun v0 h0 => does_val (x_extract rfl h0.1 rfl) h0.2)) ?_
      refine Steps.cons (fun a w hS hI hp => ok_on rfl (((hp.get 2 (by rfl) rfl rfl)).elim fun v0 h0 => does_val (x_extract rfl h0.1 rfl) rfl)) ?_
      refine Steps.cons (fun a w hS hI hp => ok_on rfl (does_val (x_assign rfl rfl) ((hp.get 3 (by rfl) rfl rfl)))) ?_
      refine Steps.cons (fun a w hS hI hp => ok_on rfl (does_val (x_assign rfl ((hp.get 4 (by rfl) rfl rfl))) rfl)) ?_
      exact Steps.nil
    clear hS
    intro at7 w8 hS hI hp
    have hBw8_w := hI.1
    have hBw8_w3 := hI.2
    replace hS := (((((hS.nil).cons (hS.get 5 rfl)).cons (hS.get 4 rfl)).cons (hS.get 3 rfl)).cons (hS.get 2 rfl)).cons (hS.get 0 rfl)
    obtain ⟨A9, C9, hv11, hl9, hc9⟩ := Kd.R_reads (show Kd.R (Kd.int .u8) 5 w8 w3.heap.size (fun _ => True) (sl _ 11) t6_1 from hp 5 (by decide))
    have ho9 : Kd.R (Kd.int .u8) 5 w8 w3.heap.size (fun _ => True) (.slice A9 t6_1.length C9) t6_1 := hv11 ▸ (hp 5 (by decide))
    have hv12 : sl _ 12 = .bool t6_2 := hp 6 (by decide)
    have hBw8_w8 := Below.refl w8.heap.size w8
    have hS := hS.cons hv11
    have hS := hS.cons hv12
    clear hp hI hv11 hv12
    refine hK5 _ _ ?_
    clear hK5 K5
    refine wp_seq_k (fun K10 hK10 => ?_)
    refine wp_seq_k (fun K11 hK11 => ?_)
    refine reg_seq (N := 108) (bs := [(12, .bool t6_2), (11, .slice A9 t6_1.length C9), (10, .bool false), (1, .int .u8 a1), (2, .int .u8 a2), (3, .int .u8 a3), (4, .int .u8 a4)]) (I := fun x => Below w.heap.size w x ∧ Below w3.heap.size w3 x ∧ Below w8.heap.size w8 x) (ps := [IsV (.bool t6_2), IsV (.bool (!t6_2))]) (by kernel_rfl) ?_ ?_ rfl hS ⟨hBw8_w, hBw8_w3, hBw8_w8⟩ ?_ ?_
    · exact fun x y hI hb => ⟨below_step hI.1 hb, below_step hI.2.1 hb, below_step hI.2.2 hb⟩
    · exact AllStay.cons (Stays.v _) (AllStay.cons (Stays.v _) (AllStay.nil))
    · refine Steps.cons (fun a w hS hI hp => ok_on rfl (does_val (x_move rfl (hS.get 0 rfl)) rfl)) ?_
      refine Steps.cons (fun a w hS hI hp => ok_on rfl (does_val (x_not rfl ((hp.get 0 (by rfl) rfl rfl))) rfl)) ?_
      exact Steps.nil
    clear hS
    intro at12 w13 hS hI hp
    have hBw13_w := hI.1
    have hBw13_w3 := hI.2.1
    have hBw13_w8 := hI.2.2
    replace hS := ((((((hS.nil).cons (hS.get 6 rfl)).cons (hS.get 5 rfl)).cons (hS.get 4 rfl)).cons (hS.get 3 rfl)).cons (hS.get 2 rfl)).cons (hS.get 1 rfl)
    have hv31 : sl _ 31 = .bool (!t6_2) := hp 1 (by decide)
    have hBw13_w13 := Below.refl w13.heap.size w13
    have hS := hS.cons hv31
    clear hp hI hv31
    refine hK11 _ _ ?_
    clear hK11 K11
    refine wp_cond_true ((hS.get 0 rfl).trans (bT (congrArg (!·) (Bool.eq_false_iff.2 c1)))) ?_
    refine wp_seq_k (fun K14 hK14 => ?_)
    replace hS := ((((((hS.nil).cons (hS.get 6 rfl)).cons (hS.get 5 rfl)).cons (hS.get 4 rfl)).cons (hS.get 3 rfl)).cons (hS.get 1 rfl)).cons (hS.get 0 rfl)
    refine reg_seq (N := 108) (bs := [(31, .bool (!t6_2)), (11, .slice A9 t6_1.length C9), (1, .int .u8 a1), (2, .int .u8 a2), (3, .int .u8 a3), (4, .int .u8 a4)]) (I := fun x => Below w.heap.size w x ∧ Below w3.heap.size w3 x ∧ Below w8.heap.size w8 x ∧ Below w13.heap.size w13 x) (ps := [IsV (.bool t15), IsV (.bool t15)]) (by kernel_rfl) ?_ ?_ rfl hS ⟨hBw13_w, hBw13_w3, hBw13_w8, hBw13_w13⟩ ?_ ?_
    · exact fun x y hI hb => ⟨below_step hI.1 hb, below_step hI.2.1 hb, below_step hI.2.2.1 hb, below_step hI.2.2.2 hb⟩
    · exact AllStay.cons (Stays.v _) (AllStay.cons (Stays.v _) (AllStay.nil))
    · refine Steps.cons (fun a w hS hI hp => ok_on rfl (does_call (by kernel_rfl) rfl ((carillonlaw06_awake.calls k  t15 _  At15).mono fun _ _ h => ⟨_, h.1, h.2, rfl⟩))) ?_
      refine Steps.cons (fun a w hS hI hp => ok_on rfl (does_val (x_assign rfl ((hp.get 0 (by rfl) rfl rfl))) rfl)) ?_
      exact Steps.nil
    clear hS
    intro at16 w17 hS hI hp
    have hBw17_w := hI.1
    have hBw17_w3 := hI.2.1
    have hBw17_w8 := hI.2.2.1
    have hBw17_w13 := hI.2.2.2
    have hv10 : sl _ 10 = .bool t15 := hp 1 (by decide)
    have hBw17_w17 := Below.refl w17.heap.size w17
    have hS := hS.cons hv10
    clear hp hI hv10
    refine hK14 _ _ ?_
    clear hK14 K14
    refine wp_ret ?_
    (try simp only [Exit.then, Exit.inBlock])
    exact bodyPost_ret (v := .bool true) (by rw [results_tmp rfl]; exact congrArg (Result.ok · _) ((hS.get 0 rfl).trans (congrArg Value.bool hret))) hS.nodef ⟨rfl, hBw17_w⟩

/-- The one pure statement of carillonlaw06_HeaderIgnores. -/
def carillonlaw06_HeaderIgnores.Pure : Prop := ∀ (a0_0 : Int) (a0_1 : Int) (a0_2 : Int) (a0_3 : Int) (a0_4 : Int) (a0_5 : Int) (a0_6 : Int) (a0_7 : Int) (a0_8 : Int) (a0_9 : Int) (a0_10 : Int) (a0_11 : Int) (a0_12 : Int) (a0_13 : Int) (a0_14 : Int) (a0_15 : Int) (a0_16 : Int) (a0_17 : Int) (a0_18 : Int) (a0_19 : Int) (a0_20 : Int) (a0_21 : Int) (a0_22 : Int) (a1 : Int) (a2 : Int) (a3 : Int) (a4 : Int), (Lit.int .i64 a0_0).wf = true → (Lit.int .i64 a0_1).wf = true → (Lit.int .i64 a0_2).wf = true → (Lit.int .i64 a0_3).wf = true → (Lit.int .u64 a0_4).wf = true → (Lit.int .i64 a0_5).wf = true → (Lit.int .i64 a0_6).wf = true → (Lit.int .i64 a0_7).wf = true → (Lit.int .i64 a0_8).wf = true → (Lit.int .u64 a0_9).wf = true → (Lit.int .i64 a0_10).wf = true → (Lit.int .i64 a0_11).wf = true → (Lit.int .i64 a0_12).wf = true → (Lit.int .i64 a0_13).wf = true → (Lit.int .i64 a0_14).wf = true → (Lit.int .i64 a0_15).wf = true → (Lit.int .i64 a0_16).wf = true → (Lit.int .u64 a0_17).wf = true → (Lit.int .i64 a0_18).wf = true → (Lit.int .i64 a0_19).wf = true → (Lit.int .i64 a0_20).wf = true → (Lit.int .i64 a0_21).wf = true → (Lit.int .i64 a0_22).wf = true → (Lit.int .u8 a1).wf = true → (Lit.int .u8 a2).wf = true → (Lit.int .u8 a3).wf = true → (Lit.int .u8 a4).wf = true → ∃ k, carillonlaw06_HeaderIgnores.f k a0_0 a0_1 a0_2 a0_3 a0_4 a0_5 a0_6 a0_7 a0_8 a0_9 a0_10 a0_11 a0_12 a0_13 a0_14 a0_15 a0_16 a0_17 a0_18 a0_19 a0_20 a0_21 a0_22 a1 a2 a3 a4 = some true
theorem carillonlaw06_HeaderIgnores.walk (P : carillonlaw06_HeaderIgnores.Pure) (a0_0 : Int) (a0_1 : Int) (a0_2 : Int) (a0_3 : Int) (a0_4 : Int) (a0_5 : Int) (a0_6 : Int) (a0_7 : Int) (a0_8 : Int) (a0_9 : Int) (a0_10 : Int) (a0_11 : Int) (a0_12 : Int) (a0_13 : Int) (a0_14 : Int) (a0_15 : Int) (a0_16 : Int) (a0_17 : Int) (a0_18 : Int) (a0_19 : Int) (a0_20 : Int) (a0_21 : Int) (a0_22 : Int) (a1 : Int) (a2 : Int) (a3 : Int) (a4 : Int) (w : World) (w0_0 : (Lit.int .i64 a0_0).wf = true) (w0_1 : (Lit.int .i64 a0_1).wf = true) (w0_2 : (Lit.int .i64 a0_2).wf = true) (w0_3 : (Lit.int .i64 a0_3).wf = true) (w0_4 : (Lit.int .u64 a0_4).wf = true) (w0_5 : (Lit.int .i64 a0_5).wf = true) (w0_6 : (Lit.int .i64 a0_6).wf = true) (w0_7 : (Lit.int .i64 a0_7).wf = true) (w0_8 : (Lit.int .i64 a0_8).wf = true) (w0_9 : (Lit.int .u64 a0_9).wf = true) (w0_10 : (Lit.int .i64 a0_10).wf = true) (w0_11 : (Lit.int .i64 a0_11).wf = true) (w0_12 : (Lit.int .i64 a0_12).wf = true) (w0_13 : (Lit.int .i64 a0_13).wf = true) (w0_14 : (Lit.int .i64 a0_14).wf = true) (w0_15 : (Lit.int .i64 a0_15).wf = true) (w0_16 : (Lit.int .i64 a0_16).wf = true) (w0_17 : (Lit.int .u64 a0_17).wf = true) (w0_18 : (Lit.int .i64 a0_18).wf = true) (w0_19 : (Lit.int .i64 a0_19).wf = true) (w0_20 : (Lit.int .i64 a0_20).wf = true) (w0_21 : (Lit.int .i64 a0_21).wf = true) (w0_22 : (Lit.int .i64 a0_22).wf = true) (w1 : (Lit.int .u8 a1).wf = true) (w2 : (Lit.int .u8 a2).wf = true) (w3 : (Lit.int .u8 a3).wf = true) (w4 : (Lit.int .u8 a4).wf = true) :
    Calls Try.prog 9 #[.agg #[.int .i64 a0_0, .int .i64 a0_1, .int .i64 a0_2, .int .i64 a0_3, .int .u64 a0_4, .int .i64 a0_5, .int .i64 a0_6, .int .i64 a0_7, .int .i64 a0_8, .int .u64 a0_9, .int .i64 a0_10, .int .i64 a0_11, .int .i64 a0_12, .int .i64 a0_13, .int .i64 a0_14, .int .i64 a0_15, .int .i64 a0_16, .int .u64 a0_17, .int .i64 a0_18, .int .i64 a0_19, .int .i64 a0_20, .int .i64 a0_21, .int .i64 a0_22], .int .u8 a1, .int .u8 a2, .int .u8 a3, .int .u8 a4] w fun e w' => e = .returned (.bool true) ∧ Below w.heap.size w w' := by
  obtain ⟨k, h⟩ := P a0_0 a0_1 a0_2 a0_3 a0_4 a0_5 a0_6 a0_7 a0_8 a0_9 a0_10 a0_11 a0_12 a0_13 a0_14 a0_15 a0_16 a0_17 a0_18 a0_19 a0_20 a0_21 a0_22 a1 a2 a3 a4 w0_0 w0_1 w0_2 w0_3 w0_4 w0_5 w0_6 w0_7 w0_8 w0_9 w0_10 w0_11 w0_12 w0_13 w0_14 w0_15 w0_16 w0_17 w0_18 w0_19 w0_20 w0_21 w0_22 w1 w2 w3 w4
  refine (carillonlaw06_HeaderIgnores.calls k a0_0 a0_1 a0_2 a0_3 a0_4 a0_5 a0_6 a0_7 a0_8 a0_9 a0_10 a0_11 a0_12 a0_13 a0_14 a0_15 a0_16 a0_17 a0_18 a0_19 a0_20 a0_21 a0_22 a1 a2 a3 a4 w  h).mono ?_
  rintro e w' ⟨rfl, hd⟩
  exact ⟨rfl, hd⟩

end Go.Proofs.Ytcflafkafbpibaa.P
