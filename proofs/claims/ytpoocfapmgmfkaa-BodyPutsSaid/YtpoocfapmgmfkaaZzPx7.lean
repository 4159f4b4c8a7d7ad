/- Functions and loops of the given program as Lean functions, and that the code comes to what they say: written by this session's own program; Lean checks it. -/
import Derived.Test.YtpoocfapmgmfkaaZzPx0
import Derived.Test.YtpoocfapmgmfkaaZzPx4
import Derived.Test.YtpoocfapmgmfkaaZzPx6
namespace Go.Proofs.Ytpoocfapmgmfkaa.P
open Go.RowKit Go.Proofs.YtpoocfapmgmfkaaW.PrintWords Go.Proofs.YtpoocfapmgmfkaaW.PrintLast Go.Proofs.YtpoocfapmgmfkaaW.PrintMore
attribute [local go_sem] max2_int min2_int max_two min_two max_three min_three max_four min_four   -- for this text's walks alone
set_option linter.unusedVariables false
set_option linter.unusedSimpArgs false
/-! ### carillonref07_Put: function 10: by our own printer -/
def carillonref07_Put.j3 (k : Nat) (y3_3 : List Int) : Option (List Int) := some y3_3
def carillonref07_Put.j2 (k : Nat) (x2_1_0 x2_1_1 x2_1_2 x2_1_3 x2_1_4 x2_1_5 x2_1_6 x2_1_7 x2_1_8 x2_1_9 x2_1_10 x2_1_11 x2_1_12 x2_1_13 x2_1_14 x2_1_15 x2_1_16 x2_1_17 x2_1_18 x2_1_19 x2_1_20 x2_1_21 x2_1_22 : Int) (y2_3 : List Int) : Option (List Int) := if x2_1_0 = 2 then (if (y2_3.length + (10 : Int).toNat) * 1 ≤ 140737488355328 then (carillonref07_Put.j3 k (y2_3 ++ List.replicate (10 : Int).toNat 0 : List Int)) else (none)) else (if x2_1_0 = 11 then ((carillonref01_Put.f k x2_1_11 2).bind fun t2012 => (if (y2_3.length + t2012.length) * 1 ≤ 140737488355328 then (if ((y2_3 ++ t2012 : List Int).length + [0, IntKind.u8.wrap x2_1_12].length) * 1 ≤ 140737488355328 then ((carillonref05_Put.f k x2_1_13 x2_1_14 x2_1_15).bind fun t2033 => (if (((y2_3 ++ t2012 : List Int) ++ [0, IntKind.u8.wrap x2_1_12] : List Int).length + t2033.length) * 1 ≤ 140737488355328 then (if ((((y2_3 ++ t2012 : List Int) ++ [0, IntKind.u8.wrap x2_1_12] : List Int) ++ t2033 : List Int).length + [IntKind.u8.wrap x2_1_16].length) * 1 ≤ 140737488355328 then ((carillonref01_PutId.f k x2_1_17).bind fun t2054 => (if (((((y2_3 ++ t2012 : List Int) ++ [0, IntKind.u8.wrap x2_1_12] : List Int) ++ t2033 : List Int) ++ [IntKind.u8.wrap x2_1_16] : List Int).length + t2054.length) * 1 ≤ 140737488355328 then ((carillonref01_Put.f k x2_1_18 2).bind fun t2065 => (if ((((((y2_3 ++ t2012 : List Int) ++ [0, IntKind.u8.wrap x2_1_12] : List Int) ++ t2033 : List Int) ++ [IntKind.u8.wrap x2_1_16] : List Int) ++ t2054 : List Int).length + t2065.length) * 1 ≤ 140737488355328 then (if (((((((y2_3 ++ t2012 : List Int) ++ [0, IntKind.u8.wrap x2_1_12] : List Int) ++ t2033 : List Int) ++ [IntKind.u8.wrap x2_1_16] : List Int) ++ t2054 : List Int) ++ t2065 : List Int).length + [IntKind.u8.wrap x2_1_19].length) * 1 ≤ 140737488355328 then (carillonref07_Put.j3 k (((((((y2_3 ++ t2012 : List Int) ++ [0, IntKind.u8.wrap x2_1_12] : List Int) ++ t2033 : List Int) ++ [IntKind.u8.wrap x2_1_16] : List Int) ++ t2054 : List Int) ++ t2065 : List Int) ++ [IntKind.u8.wrap x2_1_19] : List Int)) else (none)) else (none))) else (none))) else (none)) else (none))) else (none)) else (none))) else (if x2_1_0 = 13 then (if (y2_3.length + [IntKind.u8.wrap x2_1_20, IntKind.u8.wrap x2_1_21, IntKind.u8.wrap x2_1_22, 0].length) * 1 ≤ 140737488355328 then (carillonref07_Put.j3 k (y2_3 ++ [IntKind.u8.wrap x2_1_20, IntKind.u8.wrap x2_1_21, IntKind.u8.wrap x2_1_22, 0] : List Int)) else (none)) else (carillonref07_Put.j3 k y2_3)))
def carillonref07_Put.j1 (k : Nat) (x1_1_0 x1_1_1 x1_1_2 x1_1_3 x1_1_4 x1_1_5 x1_1_6 x1_1_7 x1_1_8 x1_1_9 x1_1_10 x1_1_11 x1_1_12 x1_1_13 x1_1_14 x1_1_15 x1_1_16 x1_1_17 x1_1_18 x1_1_19 x1_1_20 x1_1_21 x1_1_22 : Int) (y1_3 : List Int) : Option (List Int) := (carillonref07_targeted.f x1_1_0).bind fun t1003 => (if t1003 = true then ((carillonref04_Put.f k x1_1_9 x1_1_10).bind fun t1006 => (if (y1_3.length + t1006.length) * 1 ≤ 140737488355328 then (carillonref07_Put.j2 k x1_1_0 x1_1_1 x1_1_2 x1_1_3 x1_1_4 x1_1_5 x1_1_6 x1_1_7 x1_1_8 x1_1_9 x1_1_10 x1_1_11 x1_1_12 x1_1_13 x1_1_14 x1_1_15 x1_1_16 x1_1_17 x1_1_18 x1_1_19 x1_1_20 x1_1_21 x1_1_22 (y1_3 ++ t1006 : List Int)) else (none))) else (carillonref07_Put.j2 k x1_1_0 x1_1_1 x1_1_2 x1_1_3 x1_1_4 x1_1_5 x1_1_6 x1_1_7 x1_1_8 x1_1_9 x1_1_10 x1_1_11 x1_1_12 x1_1_13 x1_1_14 x1_1_15 x1_1_16 x1_1_17 x1_1_18 x1_1_19 x1_1_20 x1_1_21 x1_1_22 y1_3))
def carillonref07_Put.f (k : Nat) (a0_0 a0_1 a0_2 a0_3 a0_4 a0_5 a0_6 a0_7 a0_8 a0_9 a0_10 a0_11 a0_12 a0_13 a0_14 a0_15 a0_16 a0_17 a0_18 a0_19 a0_20 a0_21 a0_22 : Int) : Option (List Int) := (carillonref07_stamped.f a0_0).bind fun t10 => (if t10 = true then ((carillonref02_Put.f k a0_8).bind fun t13 => (if t13.length * 1 ≤ 140737488355328 then (carillonref07_Put.j1 k a0_0 a0_1 a0_2 a0_3 a0_4 a0_5 a0_6 a0_7 a0_8 a0_9 a0_10 a0_11 a0_12 a0_13 a0_14 a0_15 a0_16 a0_17 a0_18 a0_19 a0_20 a0_21 a0_22 t13) else (none))) else (carillonref07_Put.j1 k a0_0 a0_1 a0_2 a0_3 a0_4 a0_5 a0_6 a0_7 a0_8 a0_9 a0_10 a0_11 a0_12 a0_13 a0_14 a0_15 a0_16 a0_17 a0_18 a0_19 a0_20 a0_21 a0_22 []))
abbrev carillonref07_Put.v0 (x0 x1 x2 x3 x4 x5 x6 x7 x8 x9 x10 x11 x12 x13 x14 x15 x16 x17 x18 x19 x20 x21 x22 : Int) : Value := .agg #[.int .i64 x0, .int .i64 x1, .int .i64 x2, .int .i64 x3, .int .u64 x4, .int .i64 x5, .int .i64 x6, .int .i64 x7, .int .i64 x8, .int .u64 x9, .int .i64 x10, .int .i64 x11, .int .i64 x12, .int .i64 x13, .int .i64 x14, .int .i64 x15, .int .i64 x16, .int .u64 x17, .int .i64 x18, .int .i64 x19, .int .i64 x20, .int .i64 x21, .int .i64 x22]
abbrev carillonref07_Put.c1 (x0 x1 x2 x3 x4 x5 x6 x7 x8 x9 x10 x11 x12 x13 x14 x15 x16 x17 x18 x19 x20 x21 x22 : Int) : Array Value := #[.int .i64 x0, .int .i64 x1, .int .i64 x2, .int .i64 x3, .int .u64 x4, .int .i64 x5, .int .i64 x6, .int .i64 x7, .int .i64 x8, .int .u64 x9, .int .i64 x10, .int .i64 x11, .int .i64 x12, .int .i64 x13, .int .i64 x14, .int .i64 x15, .int .i64 x16, .int .u64 x17, .int .i64 x18, .int .i64 x19, .int .i64 x20, .int .i64 x21, .int .i64 x22]
open Go.Proofs.Ytpoocfapmgmfkaa.E in
set_option maxHeartbeats 60000000 in
set_option maxRecDepth 100000 in
theorem carillonref07_Put.calls (k : Nat) (a0_0 a0_1 a0_2 a0_3 a0_4 a0_5 a0_6 a0_7 a0_8 a0_9 a0_10 a0_11 a0_12 a0_13 a0_14 a0_15 a0_16 a0_17 a0_18 a0_19 a0_20 a0_21 a0_22 : Int) (r : List Int) (w : World) (h : carillonref07_Put.f k a0_0 a0_1 a0_2 a0_3 a0_4 a0_5 a0_6 a0_7 a0_8 a0_9 a0_10 a0_11 a0_12 a0_13 a0_14 a0_15 a0_16 a0_17 a0_18 a0_19 a0_20 a0_21 a0_22 = some r) :
    Calls Try.prog 10 #[.agg #[.int .i64 a0_0, .int .i64 a0_1, .int .i64 a0_2, .int .i64 a0_3, .int .u64 a0_4, .int .i64 a0_5, .int .i64 a0_6, .int .i64 a0_7, .int .i64 a0_8, .int .u64 a0_9, .int .i64 a0_10, .int .i64 a0_11, .int .i64 a0_12, .int .i64 a0_13, .int .i64 a0_14, .int .i64 a0_15, .int .i64 a0_16, .int .u64 a0_17, .int .i64 a0_18, .int .i64 a0_19, .int .i64 a0_20, .int .i64 a0_21, .int .i64 a0_22]] w fun e w' => ∃ v0_ : Value, e = .returned v0_ ∧ Kd.R (Kd.int .u8) 5 w' w.heap.size (fun _ => True) v0_ r ∧ Below w.heap.size w w' := by
  have H := h
  clear h
  unfold carillonref07_Put.f at H
  refine calls_of_wp (fn := Try.f10) (by kernel_rfl) rfl ?_
  have hS := St.enter #[(carillonref07_Put.v0 a0_0 a0_1 a0_2 a0_3 a0_4 a0_5 a0_6 a0_7 a0_8 a0_9 a0_10 a0_11 a0_12 a0_13 a0_14 a0_15 a0_16 a0_17 a0_18 a0_19 a0_20 a0_21 a0_22)] 81 (by simp) [(0, (carillonref07_Put.v0 a0_0 a0_1 a0_2 a0_3 a0_4 a0_5 a0_6 a0_7 a0_8 a0_9 a0_10 a0_11 a0_12 a0_13 a0_14 a0_15 a0_16 a0_17 a0_18 a0_19 a0_20 a0_21 a0_22))] (by simp)
  have HB0 := Below.refl w.heap.size w
  refine wp_seq_k (fun K1 hK1 => ?_)
  refine reg_seq (N := 81) (bs := [(0, (carillonref07_Put.v0 a0_0 a0_1 a0_2 a0_3 a0_4 a0_5 a0_6 a0_7 a0_8 a0_9 a0_10 a0_11 a0_12 a0_13 a0_14 a0_15 a0_16 a0_17 a0_18 a0_19 a0_20 a0_21 a0_22))]) (I := fun x => Below w.heap.size w x) (ps := [IsB (carillonref07_Put.c1 a0_0 a0_1 a0_2 a0_3 a0_4 a0_5 a0_6 a0_7 a0_8 a0_9 a0_10 a0_11 a0_12 a0_13 a0_14 a0_15 a0_16 a0_17 a0_18 a0_19 a0_20 a0_21 a0_22) 29 w.heap.size, IsV (.slice none 0 0)]) (by kernel_rfl) ?_ ?_ rfl hS HB0 ?_ ?_
  · exact fun x y hI hb => below_step hI hb
  · exact .cons (Stays.b _ _ _) (.v (.nil))
  · refine .on rfl (fun a w hS hI hp => does_var (x_box rfl (congrArg Value.cells (hS.get 0 rfl))) (hI).size) ?_
    refine .on rfl (fun a w hS hI hp => does_val (x_assign rfl (rfl)) rfl) ?_
    exact .nil
  clear hS
  intro at2 w3 hS hI hp
  have hBw3_w := hI
  replace hS := hS.nil
  obtain ⟨g4, hv1, hgeg4, hbxg4⟩ := (show IsB _ 29 _ (sl _ 1) _ from hp 0 (by decide))
  have hBw3_w3 := Below.refl w3.heap.size w3
  have hS := hS.cons hv1
  clear hp hI hv1
  refine hK1 _ _ ?_
  (try clear hK1 K1)
  refine wp_seq_k (fun K5 hK5 => ?_)
  refine reg_seq (N := 81) (bs := [(1, .pointer (some ⟨g4, 0, none⟩))]) (I := fun x => Below w.heap.size w x ∧ Below w3.heap.size w3 x) (ps := [IsV (.slice none 0 0)]) (by kernel_rfl) ?_ ?_ rfl hS ⟨hBw3_w, hBw3_w3⟩ ?_ ?_
  · exact fun x y hI hb => ⟨below_step hI.1 hb, below_step hI.2 hb⟩
  · exact .v (.nil)
  · refine .on rfl (fun a w hS hI hp => does_val (x_assign rfl (rfl)) rfl) ?_
    exact .nil
  clear hS
  intro at6 w7 hS hI hp
  have hBw7_w := hI.1
  have hBw7_w3 := hI.2
  have hv3 : sl _ 3 = .slice none 0 0 := hp 0 (by decide)
  have hBw7_w7 := Below.refl w7.heap.size w7
  have hS := hS.cons hv3
  clear hp hI hv3
  refine hK5 _ _ ?_
  (try clear hK5 K5)
  refine wp_seq_k (fun K8 hK8 => ?_)
  have J1 : ∀ (aL1 : Act) (wL1 : World) (x1_1_0 x1_1_1 x1_1_2 x1_1_3 x1_1_4 x1_1_5 x1_1_6 x1_1_7 x1_1_8 x1_1_9 x1_1_10 x1_1_11 x1_1_12 x1_1_13 x1_1_14 x1_1_15 x1_1_16 x1_1_17 x1_1_18 x1_1_19 x1_1_20 x1_1_21 x1_1_22 : Int) (gL1_1 : Nat) (y1_3 : List Int) (AL1_3 : Option Addr) (CL1_3 : Nat), carillonref07_Put.j1 k x1_1_0 x1_1_1 x1_1_2 x1_1_3 x1_1_4 x1_1_5 x1_1_6 x1_1_7 x1_1_8 x1_1_9 x1_1_10 x1_1_11 x1_1_12 x1_1_13 x1_1_14 x1_1_15 x1_1_16 x1_1_17 x1_1_18 x1_1_19 x1_1_20 x1_1_21 x1_1_22 y1_3 = some r → St 81 [(1, .pointer (some ⟨gL1_1, 0, none⟩)), (3, .slice AL1_3 y1_3.length CL1_3)] aL1 → Below w.heap.size w wL1 → w.heap.size ≤ gL1_1 → wL1.heap[gL1_1]? = some (.cells (carillonref07_Put.c1 x1_1_0 x1_1_1 x1_1_2 x1_1_3 x1_1_4 x1_1_5 x1_1_6 x1_1_7 x1_1_8 x1_1_9 x1_1_10 x1_1_11 x1_1_12 x1_1_13 x1_1_14 x1_1_15 x1_1_16 x1_1_17 x1_1_18 x1_1_19 x1_1_20 x1_1_21 x1_1_22) 29 (0, 0)) → y1_3.length ≤ CL1_3 → Kd.R (Kd.int .u8) 5 wL1 w.heap.size (fun _ => True) (.slice AL1_3 y1_3.length CL1_3) y1_3 → K8 aL1 wL1 := by
    intro aL1 wL1 x1_1_0 x1_1_1 x1_1_2 x1_1_3 x1_1_4 x1_1_5 x1_1_6 x1_1_7 x1_1_8 x1_1_9 x1_1_10 x1_1_11 x1_1_12 x1_1_13 x1_1_14 x1_1_15 x1_1_16 x1_1_17 x1_1_18 x1_1_19 x1_1_20 x1_1_21 x1_1_22 gL1_1 y1_3 AL1_3 CL1_3 H hS hBwL1_w hgeLgL1_1 hbxLgL1_1 hr1_3 hoL1_3
    unfold carillonref07_Put.j1 at H
    (try dsimp only at H)
    have hBwL1_wL1 := Below.refl wL1.heap.size wL1
    refine hK8 _ _ ?_
    (try clear hK8 K8)
    refine wp_seq_k (fun K1001 hK1001 => ?_)
    have J2 : ∀ (aL2 : Act) (wL2 : World) (x2_1_0 x2_1_1 x2_1_2 x2_1_3 x2_1_4 x2_1_5 x2_1_6 x2_1_7 x2_1_8 x2_1_9 x2_1_10 x2_1_11 x2_1_12 x2_1_13 x2_1_14 x2_1_15 x2_1_16 x2_1_17 x2_1_18 x2_1_19 x2_1_20 x2_1_21 x2_1_22 : Int) (gL2_1 : Nat) (y2_3 : List Int) (AL2_3 : Option Addr) (CL2_3 : Nat), carillonref07_Put.j2 k x2_1_0 x2_1_1 x2_1_2 x2_1_3 x2_1_4 x2_1_5 x2_1_6 x2_1_7 x2_1_8 x2_1_9 x2_1_10 x2_1_11 x2_1_12 x2_1_13 x2_1_14 x2_1_15 x2_1_16 x2_1_17 x2_1_18 x2_1_19 x2_1_20 x2_1_21 x2_1_22 y2_3 = some r → St 81 [(1, .pointer (some ⟨gL2_1, 0, none⟩)), (3, .slice AL2_3 y2_3.length CL2_3)] aL2 → Below w.heap.size w wL2 → w.heap.size ≤ gL2_1 → wL2.heap[gL2_1]? = some (.cells (carillonref07_Put.c1 x2_1_0 x2_1_1 x2_1_2 x2_1_3 x2_1_4 x2_1_5 x2_1_6 x2_1_7 x2_1_8 x2_1_9 x2_1_10 x2_1_11 x2_1_12 x2_1_13 x2_1_14 x2_1_15 x2_1_16 x2_1_17 x2_1_18 x2_1_19 x2_1_20 x2_1_21 x2_1_22) 29 (0, 0)) → y2_3.length ≤ CL2_3 → Kd.R (Kd.int .u8) 5 wL2 w.heap.size (fun _ => True) (.slice AL2_3 y2_3.length CL2_3) y2_3 → K1001 aL2 wL2 := by
      intro aL2 wL2 x2_1_0 x2_1_1 x2_1_2 x2_1_3 x2_1_4 x2_1_5 x2_1_6 x2_1_7 x2_1_8 x2_1_9 x2_1_10 x2_1_11 x2_1_12 x2_1_13 x2_1_14 x2_1_15 x2_1_16 x2_1_17 x2_1_18 x2_1_19 x2_1_20 x2_1_21 x2_1_22 gL2_1 y2_3 AL2_3 CL2_3 H hS hBwL2_w hgeLgL2_1 hbxLgL2_1 hr2_3 hoL2_3
      unfold carillonref07_Put.j2 at H
      (try dsimp only at H)
      have hBwL2_wL2 := Below.refl wL2.heap.size wL2
      refine hK1001 _ _ ?_
      (try clear hK1001 K1001)
      refine wp_seq_k (fun K2001 hK2001 => ?_)
      have J3 : ∀ (aL3 : Act) (wL3 : World) (y3_3 : List Int) (AL3_3 : Option Addr) (CL3_3 : Nat), carillonref07_Put.j3 k y3_3 = some r → St 81 [(3, .slice AL3_3 y3_3.length CL3_3)] aL3 → Below w.heap.size w wL3 → y3_3.length ≤ CL3_3 → Kd.R (Kd.int .u8) 5 wL3 w.heap.size (fun _ => True) (.slice AL3_3 y3_3.length CL3_3) y3_3 → K2001 aL3 wL3 := by
        intro aL3 wL3 y3_3 AL3_3 CL3_3 H hS hBwL3_w hr3_3 hoL3_3
        unfold carillonref07_Put.j3 at H
        (try dsimp only at H)
        obtain rfl := Option.some.inj H
        have hBwL3_wL3 := Below.refl wL3.heap.size wL3
        refine hK2001 _ _ ?_
        (try clear hK2001 K2001)
        refine wp_seq_k (fun K3001 hK3001 => ?_)
        refine reg_seq (N := 81) (bs := [(3, .slice AL3_3 y3_3.length CL3_3)]) (I := fun x => Below w.heap.size w x ∧ Below wL3.heap.size wL3 x) (ps := [IsV (.slice AL3_3 y3_3.length CL3_3), IsV (.slice AL3_3 y3_3.length CL3_3)]) (by kernel_rfl) ?_ ?_ rfl hS ⟨hBwL3_w, hBwL3_wL3⟩ ?_ ?_
        · exact fun x y hI hb => ⟨below_step hI.1 hb, below_step hI.2 hb⟩
        · exact .v (.v (.nil))
        · refine .ms 0 rfl rfl rfl ?_
          refine .asg 0 rfl rfl rfl rfl ?_
          exact .nil
        clear hS
        intro at3002 w3003 hS hI hp
        have hBw3003_w := hI.1
        have hBw3003_wL3 := hI.2
        replace hS := hS.nil
        have hv2 : sl _ 2 = .slice AL3_3 y3_3.length CL3_3 := hp 1 (by decide)
        have hBw3003_w3003 := Below.refl w3003.heap.size w3003
        have hS := hS.cons hv2
        clear hp hI hv2
        refine hK3001 _ _ ?_
        (try clear hK3001 K3001)
        refine wp_ret ?_
        (try simp only [Exit.then, Exit.inBlock, Exit.jump, Exit.noGoto])
        exact bodyPost_ret (v := .slice AL3_3 y3_3.length CL3_3) (results_single rfl (Vals.at (hS.get 0 rfl) .nil)) hS.nodef ⟨.slice AL3_3 y3_3.length CL3_3, rfl, Kd.R_lower (Kd.R_below hoL3_3 hBw3003_wL3) (Nat.le_refl _), hBw3003_w⟩
      by_cases c1 : x2_1_0 = 2
      · rw [if_pos c1] at H
        by_cases c2 : (y2_3.length + (10 : Int).toNat) * 1 ≤ 140737488355328
        rotate_left
        · rw [if_neg c2] at H
          exact absurd H (by simp)
        rw [if_pos c2] at H
        refine wp_seq_k (fun K2002 hK2002 => ?_)
        refine reg_seq (N := 81) (bs := [(1, .pointer (some ⟨gL2_1, 0, none⟩)), (3, .slice AL2_3 y2_3.length CL2_3)]) (I := fun x => Below w.heap.size w x ∧ Below wL2.heap.size wL2 x) (ps := [VP gL2_1 0, VI x2_1_0]) (by kernel_rfl) ?_ ?_ rfl hS ⟨hBwL2_w, hBwL2_wL2⟩ ?_ ?_
        · exact fun x y hI hb => ⟨below_step hI.1 hb, below_step hI.2 hb⟩
        · exact .v (.v (.nil))
        · refine .on rfl (fun a w hS hI hp => does_val (x_fieldE (b := 0) rfl (hS.get 0 rfl) Try.underlying29 rfl rfl (by kernel_rfl)) rfl) ?_
          refine .on rfl (fun a w hS hI hp => does_val (x_load1 (d := .int .i64) rfl (hp.V 0 rfl rfl) (by kernel_rfl) rfl ((blk_cell (((hI.2).block gL2_1 (blk_lt hbxLgL2_1)).trans hbxLgL2_1) 0).trans rfl)) rfl) ?_
          exact .nil
        clear hS
        intro at2003 w2004 hS hI hp
        have hBw2004_w := hI.1
        have hBw2004_wL2 := hI.2
        have hv21 : sl _ 21 = .int .i64 x2_1_0 := hp 1 (by decide)
        have hBw2004_w2004 := Below.refl w2004.heap.size w2004
        have hS := hS.cons hv21
        clear hp hI hv21
        refine hK2002 _ _ ?_
        (try clear hK2002 K2002)
        refine wp_block ?_
        refine wp_seq_k (fun K2005 hK2005 => ?_)
        refine reg_seq (N := 81) (bs := [(21, .int .i64 x2_1_0), (1, .pointer (some ⟨gL2_1, 0, none⟩)), (3, .slice AL2_3 y2_3.length CL2_3)]) (I := fun x => Below w.heap.size w x ∧ Below wL2.heap.size wL2 x ∧ Below w2004.heap.size w2004 x) (ps := [VB (decide (x2_1_0 = 2)), VB (decide (x2_1_0 = 2))]) (by kernel_rfl) ?_ ?_ rfl hS ⟨hBw2004_w, hBw2004_wL2, hBw2004_w2004⟩ ?_ ?_
        · exact fun x y hI hb => ⟨below_step hI.1 hb, below_step hI.2.1 hb, below_step hI.2.2 hb⟩
        · exact .v (.v (.nil))
        · refine .on rfl (fun a w hS hI hp => does_val (x_bin rfl (hS.get 0 rfl) (rfl) (b_eql _ _ _ _ _ _)) rfl) ?_
          refine .asg 0 rfl rfl rfl rfl ?_
          exact .nil
        clear hS
        intro at2006 w2007 hS hI hp
        have hBw2007_w := hI.1
        have hBw2007_wL2 := hI.2.1
        have hBw2007_w2004 := hI.2.2
        have hv22 : sl _ 22 = .bool (decide (x2_1_0 = 2)) := hp 1 (by decide)
        have hBw2007_w2007 := Below.refl w2007.heap.size w2007
        have hS := hS.cons hv22
        clear hp hI hv22
        refine hK2005 _ _ ?_
        (try clear hK2005 K2005)
        refine wp_cond_true ((hS.get 0 rfl).trans (bT (decide_eq_true c1))) ?_
        refine reg_seq_tail 1 (N := 81) (bs := [(22, .bool (decide (x2_1_0 = 2))), (21, .int .i64 x2_1_0), (1, .pointer (some ⟨gL2_1, 0, none⟩)), (3, .slice AL2_3 y2_3.length CL2_3)]) (I := fun x => Below w.heap.size w x ∧ Below wL2.heap.size wL2 x ∧ Below w2007.heap.size w2007 x) (ps := [IsV (.slice AL2_3 y2_3.length CL2_3)]) (by kernel_rfl) ?_ ?_ rfl hS ⟨hBw2007_w, hBw2007_wL2, hBw2007_w2007⟩ ?_ ?_
        · exact fun x y hI hb => ⟨below_step hI.1 hb, below_step hI.2.1 hb, below_step hI.2.2 hb⟩
        · exact .v (.nil)
        · refine .ms 3 rfl rfl rfl ?_
          exact .nil
        clear hS
        intro at2008 w2009 hS hI hp
        have hBw2009_w := hI.1
        have hBw2009_wL2 := hI.2.1
        have hBw2009_w2007 := hI.2.2
        replace hS := (hS.nil).cons (hS.get 3 rfl)
        have hv24 : sl _ 24 = .slice AL2_3 y2_3.length CL2_3 := hp 0 (by decide)
        have hBw2009_w2009 := Below.refl w2009.heap.size w2009
        have hS := hS.cons hv24
        clear hp hI hv24
        show wpList _ _ _ [_, _] _ _
        refine list_step rfl (does_zeros (ki := .i64) (W := w) (.tmp 24) _ 22 3 5 1 rfl (by kernel_rfl) (by kernel_rfl) (by kernel_rfl) (by decide) _ y2_3 10 (hS.get 0 rfl) (rfl) (Kd.R_below hoL2_3 hBw2009_wL2) hBw2009_w (by decide) c2) ?_
        rintro vw2010 w2010 ⟨hb, hr, hk⟩
        have hn2011 := hk gL2_1 _ _ ((hBw2009_wL2.block gL2_1 (blk_lt hbxLgL2_1)).trans hbxLgL2_1) (by decide)
        clear hk
        have hBw2010_w := hb
        replace hS := hS.nil
        have hBw2010_w2010 := Below.refl w2010.heap.size w2010
        obtain ⟨A2012, C2012, rfl, hl2012, hc2012⟩ := Kd.R_reads hr
        have hr2012 := hr
        clear hr
        refine hS.next (v := .slice A2012 ((y2_3 ++ List.replicate (10 : Int).toNat 0 : List Int).length) C2012) (d := 25) rfl (by decide) (by rfl) ?_
        clear hS
        intro at2013 hS
        refine list_step rfl (R := fun v w' => Below _ _ w' ∧ (IsV (.slice A2012 ((y2_3 ++ List.replicate (10 : Int).toNat 0 : List Int).length) C2012)) v w') (does_val (x_assign rfl (hS.get 0 rfl)) rfl) ?_
        rintro vw2014 w2014 ⟨hb, he⟩
        have hBw2014_w := below_step hBw2010_w hb
        have hBw2014_w2010 := below_step hBw2010_w2010 hb
        have hBw2014_w2014 := Below.refl w2014.heap.size w2014
        obtain rfl : vw2014 = .slice A2012 ((y2_3 ++ List.replicate (10 : Int).toNat 0 : List Int).length) C2012 := he
        refine hS.next (v := .slice A2012 ((y2_3 ++ List.replicate (10 : Int).toNat 0 : List Int).length) C2012) (d := 3) rfl (by decide) (by rfl) ?_
        clear hS
        intro at2015 hS
        refine wpList_nil ?_
        replace hS := (hS.nil).cons (hS.get 0 rfl)
        (try simp only [Exit.then, Exit.inBlock])
        exact J3 _ _ (y2_3 ++ List.replicate (10 : Int).toNat 0 : List Int) A2012 C2012 H hS hBw2014_w hl2012 (Kd.R_lower (Kd.R_below hr2012 hBw2014_w2010) (Nat.le_refl _))
      rw [if_neg c1] at H
      by_cases c2 : x2_1_0 = 11
      rotate_left
      · rw [if_neg c2] at H
        by_cases c3 : x2_1_0 = 13
        rotate_left
        · rw [if_neg c3] at H
          refine wp_seq_k (fun K2002 hK2002 => ?_)
          refine reg_seq (N := 81) (bs := [(1, .pointer (some ⟨gL2_1, 0, none⟩)), (3, .slice AL2_3 y2_3.length CL2_3)]) (I := fun x => Below w.heap.size w x ∧ Below wL2.heap.size wL2 x) (ps := [VP gL2_1 0, VI x2_1_0]) (by kernel_rfl) ?_ ?_ rfl hS ⟨hBwL2_w, hBwL2_wL2⟩ ?_ ?_
          · exact fun x y hI hb => ⟨below_step hI.1 hb, below_step hI.2 hb⟩
          · exact .v (.v (.nil))
          · refine .on rfl (fun a w hS hI hp => does_val (x_fieldE (b := 0) rfl (hS.get 0 rfl) Try.underlying29 rfl rfl (by kernel_rfl)) rfl) ?_
            refine .on rfl (fun a w hS hI hp => does_val (x_load1 (d := .int .i64) rfl (hp.V 0 rfl rfl) (by kernel_rfl) rfl ((blk_cell (((hI.2).block gL2_1 (blk_lt hbxLgL2_1)).trans hbxLgL2_1) 0).trans rfl)) rfl) ?_
            exact .nil
          clear hS
          intro at2003 w2004 hS hI hp
          have hBw2004_w := hI.1
          have hBw2004_wL2 := hI.2
          have hv21 : sl _ 21 = .int .i64 x2_1_0 := hp 1 (by decide)
          have hBw2004_w2004 := Below.refl w2004.heap.size w2004
          have hS := hS.cons hv21
          clear hp hI hv21
          refine hK2002 _ _ ?_
          (try clear hK2002 K2002)
          refine wp_block ?_
          refine wp_seq_k (fun K2005 hK2005 => ?_)
          refine reg_seq (N := 81) (bs := [(21, .int .i64 x2_1_0), (1, .pointer (some ⟨gL2_1, 0, none⟩)), (3, .slice AL2_3 y2_3.length CL2_3)]) (I := fun x => Below w.heap.size w x ∧ Below wL2.heap.size wL2 x ∧ Below w2004.heap.size w2004 x) (ps := [VB (decide (x2_1_0 = 2)), VB (decide (x2_1_0 = 2))]) (by kernel_rfl) ?_ ?_ rfl hS ⟨hBw2004_w, hBw2004_wL2, hBw2004_w2004⟩ ?_ ?_
          · exact fun x y hI hb => ⟨below_step hI.1 hb, below_step hI.2.1 hb, below_step hI.2.2 hb⟩
          · exact .v (.v (.nil))
          · refine .on rfl (fun a w hS hI hp => does_val (x_bin rfl (hS.get 0 rfl) (rfl) (b_eql _ _ _ _ _ _)) rfl) ?_
            refine .asg 0 rfl rfl rfl rfl ?_
            exact .nil
          clear hS
          intro at2006 w2007 hS hI hp
          have hBw2007_w := hI.1
          have hBw2007_wL2 := hI.2.1
          have hBw2007_w2004 := hI.2.2
          have hv22 : sl _ 22 = .bool (decide (x2_1_0 = 2)) := hp 1 (by decide)
          have hBw2007_w2007 := Below.refl w2007.heap.size w2007
          have hS := hS.cons hv22
          clear hp hI hv22
          refine hK2005 _ _ ?_
          (try clear hK2005 K2005)
          refine wp_cond_false ((hS.get 0 rfl).trans (bF (decide_eq_false c1))) ?_
          refine wp_seq_k (fun K2008 hK2008 => ?_)
          refine reg_seq (N := 81) (bs := [(22, .bool (decide (x2_1_0 = 2))), (21, .int .i64 x2_1_0), (1, .pointer (some ⟨gL2_1, 0, none⟩)), (3, .slice AL2_3 y2_3.length CL2_3)]) (I := fun x => Below w.heap.size w x ∧ Below wL2.heap.size wL2 x ∧ Below w2007.heap.size w2007 x) (ps := [VB (decide (x2_1_0 = 11)), VB (decide (x2_1_0 = 11))]) (by kernel_rfl) ?_ ?_ rfl hS ⟨hBw2007_w, hBw2007_wL2, hBw2007_w2007⟩ ?_ ?_
          · exact fun x y hI hb => ⟨below_step hI.1 hb, below_step hI.2.1 hb, below_step hI.2.2 hb⟩
          · exact .v (.v (.nil))
          · refine .on rfl (fun a w hS hI hp => does_val (x_bin rfl (hS.get 1 rfl) (rfl) (b_eql _ _ _ _ _ _)) rfl) ?_
            refine .asg 0 rfl rfl rfl rfl ?_
            exact .nil
          clear hS
          intro at2009 w2010 hS hI hp
          have hBw2010_w := hI.1
          have hBw2010_wL2 := hI.2.1
          have hBw2010_w2007 := hI.2.2
          replace hS := (((hS.nil).cons (hS.get 3 rfl)).cons (hS.get 2 rfl)).cons (hS.get 1 rfl)
          have hv26 : sl _ 26 = .bool (decide (x2_1_0 = 11)) := hp 1 (by decide)
          have hBw2010_w2010 := Below.refl w2010.heap.size w2010
          have hS := hS.cons hv26
          clear hp hI hv26
          refine hK2008 _ _ ?_
          (try clear hK2008 K2008)
          refine wp_cond_false ((hS.get 0 rfl).trans (bF (decide_eq_false c2))) ?_
          refine wp_seq_k (fun K2011 hK2011 => ?_)
          refine reg_seq (N := 81) (bs := [(26, .bool (decide (x2_1_0 = 11))), (21, .int .i64 x2_1_0), (1, .pointer (some ⟨gL2_1, 0, none⟩)), (3, .slice AL2_3 y2_3.length CL2_3)]) (I := fun x => Below w.heap.size w x ∧ Below wL2.heap.size wL2 x ∧ Below w2010.heap.size w2010 x) (ps := [VB (decide (x2_1_0 = 13)), VB (decide (x2_1_0 = 13))]) (by kernel_rfl) ?_ ?_ rfl hS ⟨hBw2010_w, hBw2010_wL2, hBw2010_w2010⟩ ?_ ?_
          · exact fun x y hI hb => ⟨below_step hI.1 hb, below_step hI.2.1 hb, below_step hI.2.2 hb⟩
          · exact .v (.v (.nil))
          · refine .on rfl (fun a w hS hI hp => does_val (x_bin rfl (hS.get 1 rfl) (rfl) (b_eql _ _ _ _ _ _)) rfl) ?_
            refine .asg 0 rfl rfl rfl rfl ?_
            exact .nil
          clear hS
          intro at2012 w2013 hS hI hp
          have hBw2013_w := hI.1
          have hBw2013_wL2 := hI.2.1
          have hBw2013_w2010 := hI.2.2
          replace hS := ((hS.nil).cons (hS.get 3 rfl)).cons (hS.get 2 rfl)
          have hv66 : sl _ 66 = .bool (decide (x2_1_0 = 13)) := hp 1 (by decide)
          have hBw2013_w2013 := Below.refl w2013.heap.size w2013
          have hS := hS.cons hv66
          clear hp hI hv66
          refine hK2011 _ _ ?_
          (try clear hK2011 K2011)
          refine wp_cond_false ((hS.get 0 rfl).trans (bF (decide_eq_false c3))) ?_
          refine wp_skip ?_
          replace hS := (hS.nil).cons (hS.get 2 rfl)
          (try simp only [Exit.then, Exit.inBlock])
          exact J3 _ _ y2_3 AL2_3 CL2_3 H hS hBw2013_w hr2_3 (Kd.R_lower (Kd.R_below hoL2_3 hBw2013_wL2) (Nat.le_refl _))
        rw [if_pos c3] at H
        by_cases c4 : (y2_3.length + [IntKind.u8.wrap x2_1_20, IntKind.u8.wrap x2_1_21, IntKind.u8.wrap x2_1_22, 0].length) * 1 ≤ 140737488355328
        rotate_left
        · rw [if_neg c4] at H
          exact absurd H (by simp)
        rw [if_pos c4] at H
        refine wp_seq_k (fun K2002 hK2002 => ?_)
        refine reg_seq (N := 81) (bs := [(1, .pointer (some ⟨gL2_1, 0, none⟩)), (3, .slice AL2_3 y2_3.length CL2_3)]) (I := fun x => Below w.heap.size w x ∧ Below wL2.heap.size wL2 x) (ps := [VP gL2_1 0, VI x2_1_0]) (by kernel_rfl) ?_ ?_ rfl hS ⟨hBwL2_w, hBwL2_wL2⟩ ?_ ?_
        · exact fun x y hI hb => ⟨below_step hI.1 hb, below_step hI.2 hb⟩
        · exact .v (.v (.nil))
        · refine .on rfl (fun a w hS hI hp => does_val (x_fieldE (b := 0) rfl (hS.get 0 rfl) Try.underlying29 rfl rfl (by kernel_rfl)) rfl) ?_
          refine .on rfl (fun a w hS hI hp => does_val (x_load1 (d := .int .i64) rfl (hp.V 0 rfl rfl) (by kernel_rfl) rfl ((blk_cell (((hI.2).block gL2_1 (blk_lt hbxLgL2_1)).trans hbxLgL2_1) 0).trans rfl)) rfl) ?_
          exact .nil
        clear hS
        intro at2003 w2004 hS hI hp
        have hBw2004_w := hI.1
        have hBw2004_wL2 := hI.2
        have hv21 : sl _ 21 = .int .i64 x2_1_0 := hp 1 (by decide)
        have hBw2004_w2004 := Below.refl w2004.heap.size w2004
        have hS := hS.cons hv21
        clear hp hI hv21
        refine hK2002 _ _ ?_
        (try clear hK2002 K2002)
        refine wp_block ?_
        refine wp_seq_k (fun K2005 hK2005 => ?_)
        refine reg_seq (N := 81) (bs := [(21, .int .i64 x2_1_0), (1, .pointer (some ⟨gL2_1, 0, none⟩)), (3, .slice AL2_3 y2_3.length CL2_3)]) (I := fun x => Below w.heap.size w x ∧ Below wL2.heap.size wL2 x ∧ Below w2004.heap.size w2004 x) (ps := [VB (decide (x2_1_0 = 2)), VB (decide (x2_1_0 = 2))]) (by kernel_rfl) ?_ ?_ rfl hS ⟨hBw2004_w, hBw2004_wL2, hBw2004_w2004⟩ ?_ ?_
        · exact fun x y hI hb => ⟨below_step hI.1 hb, below_step hI.2.1 hb, below_step hI.2.2 hb⟩
        · exact .v (.v (.nil))
        · refine .on rfl (fun a w hS hI hp => does_val (x_bin rfl (hS.get 0 rfl) (rfl) (b_eql _ _ _ _ _ _)) rfl) ?_
          refine .asg 0 rfl rfl rfl rfl ?_
          exact .nil
        clear hS
        intro at2006 w2007 hS hI hp
        have hBw2007_w := hI.1
        have hBw2007_wL2 := hI.2.1
        have hBw2007_w2004 := hI.2.2
        have hv22 : sl _ 22 = .bool (decide (x2_1_0 = 2)) := hp 1 (by decide)
        have hBw2007_w2007 := Below.refl w2007.heap.size w2007
        have hS := hS.cons hv22
        clear hp hI hv22
        refine hK2005 _ _ ?_
        (try clear hK2005 K2005)
        refine wp_cond_false ((hS.get 0 rfl).trans (bF (decide_eq_false c1))) ?_
        refine wp_seq_k (fun K2008 hK2008 => ?_)
        refine reg_seq (N := 81) (bs := [(22, .bool (decide (x2_1_0 = 2))), (21, .int .i64 x2_1_0), (1, .pointer (some ⟨gL2_1, 0, none⟩)), (3, .slice AL2_3 y2_3.length CL2_3)]) (I := fun x => Below w.heap.size w x ∧ Below wL2.heap.size wL2 x ∧ Below w2007.heap.size w2007 x) (ps := [VB (decide (x2_1_0 = 11)), VB (decide (x2_1_0 = 11))]) (by kernel_rfl) ?_ ?_ rfl hS ⟨hBw2007_w, hBw2007_wL2, hBw2007_w2007⟩ ?_ ?_
        · exact fun x y hI hb => ⟨below_step hI.1 hb, below_step hI.2.1 hb, below_step hI.2.2 hb⟩
        · exact .v (.v (.nil))
        · refine .on rfl (fun a w hS hI hp => does_val (x_bin rfl (hS.get 1 rfl) (rfl) (b_eql _ _ _ _ _ _)) rfl) ?_
          refine .asg 0 rfl rfl rfl rfl ?_
          exact .nil
        clear hS
        intro at2009 w2010 hS hI hp
        have hBw2010_w := hI.1
        have hBw2010_wL2 := hI.2.1
        have hBw2010_w2007 := hI.2.2
        replace hS := (((hS.nil).cons (hS.get 3 rfl)).cons (hS.get 2 rfl)).cons (hS.get 1 rfl)
        have hv26 : sl _ 26 = .bool (decide (x2_1_0 = 11)) := hp 1 (by decide)
        have hBw2010_w2010 := Below.refl w2010.heap.size w2010
        have hS := hS.cons hv26
        clear hp hI hv26
        refine hK2008 _ _ ?_
        (try clear hK2008 K2008)
        refine wp_cond_false ((hS.get 0 rfl).trans (bF (decide_eq_false c2))) ?_
        refine wp_seq_k (fun K2011 hK2011 => ?_)
        refine reg_seq (N := 81) (bs := [(26, .bool (decide (x2_1_0 = 11))), (21, .int .i64 x2_1_0), (1, .pointer (some ⟨gL2_1, 0, none⟩)), (3, .slice AL2_3 y2_3.length CL2_3)]) (I := fun x => Below w.heap.size w x ∧ Below wL2.heap.size wL2 x ∧ Below w2010.heap.size w2010 x) (ps := [VB (decide (x2_1_0 = 13)), VB (decide (x2_1_0 = 13))]) (by kernel_rfl) ?_ ?_ rfl hS ⟨hBw2010_w, hBw2010_wL2, hBw2010_w2010⟩ ?_ ?_
        · exact fun x y hI hb => ⟨below_step hI.1 hb, below_step hI.2.1 hb, below_step hI.2.2 hb⟩
        · exact .v (.v (.nil))
        · refine .on rfl (fun a w hS hI hp => does_val (x_bin rfl (hS.get 1 rfl) (rfl) (b_eql _ _ _ _ _ _)) rfl) ?_
          refine .asg 0 rfl rfl rfl rfl ?_
          exact .nil
        clear hS
        intro at2012 w2013 hS hI hp
        have hBw2013_w := hI.1
        have hBw2013_wL2 := hI.2.1
        have hBw2013_w2010 := hI.2.2
        replace hS := ((hS.nil).cons (hS.get 3 rfl)).cons (hS.get 2 rfl)
        have hv66 : sl _ 66 = .bool (decide (x2_1_0 = 13)) := hp 1 (by decide)
        have hBw2013_w2013 := Below.refl w2013.heap.size w2013
        have hS := hS.cons hv66
        clear hp hI hv66
        refine hK2011 _ _ ?_
        (try clear hK2011 K2011)
        refine wp_cond_true ((hS.get 0 rfl).trans (bT (decide_eq_true c3))) ?_
        refine reg_seq_tail 11 (N := 81) (bs := [(66, .bool (decide (x2_1_0 = 13))), (1, .pointer (some ⟨gL2_1, 0, none⟩)), (3, .slice AL2_3 y2_3.length CL2_3)]) (I := fun x => Below w.heap.size w x ∧ Below wL2.heap.size wL2 x ∧ Below w2013.heap.size w2013 x) (ps := [IsV (.slice AL2_3 y2_3.length CL2_3), VP gL2_1 20, VI x2_1_20, IsV (.int .u8 (IntKind.u8.wrap x2_1_20)), VP gL2_1 21, VI x2_1_21, IsV (.int .u8 (IntKind.u8.wrap x2_1_21)), VP gL2_1 22, VI x2_1_22, IsV (.int .u8 (IntKind.u8.wrap x2_1_22)), IsR (Kd.int .u8) 5 w2013.heap.size [IntKind.u8.wrap x2_1_20, IntKind.u8.wrap x2_1_21, IntKind.u8.wrap x2_1_22, 0]]) (by kernel_rfl) ?_ ?_ rfl hS ⟨hBw2013_w, hBw2013_wL2, hBw2013_w2013⟩ ?_ ?_
        · exact fun x y hI hb => ⟨below_step hI.1 hb, below_step hI.2.1 hb, below_step hI.2.2 hb⟩
        · exact .v (.v (.v (.v (.v (.v (.v (.v (.v (.v (.cons (Stays.r _ _ _ _) (.nil)))))))))))
        · refine .ms 2 rfl rfl rfl ?_
          refine .on rfl (fun a w hS hI hp => does_val (x_fieldE (b := 0) rfl (hS.get 1 rfl) Try.underlying29 rfl rfl (by kernel_rfl)) rfl) ?_
          refine .on rfl (fun a w hS hI hp => does_val (x_load1 (d := .int .i64) rfl (hp.V 1 rfl rfl) (by kernel_rfl) rfl ((blk_cell (((hI.2.1).block gL2_1 (blk_lt hbxLgL2_1)).trans hbxLgL2_1) 20).trans rfl)) rfl) ?_
          refine .on rfl (fun a w hS hI hp => does_val (x_convI rfl (by kernel_rfl) (by kernel_rfl) (hp.V 2 rfl rfl)) rfl) ?_
          refine .on rfl (fun a w hS hI hp => does_val (x_fieldE (b := 0) rfl (hS.get 1 rfl) Try.underlying29 rfl rfl (by kernel_rfl)) rfl) ?_
          refine .on rfl (fun a w hS hI hp => does_val (x_load1 (d := .int .i64) rfl (hp.V 4 rfl rfl) (by kernel_rfl) rfl ((blk_cell (((hI.2.1).block gL2_1 (blk_lt hbxLgL2_1)).trans hbxLgL2_1) 21).trans rfl)) rfl) ?_
          refine .on rfl (fun a w hS hI hp => does_val (x_convI rfl (by kernel_rfl) (by kernel_rfl) (hp.V 5 rfl rfl)) rfl) ?_
          refine .on rfl (fun a w hS hI hp => does_val (x_fieldE (b := 0) rfl (hS.get 1 rfl) Try.underlying29 rfl rfl (by kernel_rfl)) rfl) ?_
          refine .on rfl (fun a w hS hI hp => does_val (x_load1 (d := .int .i64) rfl (hp.V 7 rfl rfl) (by kernel_rfl) rfl ((blk_cell (((hI.2.1).block gL2_1 (blk_lt hbxLgL2_1)).trans hbxLgL2_1) 22).trans rfl)) rfl) ?_
          refine .on rfl (fun a w hS hI hp => does_val (x_convI rfl (by kernel_rfl) (by kernel_rfl) (hp.V 8 rfl rfl)) rfl) ?_
          refine .on rfl (fun a w hS hI hp => does_lit w2013.heap.size 22 5 4 _ [(0, .int .u8 (IntKind.u8.wrap x2_1_20)), (1, .int .u8 (IntKind.u8.wrap x2_1_21)), (2, .int .u8 (IntKind.u8.wrap x2_1_22)), (3, .int .u8 0)] [IntKind.u8.wrap x2_1_20, IntKind.u8.wrap x2_1_21, IntKind.u8.wrap x2_1_22, 0] rfl (by kernel_rfl) (by rw [Array.toList_map]; exact (show [(0, a.eval (.tmp 71)), (1, a.eval (.tmp 74)), (2, a.eval (.tmp 77)), (3, a.eval (.const (.int .u8 0)))] = _ from (li_cons (hp.V 3 rfl rfl) (li_cons (hp.V 6 rfl rfl) (li_cons (hp.V 9 rfl rfl) (li_cons (rfl) rfl)))))) (by kernel_rfl) rfl (hI.2.2).size (Nat.le_of_ble_eq_true rfl)) ?_
          exact .nil
        clear hS
        intro at2014 w2015 hS hI hp
        have hBw2015_w := hI.1
        have hBw2015_wL2 := hI.2.1
        have hBw2015_w2013 := hI.2.2
        replace hS := (hS.nil).cons (hS.get 2 rfl)
        have hv68 : sl _ 68 = .slice AL2_3 y2_3.length CL2_3 := hp 0 (by decide)
        obtain ⟨A2016, C2016, hv78, hl2016, hc2016⟩ := Kd.R_reads (show Kd.R (Kd.int .u8) 5 w2015 w2013.heap.size (fun _ => True) (sl _ 78) [IntKind.u8.wrap x2_1_20, IntKind.u8.wrap x2_1_21, IntKind.u8.wrap x2_1_22, 0] from hp 10 (by decide))
        have ho2016 : Kd.R (Kd.int .u8) 5 w2015 w2013.heap.size (fun _ => True) (.slice A2016 [IntKind.u8.wrap x2_1_20, IntKind.u8.wrap x2_1_21, IntKind.u8.wrap x2_1_22, 0].length C2016) [IntKind.u8.wrap x2_1_20, IntKind.u8.wrap x2_1_21, IntKind.u8.wrap x2_1_22, 0] := hv78 ▸ (hp 10 (by decide))
        have hBw2015_w2015 := Below.refl w2015.heap.size w2015
        have hS := hS.cons hv68
        have hS := hS.cons hv78
        clear hp hI hv68 hv78
        show wpList _ _ _ [_, _] _ _
        refine list_step rfl (does_more (W := w) (.tmp 68) (.tmp 78) 22 5 1 rfl (by kernel_rfl) (by kernel_rfl) (by decide) _ y2_3 [IntKind.u8.wrap x2_1_20, IntKind.u8.wrap x2_1_21, IntKind.u8.wrap x2_1_22, 0] _ _ (hS.get 1 rfl) (hS.get 0 rfl) (Kd.R_below hoL2_3 hBw2015_wL2) (Kd.C_below hc2016 hBw2015_w2015) hBw2015_w c4) ?_
        rintro vw2017 w2017 ⟨hb, hr, hk⟩
        have hn2018 := hk gL2_1 _ _ ((hBw2015_wL2.block gL2_1 (blk_lt hbxLgL2_1)).trans hbxLgL2_1) (by decide)
        clear hk
        have hBw2017_w := hb
        replace hS := hS.nil
        have hBw2017_w2017 := Below.refl w2017.heap.size w2017
        obtain ⟨A2019, C2019, rfl, hl2019, hc2019⟩ := Kd.R_reads hr
        have hr2019 := hr
        clear hr
        refine hS.next (v := .slice A2019 ((y2_3 ++ [IntKind.u8.wrap x2_1_20, IntKind.u8.wrap x2_1_21, IntKind.u8.wrap x2_1_22, 0] : List Int).length) C2019) (d := 79) rfl (by decide) (by rfl) ?_
        clear hS
        intro at2020 hS
        refine list_step rfl (R := fun v w' => Below _ _ w' ∧ (IsV (.slice A2019 ((y2_3 ++ [IntKind.u8.wrap x2_1_20, IntKind.u8.wrap x2_1_21, IntKind.u8.wrap x2_1_22, 0] : List Int).length) C2019)) v w') (does_val (x_assign rfl (hS.get 0 rfl)) rfl) ?_
        rintro vw2021 w2021 ⟨hb, he⟩
        have hBw2021_w := below_step hBw2017_w hb
        have hBw2021_w2017 := below_step hBw2017_w2017 hb
        have hBw2021_w2021 := Below.refl w2021.heap.size w2021
        obtain rfl : vw2021 = .slice A2019 ((y2_3 ++ [IntKind.u8.wrap x2_1_20, IntKind.u8.wrap x2_1_21, IntKind.u8.wrap x2_1_22, 0] : List Int).length) C2019 := he
        refine hS.next (v := .slice A2019 ((y2_3 ++ [IntKind.u8.wrap x2_1_20, IntKind.u8.wrap x2_1_21, IntKind.u8.wrap x2_1_22, 0] : List Int).length) C2019) (d := 3) rfl (by decide) (by rfl) ?_
        clear hS
        intro at2022 hS
        refine wpList_nil ?_
        replace hS := (hS.nil).cons (hS.get 0 rfl)
        (try simp only [Exit.then, Exit.inBlock])
        exact J3 _ _ (y2_3 ++ [IntKind.u8.wrap x2_1_20, IntKind.u8.wrap x2_1_21, IntKind.u8.wrap x2_1_22, 0] : List Int) A2019 C2019 H hS hBw2021_w hl2019 (Kd.R_lower (Kd.R_below hr2019 hBw2021_w2017) (Nat.le_refl _))
      rw [if_pos c2] at H
      obtain ⟨t2012, At2012, H⟩ := Option.bind_eq_some_iff.mp H
      by_cases c3 : (y2_3.length + t2012.length) * 1 ≤ 140737488355328
      rotate_left
      · rw [if_neg c3] at H
        exact absurd H (by simp)
      rw [if_pos c3] at H
      by_cases c4 : ((y2_3 ++ t2012 : List Int).length + [0, IntKind.u8.wrap x2_1_12].length) * 1 ≤ 140737488355328
      rotate_left
      · rw [if_neg c4] at H
        exact absurd H (by simp)
      rw [if_pos c4] at H
      obtain ⟨t2033, At2033, H⟩ := Option.bind_eq_some_iff.mp H
      by_cases c5 : (((y2_3 ++ t2012 : List Int) ++ [0, IntKind.u8.wrap x2_1_12] : List Int).length + t2033.length) * 1 ≤ 140737488355328
      rotate_left
      · rw [if_neg c5] at H
        exact absurd H (by simp)
      rw [if_pos c5] at H
      by_cases c6 : ((((y2_3 ++ t2012 : List Int) ++ [0, IntKind.u8.wrap x2_1_12] : List Int) ++ t2033 : List Int).length + [IntKind.u8.wrap x2_1_16].length) * 1 ≤ 140737488355328
      rotate_left
      · rw [if_neg c6] at H
        exact absurd H (by simp)
      rw [if_pos c6] at H
      obtain ⟨t2054, At2054, H⟩ := Option.bind_eq_some_iff.mp H
      by_cases c7 : (((((y2_3 ++ t2012 : List Int) ++ [0, IntKind.u8.wrap x2_1_12] : List Int) ++ t2033 : List Int) ++ [IntKind.u8.wrap x2_1_16] : List Int).length + t2054.length) * 1 ≤ 140737488355328
      rotate_left
      · rw [if_neg c7] at H
        exact absurd H (by simp)
      rw [if_pos c7] at H
      obtain ⟨t2065, At2065, H⟩ := Option.bind_eq_some_iff.mp H
      by_cases c8 : ((((((y2_3 ++ t2012 : List Int) ++ [0, IntKind.u8.wrap x2_1_12] : List Int) ++ t2033 : List Int) ++ [IntKind.u8.wrap x2_1_16] : List Int) ++ t2054 : List Int).length + t2065.length) * 1 ≤ 140737488355328
      rotate_left
      · rw [if_neg c8] at H
        exact absurd H (by simp)
      rw [if_pos c8] at H
      by_cases c9 : (((((((y2_3 ++ t2012 : List Int) ++ [0, IntKind.u8.wrap x2_1_12] : List Int) ++ t2033 : List Int) ++ [IntKind.u8.wrap x2_1_16] : List Int) ++ t2054 : List Int) ++ t2065 : List Int).length + [IntKind.u8.wrap x2_1_19].length) * 1 ≤ 140737488355328
      rotate_left
      · rw [if_neg c9] at H
        exact absurd H (by simp)
      rw [if_pos c9] at H
      refine wp_seq_k (fun K2002 hK2002 => ?_)
      refine reg_seq (N := 81) (bs := [(1, .pointer (some ⟨gL2_1, 0, none⟩)), (3, .slice AL2_3 y2_3.length CL2_3)]) (I := fun x => Below w.heap.size w x ∧ Below wL2.heap.size wL2 x) (ps := [VP gL2_1 0, VI x2_1_0]) (by kernel_rfl) ?_ ?_ rfl hS ⟨hBwL2_w, hBwL2_wL2⟩ ?_ ?_
      · exact fun x y hI hb => ⟨below_step hI.1 hb, below_step hI.2 hb⟩
      · exact .v (.v (.nil))
      · refine .on rfl (fun a w hS hI hp => does_val (x_fieldE (b := 0) rfl (hS.get 0 rfl) Try.underlying29 rfl rfl (by kernel_rfl)) rfl) ?_
        refine .on rfl (fun a w hS hI hp => does_val (x_load1 (d := .int .i64) rfl (hp.V 0 rfl rfl) (by kernel_rfl) rfl ((blk_cell (((hI.2).block gL2_1 (blk_lt hbxLgL2_1)).trans hbxLgL2_1) 0).trans rfl)) rfl) ?_
        exact .nil
      clear hS
      intro at2003 w2004 hS hI hp
      have hBw2004_w := hI.1
      have hBw2004_wL2 := hI.2
      have hv21 : sl _ 21 = .int .i64 x2_1_0 := hp 1 (by decide)
      have hBw2004_w2004 := Below.refl w2004.heap.size w2004
      have hS := hS.cons hv21
      clear hp hI hv21
      refine hK2002 _ _ ?_
      (try clear hK2002 K2002)
      refine wp_block ?_
      refine wp_seq_k (fun K2005 hK2005 => ?_)
      refine reg_seq (N := 81) (bs := [(21, .int .i64 x2_1_0), (1, .pointer (some ⟨gL2_1, 0, none⟩)), (3, .slice AL2_3 y2_3.length CL2_3)]) (I := fun x => Below w.heap.size w x ∧ Below wL2.heap.size wL2 x ∧ Below w2004.heap.size w2004 x) (ps := [VB (decide (x2_1_0 = 2)), VB (decide (x2_1_0 = 2))]) (by kernel_rfl) ?_ ?_ rfl hS ⟨hBw2004_w, hBw2004_wL2, hBw2004_w2004⟩ ?_ ?_
      · exact fun x y hI hb => ⟨below_step hI.1 hb, below_step hI.2.1 hb, below_step hI.2.2 hb⟩
      · exact .v (.v (.nil))
      · refine .on rfl (fun a w hS hI hp => does_val (x_bin rfl (hS.get 0 rfl) (rfl) (b_eql _ _ _ _ _ _)) rfl) ?_
        refine .asg 0 rfl rfl rfl rfl ?_
        exact .nil
      clear hS
      intro at2006 w2007 hS hI hp
      have hBw2007_w := hI.1
      have hBw2007_wL2 := hI.2.1
      have hBw2007_w2004 := hI.2.2
      have hv22 : sl _ 22 = .bool (decide (x2_1_0 = 2)) := hp 1 (by decide)
      have hBw2007_w2007 := Below.refl w2007.heap.size w2007
      have hS := hS.cons hv22
      clear hp hI hv22
      refine hK2005 _ _ ?_
      (try clear hK2005 K2005)
      refine wp_cond_false ((hS.get 0 rfl).trans (bF (decide_eq_false c1))) ?_
      refine wp_seq_k (fun K2008 hK2008 => ?_)
      refine reg_seq (N := 81) (bs := [(22, .bool (decide (x2_1_0 = 2))), (21, .int .i64 x2_1_0), (1, .pointer (some ⟨gL2_1, 0, none⟩)), (3, .slice AL2_3 y2_3.length CL2_3)]) (I := fun x => Below w.heap.size w x ∧ Below wL2.heap.size wL2 x ∧ Below w2007.heap.size w2007 x) (ps := [VB (decide (x2_1_0 = 11)), VB (decide (x2_1_0 = 11))]) (by kernel_rfl) ?_ ?_ rfl hS ⟨hBw2007_w, hBw2007_wL2, hBw2007_w2007⟩ ?_ ?_
      · exact fun x y hI hb => ⟨below_step hI.1 hb, below_step hI.2.1 hb, below_step hI.2.2 hb⟩
      · exact .v (.v (.nil))
      · refine .on rfl (fun a w hS hI hp => does_val (x_bin rfl (hS.get 1 rfl) (rfl) (b_eql _ _ _ _ _ _)) rfl) ?_
        refine .asg 0 rfl rfl rfl rfl ?_
        exact .nil
      clear hS
      intro at2009 w2010 hS hI hp
      have hBw2010_w := hI.1
      have hBw2010_wL2 := hI.2.1
      have hBw2010_w2007 := hI.2.2
      replace hS := (((hS.nil).cons (hS.get 3 rfl)).cons (hS.get 2 rfl)).cons (hS.get 1 rfl)
      have hv26 : sl _ 26 = .bool (decide (x2_1_0 = 11)) := hp 1 (by decide)
      have hBw2010_w2010 := Below.refl w2010.heap.size w2010
      have hS := hS.cons hv26
      clear hp hI hv26
      refine hK2008 _ _ ?_
      (try clear hK2008 K2008)
      refine wp_cond_true ((hS.get 0 rfl).trans (bT (decide_eq_true c2))) ?_
      refine wp_seq_k (fun K2011 hK2011 => ?_)
      refine reg_seq_tail 4 (N := 81) (bs := [(26, .bool (decide (x2_1_0 = 11))), (21, .int .i64 x2_1_0), (1, .pointer (some ⟨gL2_1, 0, none⟩)), (3, .slice AL2_3 y2_3.length CL2_3)]) (I := fun x => Below w.heap.size w x ∧ Below wL2.heap.size wL2 x ∧ Below w2010.heap.size w2010 x) (ps := [IsV (.slice AL2_3 y2_3.length CL2_3), VP gL2_1 11, VI x2_1_11, IsR (Kd.int .u8) 5 w2010.heap.size t2012]) (by kernel_rfl) ?_ ?_ rfl hS ⟨hBw2010_w, hBw2010_wL2, hBw2010_w2010⟩ ?_ ?_
      · exact fun x y hI hb => ⟨below_step hI.1 hb, below_step hI.2.1 hb, below_step hI.2.2 hb⟩
      · exact .v (.v (.v (.cons (Stays.r _ _ _ _) (.nil))))
      · refine .ms 3 rfl rfl rfl ?_
        refine .on rfl (fun a w hS hI hp => does_val (x_fieldE (b := 0) rfl (hS.get 2 rfl) Try.underlying29 rfl rfl (by kernel_rfl)) rfl) ?_
        refine .on rfl (fun a w hS hI hp => does_val (x_load1 (d := .int .i64) rfl (hp.V 1 rfl rfl) (by kernel_rfl) rfl ((blk_cell (((hI.2.1).block gL2_1 (blk_lt hbxLgL2_1)).trans hbxLgL2_1) 11).trans rfl)) rfl) ?_
        refine .on rfl (fun a w hS hI hp => does_call (by kernel_rfl) (ar2 (hp.V 2 rfl rfl) (rfl)) ((carillonref01_Put.calls k x2_1_11 2 t2012 _  At2012).mono fun _ _ h => h.elim fun v0 h => ⟨v0, h.1, h.2.2, Kd.R_lower h.2.1 hI.2.2.size⟩)) ?_
        exact .nil
      clear hS
      intro at2013 w2014 hS hI hp
      have hBw2014_w := hI.1
      have hBw2014_wL2 := hI.2.1
      have hBw2014_w2010 := hI.2.2
      replace hS := ((hS.nil).cons (hS.get 3 rfl)).cons (hS.get 2 rfl)
      have hv28 : sl _ 28 = .slice AL2_3 y2_3.length CL2_3 := hp 0 (by decide)
      obtain ⟨A2015, C2015, hv31, hl2015, hc2015⟩ := Kd.R_reads (show Kd.R (Kd.int .u8) 5 w2014 w2010.heap.size (fun _ => True) (sl _ 31) t2012 from hp 3 (by decide))
      have ho2015 : Kd.R (Kd.int .u8) 5 w2014 w2010.heap.size (fun _ => True) (.slice A2015 t2012.length C2015) t2012 := hv31 ▸ (hp 3 (by decide))
      have hBw2014_w2014 := Below.refl w2014.heap.size w2014
      have hS := hS.cons hv28
      have hS := hS.cons hv31
      clear hp hI hv28 hv31
      show wpList _ _ _ [_, _] _ _
      refine list_step rfl (does_more (W := w) (.tmp 28) (.tmp 31) 22 5 1 rfl (by kernel_rfl) (by kernel_rfl) (by decide) _ y2_3 t2012 _ _ (hS.get 1 rfl) (hS.get 0 rfl) (Kd.R_below hoL2_3 hBw2014_wL2) (Kd.C_below hc2015 hBw2014_w2014) hBw2014_w c3) ?_
      rintro vw2016 w2016 ⟨hb, hr, hk⟩
      have hn2017 := hk gL2_1 _ _ ((hBw2014_wL2.block gL2_1 (blk_lt hbxLgL2_1)).trans hbxLgL2_1) (by decide)
      clear hk
      have hBw2016_w := hb
      replace hS := (hS.nil).cons (hS.get 2 rfl)
      have hBw2016_w2016 := Below.refl w2016.heap.size w2016
      obtain ⟨A2018, C2018, rfl, hl2018, hc2018⟩ := Kd.R_reads hr
      have hr2018 := hr
      clear hr
      refine hS.next (v := .slice A2018 ((y2_3 ++ t2012 : List Int).length) C2018) (d := 32) rfl (by decide) (by rfl) ?_
      clear hS
      intro at2019 hS
      refine list_step rfl (R := fun v w' => Below _ _ w' ∧ (IsV (.slice A2018 ((y2_3 ++ t2012 : List Int).length) C2018)) v w') (does_val (x_assign rfl (hS.get 0 rfl)) rfl) ?_
      rintro vw2020 w2020 ⟨hb, he⟩
      have hBw2020_w := below_step hBw2016_w hb
      have hBw2020_w2016 := below_step hBw2016_w2016 hb
      have hBw2020_w2020 := Below.refl w2020.heap.size w2020
      obtain rfl : vw2020 = .slice A2018 ((y2_3 ++ t2012 : List Int).length) C2018 := he
      refine hS.next (v := .slice A2018 ((y2_3 ++ t2012 : List Int).length) C2018) (d := 3) rfl (by decide) (by rfl) ?_
      clear hS
      intro at2021 hS
      refine wpList_nil ?_
      refine hK2011 _ _ ?_
      (try clear hK2011 K2011)
      refine wp_seq_k (fun K2022 hK2022 => ?_)
      refine reg_seq_tail 5 (N := 81) (bs := [(3, .slice A2018 ((y2_3 ++ t2012 : List Int).length) C2018), (32, .slice A2018 ((y2_3 ++ t2012 : List Int).length) C2018), (1, .pointer (some ⟨gL2_1, 0, none⟩))]) (I := fun x => Below w.heap.size w x ∧ Below w2016.heap.size w2016 x ∧ Below w2020.heap.size w2020 x) (ps := [IsV (.slice A2018 ((y2_3 ++ t2012 : List Int).length) C2018), VP gL2_1 12, VI x2_1_12, IsV (.int .u8 (IntKind.u8.wrap x2_1_12)), IsR (Kd.int .u8) 5 w2020.heap.size [0, IntKind.u8.wrap x2_1_12]]) (by kernel_rfl) ?_ ?_ rfl hS ⟨hBw2020_w, hBw2020_w2016, hBw2020_w2020⟩ ?_ ?_
      · exact fun x y hI hb => ⟨below_step hI.1 hb, below_step hI.2.1 hb, below_step hI.2.2 hb⟩
      · exact .v (.v (.v (.v (.cons (Stays.r _ _ _ _) (.nil)))))
      · refine .ms 0 rfl rfl rfl ?_
        refine .on rfl (fun a w hS hI hp => does_val (x_fieldE (b := 0) rfl (hS.get 2 rfl) Try.underlying29 rfl rfl (by kernel_rfl)) rfl) ?_
        refine .on rfl (fun a w hS hI hp => does_val (x_load1 (d := .int .i64) rfl (hp.V 1 rfl rfl) (by kernel_rfl) rfl ((blk_cell (((hI.2.1).block gL2_1 (blk_lt hn2017)).trans hn2017) 12).trans rfl)) rfl) ?_
        refine .on rfl (fun a w hS hI hp => does_val (x_convI rfl (by kernel_rfl) (by kernel_rfl) (hp.V 2 rfl rfl)) rfl) ?_
        refine .on rfl (fun a w hS hI hp => does_lit w2020.heap.size 22 5 2 _ [(0, .int .u8 0), (1, .int .u8 (IntKind.u8.wrap x2_1_12))] [0, IntKind.u8.wrap x2_1_12] rfl (by kernel_rfl) (by rw [Array.toList_map]; exact (show [(0, a.eval (.const (.int .u8 0))), (1, a.eval (.tmp 36))] = _ from (li_cons (rfl) (li_cons (hp.V 3 rfl rfl) rfl)))) (by kernel_rfl) rfl (hI.2.2).size (Nat.le_of_ble_eq_true rfl)) ?_
        exact .nil
      clear hS
      intro at2023 w2024 hS hI hp
      have hBw2024_w := hI.1
      have hBw2024_w2016 := hI.2.1
      have hBw2024_w2020 := hI.2.2
      replace hS := ((hS.nil).cons (hS.get 2 rfl)).cons (hS.get 0 rfl)
      have hv33 : sl _ 33 = .slice A2018 ((y2_3 ++ t2012 : List Int).length) C2018 := hp 0 (by decide)
      obtain ⟨A2025, C2025, hv37, hl2025, hc2025⟩ := Kd.R_reads (show Kd.R (Kd.int .u8) 5 w2024 w2020.heap.size (fun _ => True) (sl _ 37) [0, IntKind.u8.wrap x2_1_12] from hp 4 (by decide))
      have ho2025 : Kd.R (Kd.int .u8) 5 w2024 w2020.heap.size (fun _ => True) (.slice A2025 [0, IntKind.u8.wrap x2_1_12].length C2025) [0, IntKind.u8.wrap x2_1_12] := hv37 ▸ (hp 4 (by decide))
      have hBw2024_w2024 := Below.refl w2024.heap.size w2024
      have hS := hS.cons hv33
      have hS := hS.cons hv37
      clear hp hI hv33 hv37
      show wpList _ _ _ [_, _] _ _
      refine list_step rfl (does_more (W := w) (.tmp 33) (.tmp 37) 22 5 1 rfl (by kernel_rfl) (by kernel_rfl) (by decide) _ (y2_3 ++ t2012 : List Int) [0, IntKind.u8.wrap x2_1_12] _ _ (hS.get 1 rfl) (hS.get 0 rfl) (Kd.R_below hr2018 hBw2024_w2016) (Kd.C_below hc2025 hBw2024_w2024) hBw2024_w c4) ?_
      rintro vw2026 w2026 ⟨hb, hr, hk⟩
      have hn2027 := hk gL2_1 _ _ ((hBw2024_w2016.block gL2_1 (blk_lt hn2017)).trans hn2017) (by decide)
      clear hk
      have hBw2026_w := hb
      replace hS := (hS.nil).cons (hS.get 3 rfl)
      have hBw2026_w2026 := Below.refl w2026.heap.size w2026
      obtain ⟨A2028, C2028, rfl, hl2028, hc2028⟩ := Kd.R_reads hr
      have hr2028 := hr
      clear hr
      refine hS.next (v := .slice A2028 (((y2_3 ++ t2012 : List Int) ++ [0, IntKind.u8.wrap x2_1_12] : List Int).length) C2028) (d := 38) rfl (by decide) (by rfl) ?_
      clear hS
      intro at2029 hS
      refine list_step rfl (R := fun v w' => Below _ _ w' ∧ (IsV (.slice A2028 (((y2_3 ++ t2012 : List Int) ++ [0, IntKind.u8.wrap x2_1_12] : List Int).length) C2028)) v w') (does_val (x_assign rfl (hS.get 0 rfl)) rfl) ?_
      rintro vw2030 w2030 ⟨hb, he⟩
      have hBw2030_w := below_step hBw2026_w hb
      have hBw2030_w2026 := below_step hBw2026_w2026 hb
      have hBw2030_w2030 := Below.refl w2030.heap.size w2030
      obtain rfl : vw2030 = .slice A2028 (((y2_3 ++ t2012 : List Int) ++ [0, IntKind.u8.wrap x2_1_12] : List Int).length) C2028 := he
      refine hS.next (v := .slice A2028 (((y2_3 ++ t2012 : List Int) ++ [0, IntKind.u8.wrap x2_1_12] : List Int).length) C2028) (d := 3) rfl (by decide) (by rfl) ?_
      clear hS
      intro at2031 hS
      refine wpList_nil ?_
      refine hK2022 _ _ ?_
      (try clear hK2022 K2022)
      refine wp_seq_k (fun K2032 hK2032 => ?_)
      refine reg_seq_tail 4 (N := 81) (bs := [(3, .slice A2028 (((y2_3 ++ t2012 : List Int) ++ [0, IntKind.u8.wrap x2_1_12] : List Int).length) C2028), (38, .slice A2028 (((y2_3 ++ t2012 : List Int) ++ [0, IntKind.u8.wrap x2_1_12] : List Int).length) C2028), (1, .pointer (some ⟨gL2_1, 0, none⟩))]) (I := fun x => Below w.heap.size w x ∧ Below w2026.heap.size w2026 x ∧ Below w2030.heap.size w2030 x) (ps := [IsV (.slice A2028 (((y2_3 ++ t2012 : List Int) ++ [0, IntKind.u8.wrap x2_1_12] : List Int).length) C2028), VP gL2_1 13, IsV (.agg #[.int .i64 x2_1_13, .int .i64 x2_1_14, .int .i64 x2_1_15]), IsR (Kd.int .u8) 5 w2030.heap.size t2033]) (by kernel_rfl) ?_ ?_ rfl hS ⟨hBw2030_w, hBw2030_w2026, hBw2030_w2030⟩ ?_ ?_
      · exact fun x y hI hb => ⟨below_step hI.1 hb, below_step hI.2.1 hb, below_step hI.2.2 hb⟩
      · exact .v (.v (.v (.cons (Stays.r _ _ _ _) (.nil))))
      · refine .ms 0 rfl rfl rfl ?_
        refine .on rfl (fun a w hS hI hp => does_val (x_fieldE (b := 0) rfl (hS.get 2 rfl) Try.underlying29 rfl rfl (by kernel_rfl)) rfl) ?_
        refine .on rfl (fun a w hS hI hp => does_loadmid (cs := [.int .i64 x2_1_13, .int .i64 x2_1_14, .int .i64 x2_1_15]) rfl (hp.V 1 rfl rfl) (((hI.2.1).block gL2_1 (blk_lt hn2027)).trans hn2027) rfl Try.underlying27 rfl (by kernel_rfl) rfl) ?_
        refine .on rfl (fun a w hS hI hp => does_call (by kernel_rfl) (ar1 (hp.V 2 rfl rfl)) ((carillonref05_Put.calls k x2_1_13 x2_1_14 x2_1_15 t2033 _  At2033).mono fun _ _ h => h.elim fun v0 h => ⟨v0, h.1, h.2.2, Kd.R_lower h.2.1 hI.2.2.size⟩)) ?_
        exact .nil
      clear hS
      intro at2034 w2035 hS hI hp
      have hBw2035_w := hI.1
      have hBw2035_w2026 := hI.2.1
      have hBw2035_w2030 := hI.2.2
      replace hS := ((hS.nil).cons (hS.get 2 rfl)).cons (hS.get 0 rfl)
      have hv39 : sl _ 39 = .slice A2028 (((y2_3 ++ t2012 : List Int) ++ [0, IntKind.u8.wrap x2_1_12] : List Int).length) C2028 := hp 0 (by decide)
      obtain ⟨A2036, C2036, hv42, hl2036, hc2036⟩ := Kd.R_reads (show Kd.R (Kd.int .u8) 5 w2035 w2030.heap.size (fun _ => True) (sl _ 42) t2033 from hp 3 (by decide))
      have ho2036 : Kd.R (Kd.int .u8) 5 w2035 w2030.heap.size (fun _ => True) (.slice A2036 t2033.length C2036) t2033 := hv42 ▸ (hp 3 (by decide))
      have hBw2035_w2035 := Below.refl w2035.heap.size w2035
      have hS := hS.cons hv39
      have hS := hS.cons hv42
      clear hp hI hv39 hv42
      show wpList _ _ _ [_, _] _ _
      refine list_step rfl (does_more (W := w) (.tmp 39) (.tmp 42) 22 5 1 rfl (by kernel_rfl) (by kernel_rfl) (by decide) _ ((y2_3 ++ t2012 : List Int) ++ [0, IntKind.u8.wrap x2_1_12] : List Int) t2033 _ _ (hS.get 1 rfl) (hS.get 0 rfl) (Kd.R_below hr2028 hBw2035_w2026) (Kd.C_below hc2036 hBw2035_w2035) hBw2035_w c5) ?_
      rintro vw2037 w2037 ⟨hb, hr, hk⟩
      have hn2038 := hk gL2_1 _ _ ((hBw2035_w2026.block gL2_1 (blk_lt hn2027)).trans hn2027) (by decide)
      clear hk
      have hBw2037_w := hb
      replace hS := (hS.nil).cons (hS.get 3 rfl)
      have hBw2037_w2037 := Below.refl w2037.heap.size w2037
      obtain ⟨A2039, C2039, rfl, hl2039, hc2039⟩ := Kd.R_reads hr
      have hr2039 := hr
      clear hr
      refine hS.next (v := .slice A2039 ((((y2_3 ++ t2012 : List Int) ++ [0, IntKind.u8.wrap x2_1_12] : List Int) ++ t2033 : List Int).length) C2039) (d := 43) rfl (by decide) (by rfl) ?_
      clear hS
      intro at2040 hS
      refine list_step rfl (R := fun v w' => Below _ _ w' ∧ (IsV (.slice A2039 ((((y2_3 ++ t2012 : List Int) ++ [0, IntKind.u8.wrap x2_1_12] : List Int) ++ t2033 : List Int).length) C2039)) v w') (does_val (x_assign rfl (hS.get 0 rfl)) rfl) ?_
      rintro vw2041 w2041 ⟨hb, he⟩
      have hBw2041_w := below_step hBw2037_w hb
      have hBw2041_w2037 := below_step hBw2037_w2037 hb
      have hBw2041_w2041 := Below.refl w2041.heap.size w2041
      obtain rfl : vw2041 = .slice A2039 ((((y2_3 ++ t2012 : List Int) ++ [0, IntKind.u8.wrap x2_1_12] : List Int) ++ t2033 : List Int).length) C2039 := he
      refine hS.next (v := .slice A2039 ((((y2_3 ++ t2012 : List Int) ++ [0, IntKind.u8.wrap x2_1_12] : List Int) ++ t2033 : List Int).length) C2039) (d := 3) rfl (by decide) (by rfl) ?_
      clear hS
      intro at2042 hS
      refine wpList_nil ?_
      refine hK2032 _ _ ?_
      (try clear hK2032 K2032)
      refine wp_seq_k (fun K2043 hK2043 => ?_)
      refine reg_seq_tail 5 (N := 81) (bs := [(3, .slice A2039 ((((y2_3 ++ t2012 : List Int) ++ [0, IntKind.u8.wrap x2_1_12] : List Int) ++ t2033 : List Int).length) C2039), (43, .slice A2039 ((((y2_3 ++ t2012 : List Int) ++ [0, IntKind.u8.wrap x2_1_12] : List Int) ++ t2033 : List Int).length) C2039), (1, .pointer (some ⟨gL2_1, 0, none⟩))]) (I := fun x => Below w.heap.size w x ∧ Below w2037.heap.size w2037 x ∧ Below w2041.heap.size w2041 x) (ps := [IsV (.slice A2039 ((((y2_3 ++ t2012 : List Int) ++ [0, IntKind.u8.wrap x2_1_12] : List Int) ++ t2033 : List Int).length) C2039), VP gL2_1 16, VI x2_1_16, IsV (.int .u8 (IntKind.u8.wrap x2_1_16)), IsR (Kd.int .u8) 5 w2041.heap.size [IntKind.u8.wrap x2_1_16]]) (by kernel_rfl) ?_ ?_ rfl hS ⟨hBw2041_w, hBw2041_w2037, hBw2041_w2041⟩ ?_ ?_
      · exact fun x y hI hb => ⟨below_step hI.1 hb, below_step hI.2.1 hb, below_step hI.2.2 hb⟩
      · exact .v (.v (.v (.v (.cons (Stays.r _ _ _ _) (.nil)))))
      · refine .ms 0 rfl rfl rfl ?_
        refine .on rfl (fun a w hS hI hp => does_val (x_fieldE (b := 0) rfl (hS.get 2 rfl) Try.underlying29 rfl rfl (by kernel_rfl)) rfl) ?_
        refine .on rfl (fun a w hS hI hp => does_val (x_load1 (d := .int .i64) rfl (hp.V 1 rfl rfl) (by kernel_rfl) rfl ((blk_cell (((hI.2.1).block gL2_1 (blk_lt hn2038)).trans hn2038) 16).trans rfl)) rfl) ?_
        refine .on rfl (fun a w hS hI hp => does_val (x_convI rfl (by kernel_rfl) (by kernel_rfl) (hp.V 2 rfl rfl)) rfl) ?_
        refine .on rfl (fun a w hS hI hp => does_lit w2041.heap.size 22 5 1 _ [(0, .int .u8 (IntKind.u8.wrap x2_1_16))] [IntKind.u8.wrap x2_1_16] rfl (by kernel_rfl) (by rw [Array.toList_map]; exact (show [(0, a.eval (.tmp 47))] = _ from (li_cons (hp.V 3 rfl rfl) rfl))) (by kernel_rfl) rfl (hI.2.2).size (Nat.le_of_ble_eq_true rfl)) ?_
        exact .nil
      clear hS
      intro at2044 w2045 hS hI hp
      have hBw2045_w := hI.1
      have hBw2045_w2037 := hI.2.1
      have hBw2045_w2041 := hI.2.2
      replace hS := ((hS.nil).cons (hS.get 2 rfl)).cons (hS.get 0 rfl)
      have hv44 : sl _ 44 = .slice A2039 ((((y2_3 ++ t2012 : List Int) ++ [0, IntKind.u8.wrap x2_1_12] : List Int) ++ t2033 : List Int).length) C2039 := hp 0 (by decide)
      obtain ⟨A2046, C2046, hv48, hl2046, hc2046⟩ := Kd.R_reads (show Kd.R (Kd.int .u8) 5 w2045 w2041.heap.size (fun _ => True) (sl _ 48) [IntKind.u8.wrap x2_1_16] from hp 4 (by decide))
      have ho2046 : Kd.R (Kd.int .u8) 5 w2045 w2041.heap.size (fun _ => True) (.slice A2046 [IntKind.u8.wrap x2_1_16].length C2046) [IntKind.u8.wrap x2_1_16] := hv48 ▸ (hp 4 (by decide))
      have hBw2045_w2045 := Below.refl w2045.heap.size w2045
      have hS := hS.cons hv44
      have hS := hS.cons hv48
      clear hp hI hv44 hv48
      show wpList _ _ _ [_, _] _ _
      refine list_step rfl (does_more (W := w) (.tmp 44) (.tmp 48) 22 5 1 rfl (by kernel_rfl) (by kernel_rfl) (by decide) _ (((y2_3 ++ t2012 : List Int) ++ [0, IntKind.u8.wrap x2_1_12] : List Int) ++ t2033 : List Int) [IntKind.u8.wrap x2_1_16] _ _ (hS.get 1 rfl) (hS.get 0 rfl) (Kd.R_below hr2039 hBw2045_w2037) (Kd.C_below hc2046 hBw2045_w2045) hBw2045_w c6) ?_
      rintro vw2047 w2047 ⟨hb, hr, hk⟩
      have hn2048 := hk gL2_1 _ _ ((hBw2045_w2037.block gL2_1 (blk_lt hn2038)).trans hn2038) (by decide)
      clear hk
      have hBw2047_w := hb
      replace hS := (hS.nil).cons (hS.get 3 rfl)
      have hBw2047_w2047 := Below.refl w2047.heap.size w2047
      obtain ⟨A2049, C2049, rfl, hl2049, hc2049⟩ := Kd.R_reads hr
      have hr2049 := hr
      clear hr
      refine hS.next (v := .slice A2049 (((((y2_3 ++ t2012 : List Int) ++ [0, IntKind.u8.wrap x2_1_12] : List Int) ++ t2033 : List Int) ++ [IntKind.u8.wrap x2_1_16] : List Int).length) C2049) (d := 49) rfl (by decide) (by rfl) ?_
      clear hS
      intro at2050 hS
      refine list_step rfl (R := fun v w' => Below _ _ w' ∧ (IsV (.slice A2049 (((((y2_3 ++ t2012 : List Int) ++ [0, IntKind.u8.wrap x2_1_12] : List Int) ++ t2033 : List Int) ++ [IntKind.u8.wrap x2_1_16] : List Int).length) C2049)) v w') (does_val (x_assign rfl (hS.get 0 rfl)) rfl) ?_
      rintro vw2051 w2051 ⟨hb, he⟩
      have hBw2051_w := below_step hBw2047_w hb
      have hBw2051_w2047 := below_step hBw2047_w2047 hb
      have hBw2051_w2051 := Below.refl w2051.heap.size w2051
      obtain rfl : vw2051 = .slice A2049 (((((y2_3 ++ t2012 : List Int) ++ [0, IntKind.u8.wrap x2_1_12] : List Int) ++ t2033 : List Int) ++ [IntKind.u8.wrap x2_1_16] : List Int).length) C2049 := he
      refine hS.next (v := .slice A2049 (((((y2_3 ++ t2012 : List Int) ++ [0, IntKind.u8.wrap x2_1_12] : List Int) ++ t2033 : List Int) ++ [IntKind.u8.wrap x2_1_16] : List Int).length) C2049) (d := 3) rfl (by decide) (by rfl) ?_
      clear hS
      intro at2052 hS
      refine wpList_nil ?_
      refine hK2043 _ _ ?_
      (try clear hK2043 K2043)
      refine wp_seq_k (fun K2053 hK2053 => ?_)
      refine reg_seq_tail 4 (N := 81) (bs := [(3, .slice A2049 (((((y2_3 ++ t2012 : List Int) ++ [0, IntKind.u8.wrap x2_1_12] : List Int) ++ t2033 : List Int) ++ [IntKind.u8.wrap x2_1_16] : List Int).length) C2049), (49, .slice A2049 (((((y2_3 ++ t2012 : List Int) ++ [0, IntKind.u8.wrap x2_1_12] : List Int) ++ t2033 : List Int) ++ [IntKind.u8.wrap x2_1_16] : List Int).length) C2049), (1, .pointer (some ⟨gL2_1, 0, none⟩))]) (I := fun x => Below w.heap.size w x ∧ Below w2047.heap.size w2047 x ∧ Below w2051.heap.size w2051 x) (ps := [IsV (.slice A2049 (((((y2_3 ++ t2012 : List Int) ++ [0, IntKind.u8.wrap x2_1_12] : List Int) ++ t2033 : List Int) ++ [IntKind.u8.wrap x2_1_16] : List Int).length) C2049), VP gL2_1 17, IsV (.int .u64 x2_1_17), IsR (Kd.int .u8) 5 w2051.heap.size t2054]) (by kernel_rfl) ?_ ?_ rfl hS ⟨hBw2051_w, hBw2051_w2047, hBw2051_w2051⟩ ?_ ?_
      · exact fun x y hI hb => ⟨below_step hI.1 hb, below_step hI.2.1 hb, below_step hI.2.2 hb⟩
      · exact .v (.v (.v (.cons (Stays.r _ _ _ _) (.nil))))
      · refine .ms 0 rfl rfl rfl ?_
        refine .on rfl (fun a w hS hI hp => does_val (x_fieldE (b := 0) rfl (hS.get 2 rfl) Try.underlying29 rfl rfl (by kernel_rfl)) rfl) ?_
        refine .on rfl (fun a w hS hI hp => does_val (x_load1 (d := .int .u64) rfl (hp.V 1 rfl rfl) (by kernel_rfl) rfl ((blk_cell (((hI.2.1).block gL2_1 (blk_lt hn2048)).trans hn2048) 17).trans rfl)) rfl) ?_
        refine .on rfl (fun a w hS hI hp => does_call (by kernel_rfl) (ar1 (hp.V 2 rfl rfl)) ((carillonref01_PutId.calls k x2_1_17 t2054 _  At2054).mono fun _ _ h => h.elim fun v0 h => ⟨v0, h.1, h.2.2, Kd.R_lower h.2.1 hI.2.2.size⟩)) ?_
        exact .nil
      clear hS
      intro at2055 w2056 hS hI hp
      have hBw2056_w := hI.1
      have hBw2056_w2047 := hI.2.1
      have hBw2056_w2051 := hI.2.2
      replace hS := ((hS.nil).cons (hS.get 2 rfl)).cons (hS.get 0 rfl)
      have hv50 : sl _ 50 = .slice A2049 (((((y2_3 ++ t2012 : List Int) ++ [0, IntKind.u8.wrap x2_1_12] : List Int) ++ t2033 : List Int) ++ [IntKind.u8.wrap x2_1_16] : List Int).length) C2049 := hp 0 (by decide)
      obtain ⟨A2057, C2057, hv53, hl2057, hc2057⟩ := Kd.R_reads (show Kd.R (Kd.int .u8) 5 w2056 w2051.heap.size (fun _ => True) (sl _ 53) t2054 from hp 3 (by decide))
      have ho2057 : Kd.R (Kd.int .u8) 5 w2056 w2051.heap.size (fun _ => True) (.slice A2057 t2054.length C2057) t2054 := hv53 ▸ (hp 3 (by decide))
      have hBw2056_w2056 := Below.refl w2056.heap.size w2056
      have hS := hS.cons hv50
      have hS := hS.cons hv53
      clear hp hI hv50 hv53
      show wpList _ _ _ [_, _] _ _
      refine list_step rfl (does_more (W := w) (.tmp 50) (.tmp 53) 22 5 1 rfl (by kernel_rfl) (by kernel_rfl) (by decide) _ ((((y2_3 ++ t2012 : List Int) ++ [0, IntKind.u8.wrap x2_1_12] : List Int) ++ t2033 : List Int) ++ [IntKind.u8.wrap x2_1_16] : List Int) t2054 _ _ (hS.get 1 rfl) (hS.get 0 rfl) (Kd.R_below hr2049 hBw2056_w2047) (Kd.C_below hc2057 hBw2056_w2056) hBw2056_w c7) ?_
      rintro vw2058 w2058 ⟨hb, hr, hk⟩
      have hn2059 := hk gL2_1 _ _ ((hBw2056_w2047.block gL2_1 (blk_lt hn2048)).trans hn2048) (by decide)
      clear hk
      have hBw2058_w := hb
      replace hS := (hS.nil).cons (hS.get 3 rfl)
      have hBw2058_w2058 := Below.refl w2058.heap.size w2058
      obtain ⟨A2060, C2060, rfl, hl2060, hc2060⟩ := Kd.R_reads hr
      have hr2060 := hr
      clear hr
      refine hS.next (v := .slice A2060 ((((((y2_3 ++ t2012 : List Int) ++ [0, IntKind.u8.wrap x2_1_12] : List Int) ++ t2033 : List Int) ++ [IntKind.u8.wrap x2_1_16] : List Int) ++ t2054 : List Int).length) C2060) (d := 54) rfl (by decide) (by rfl) ?_
      clear hS
      intro at2061 hS
      refine list_step rfl (R := fun v w' => Below _ _ w' ∧ (IsV (.slice A2060 ((((((y2_3 ++ t2012 : List Int) ++ [0, IntKind.u8.wrap x2_1_12] : List Int) ++ t2033 : List Int) ++ [IntKind.u8.wrap x2_1_16] : List Int) ++ t2054 : List Int).length) C2060)) v w') (does_val (x_assign rfl (hS.get 0 rfl)) rfl) ?_
      rintro vw2062 w2062 ⟨hb, he⟩
      have hBw2062_w := below_step hBw2058_w hb
      have hBw2062_w2058 := below_step hBw2058_w2058 hb
      have hBw2062_w2062 := Below.refl w2062.heap.size w2062
      obtain rfl : vw2062 = .slice A2060 ((((((y2_3 ++ t2012 : List Int) ++ [0, IntKind.u8.wrap x2_1_12] : List Int) ++ t2033 : List Int) ++ [IntKind.u8.wrap x2_1_16] : List Int) ++ t2054 : List Int).length) C2060 := he
      refine hS.next (v := .slice A2060 ((((((y2_3 ++ t2012 : List Int) ++ [0, IntKind.u8.wrap x2_1_12] : List Int) ++ t2033 : List Int) ++ [IntKind.u8.wrap x2_1_16] : List Int) ++ t2054 : List Int).length) C2060) (d := 3) rfl (by decide) (by rfl) ?_
      clear hS
      intro at2063 hS
      refine wpList_nil ?_
      refine hK2053 _ _ ?_
      (try clear hK2053 K2053)
      refine wp_seq_k (fun K2064 hK2064 => ?_)
      refine reg_seq_tail 4 (N := 81) (bs := [(3, .slice A2060 ((((((y2_3 ++ t2012 : List Int) ++ [0, IntKind.u8.wrap x2_1_12] : List Int) ++ t2033 : List Int) ++ [IntKind.u8.wrap x2_1_16] : List Int) ++ t2054 : List Int).length) C2060), (54, .slice A2060 ((((((y2_3 ++ t2012 : List Int) ++ [0, IntKind.u8.wrap x2_1_12] : List Int) ++ t2033 : List Int) ++ [IntKind.u8.wrap x2_1_16] : List Int) ++ t2054 : List Int).length) C2060), (1, .pointer (some ⟨gL2_1, 0, none⟩))]) (I := fun x => Below w.heap.size w x ∧ Below w2058.heap.size w2058 x ∧ Below w2062.heap.size w2062 x) (ps := [IsV (.slice A2060 ((((((y2_3 ++ t2012 : List Int) ++ [0, IntKind.u8.wrap x2_1_12] : List Int) ++ t2033 : List Int) ++ [IntKind.u8.wrap x2_1_16] : List Int) ++ t2054 : List Int).length) C2060), VP gL2_1 18, VI x2_1_18, IsR (Kd.int .u8) 5 w2062.heap.size t2065]) (by kernel_rfl) ?_ ?_ rfl hS ⟨hBw2062_w, hBw2062_w2058, hBw2062_w2062⟩ ?_ ?_
      · exact fun x y hI hb => ⟨below_step hI.1 hb, below_step hI.2.1 hb, below_step hI.2.2 hb⟩
      · exact .v (.v (.v (.cons (Stays.r _ _ _ _) (.nil))))
      · refine .ms 0 rfl rfl rfl ?_
        refine .on rfl (fun a w hS hI hp => does_val (x_fieldE (b := 0) rfl (hS.get 2 rfl) Try.underlying29 rfl rfl (by kernel_rfl)) rfl) ?_
        refine .on rfl (fun a w hS hI hp => does_val (x_load1 (d := .int .i64) rfl (hp.V 1 rfl rfl) (by kernel_rfl) rfl ((blk_cell (((hI.2.1).block gL2_1 (blk_lt hn2059)).trans hn2059) 18).trans rfl)) rfl) ?_
        refine .on rfl (fun a w hS hI hp => does_call (by kernel_rfl) (ar2 (hp.V 2 rfl rfl) (rfl)) ((carillonref01_Put.calls k x2_1_18 2 t2065 _  At2065).mono fun _ _ h => h.elim fun v0 h => ⟨v0, h.1, h.2.2, Kd.R_lower h.2.1 hI.2.2.size⟩)) ?_
        exact .nil
      clear hS
      intro at2066 w2067 hS hI hp
      have hBw2067_w := hI.1
      have hBw2067_w2058 := hI.2.1
      have hBw2067_w2062 := hI.2.2
      replace hS := ((hS.nil).cons (hS.get 2 rfl)).cons (hS.get 0 rfl)
      have hv55 : sl _ 55 = .slice A2060 ((((((y2_3 ++ t2012 : List Int) ++ [0, IntKind.u8.wrap x2_1_12] : List Int) ++ t2033 : List Int) ++ [IntKind.u8.wrap x2_1_16] : List Int) ++ t2054 : List Int).length) C2060 := hp 0 (by decide)
      obtain ⟨A2068, C2068, hv58, hl2068, hc2068⟩ := Kd.R_reads (show Kd.R (Kd.int .u8) 5 w2067 w2062.heap.size (fun _ => True) (sl _ 58) t2065 from hp 3 (by decide))
      have ho2068 : Kd.R (Kd.int .u8) 5 w2067 w2062.heap.size (fun _ => True) (.slice A2068 t2065.length C2068) t2065 := hv58 ▸ (hp 3 (by decide))
      have hBw2067_w2067 := Below.refl w2067.heap.size w2067
      have hS := hS.cons hv55
      have hS := hS.cons hv58
      clear hp hI hv55 hv58
      show wpList _ _ _ [_, _] _ _
      refine list_step rfl (does_more (W := w) (.tmp 55) (.tmp 58) 22 5 1 rfl (by kernel_rfl) (by kernel_rfl) (by decide) _ (((((y2_3 ++ t2012 : List Int) ++ [0, IntKind.u8.wrap x2_1_12] : List Int) ++ t2033 : List Int) ++ [IntKind.u8.wrap x2_1_16] : List Int) ++ t2054 : List Int) t2065 _ _ (hS.get 1 rfl) (hS.get 0 rfl) (Kd.R_below hr2060 hBw2067_w2058) (Kd.C_below hc2068 hBw2067_w2067) hBw2067_w c8) ?_
      rintro vw2069 w2069 ⟨hb, hr, hk⟩
      have hn2070 := hk gL2_1 _ _ ((hBw2067_w2058.block gL2_1 (blk_lt hn2059)).trans hn2059) (by decide)
      clear hk
      have hBw2069_w := hb
      replace hS := (hS.nil).cons (hS.get 3 rfl)
      have hBw2069_w2069 := Below.refl w2069.heap.size w2069
      obtain ⟨A2071, C2071, rfl, hl2071, hc2071⟩ := Kd.R_reads hr
      have hr2071 := hr
      clear hr
      refine hS.next (v := .slice A2071 (((((((y2_3 ++ t2012 : List Int) ++ [0, IntKind.u8.wrap x2_1_12] : List Int) ++ t2033 : List Int) ++ [IntKind.u8.wrap x2_1_16] : List Int) ++ t2054 : List Int) ++ t2065 : List Int).length) C2071) (d := 59) rfl (by decide) (by rfl) ?_
      clear hS
      intro at2072 hS
      refine list_step rfl (R := fun v w' => Below _ _ w' ∧ (IsV (.slice A2071 (((((((y2_3 ++ t2012 : List Int) ++ [0, IntKind.u8.wrap x2_1_12] : List Int) ++ t2033 : List Int) ++ [IntKind.u8.wrap x2_1_16] : List Int) ++ t2054 : List Int) ++ t2065 : List Int).length) C2071)) v w') (does_val (x_assign rfl (hS.get 0 rfl)) rfl) ?_
      rintro vw2073 w2073 ⟨hb, he⟩
      have hBw2073_w := below_step hBw2069_w hb
      have hBw2073_w2069 := below_step hBw2069_w2069 hb
      have hBw2073_w2073 := Below.refl w2073.heap.size w2073
      obtain rfl : vw2073 = .slice A2071 (((((((y2_3 ++ t2012 : List Int) ++ [0, IntKind.u8.wrap x2_1_12] : List Int) ++ t2033 : List Int) ++ [IntKind.u8.wrap x2_1_16] : List Int) ++ t2054 : List Int) ++ t2065 : List Int).length) C2071 := he
      refine hS.next (v := .slice A2071 (((((((y2_3 ++ t2012 : List Int) ++ [0, IntKind.u8.wrap x2_1_12] : List Int) ++ t2033 : List Int) ++ [IntKind.u8.wrap x2_1_16] : List Int) ++ t2054 : List Int) ++ t2065 : List Int).length) C2071) (d := 3) rfl (by decide) (by rfl) ?_
      clear hS
      intro at2074 hS
      refine wpList_nil ?_
      refine hK2064 _ _ ?_
      (try clear hK2064 K2064)
      refine reg_seq_tail 5 (N := 81) (bs := [(3, .slice A2071 (((((((y2_3 ++ t2012 : List Int) ++ [0, IntKind.u8.wrap x2_1_12] : List Int) ++ t2033 : List Int) ++ [IntKind.u8.wrap x2_1_16] : List Int) ++ t2054 : List Int) ++ t2065 : List Int).length) C2071), (59, .slice A2071 (((((((y2_3 ++ t2012 : List Int) ++ [0, IntKind.u8.wrap x2_1_12] : List Int) ++ t2033 : List Int) ++ [IntKind.u8.wrap x2_1_16] : List Int) ++ t2054 : List Int) ++ t2065 : List Int).length) C2071), (1, .pointer (some ⟨gL2_1, 0, none⟩))]) (I := fun x => Below w.heap.size w x ∧ Below w2069.heap.size w2069 x ∧ Below w2073.heap.size w2073 x) (ps := [IsV (.slice A2071 (((((((y2_3 ++ t2012 : List Int) ++ [0, IntKind.u8.wrap x2_1_12] : List Int) ++ t2033 : List Int) ++ [IntKind.u8.wrap x2_1_16] : List Int) ++ t2054 : List Int) ++ t2065 : List Int).length) C2071), VP gL2_1 19, VI x2_1_19, IsV (.int .u8 (IntKind.u8.wrap x2_1_19)), IsR (Kd.int .u8) 5 w2073.heap.size [IntKind.u8.wrap x2_1_19]]) (by kernel_rfl) ?_ ?_ rfl hS ⟨hBw2073_w, hBw2073_w2069, hBw2073_w2073⟩ ?_ ?_
      · exact fun x y hI hb => ⟨below_step hI.1 hb, below_step hI.2.1 hb, below_step hI.2.2 hb⟩
      · exact .v (.v (.v (.v (.cons (Stays.r _ _ _ _) (.nil)))))
      · refine .ms 0 rfl rfl rfl ?_
        refine .on rfl (fun a w hS hI hp => does_val (x_fieldE (b := 0) rfl (hS.get 2 rfl) Try.underlying29 rfl rfl (by kernel_rfl)) rfl) ?_
        refine .on rfl (fun a w hS hI hp => does_val (x_load1 (d := .int .i64) rfl (hp.V 1 rfl rfl) (by kernel_rfl) rfl ((blk_cell (((hI.2.1).block gL2_1 (blk_lt hn2070)).trans hn2070) 19).trans rfl)) rfl) ?_
        refine .on rfl (fun a w hS hI hp => does_val (x_convI rfl (by kernel_rfl) (by kernel_rfl) (hp.V 2 rfl rfl)) rfl) ?_
        refine .on rfl (fun a w hS hI hp => does_lit w2073.heap.size 22 5 1 _ [(0, .int .u8 (IntKind.u8.wrap x2_1_19))] [IntKind.u8.wrap x2_1_19] rfl (by kernel_rfl) (by rw [Array.toList_map]; exact (show [(0, a.eval (.tmp 63))] = _ from (li_cons (hp.V 3 rfl rfl) rfl))) (by kernel_rfl) rfl (hI.2.2).size (Nat.le_of_ble_eq_true rfl)) ?_
        exact .nil
      clear hS
      intro at2075 w2076 hS hI hp
      have hBw2076_w := hI.1
      have hBw2076_w2069 := hI.2.1
      have hBw2076_w2073 := hI.2.2
      replace hS := (hS.nil).cons (hS.get 0 rfl)
      have hv60 : sl _ 60 = .slice A2071 (((((((y2_3 ++ t2012 : List Int) ++ [0, IntKind.u8.wrap x2_1_12] : List Int) ++ t2033 : List Int) ++ [IntKind.u8.wrap x2_1_16] : List Int) ++ t2054 : List Int) ++ t2065 : List Int).length) C2071 := hp 0 (by decide)
      obtain ⟨A2077, C2077, hv64, hl2077, hc2077⟩ := Kd.R_reads (show Kd.R (Kd.int .u8) 5 w2076 w2073.heap.size (fun _ => True) (sl _ 64) [IntKind.u8.wrap x2_1_19] from hp 4 (by decide))
      have ho2077 : Kd.R (Kd.int .u8) 5 w2076 w2073.heap.size (fun _ => True) (.slice A2077 [IntKind.u8.wrap x2_1_19].length C2077) [IntKind.u8.wrap x2_1_19] := hv64 ▸ (hp 4 (by decide))
      have hBw2076_w2076 := Below.refl w2076.heap.size w2076
      have hS := hS.cons hv60
      have hS := hS.cons hv64
      clear hp hI hv60 hv64
      show wpList _ _ _ [_, _] _ _
      refine list_step rfl (does_more (W := w) (.tmp 60) (.tmp 64) 22 5 1 rfl (by kernel_rfl) (by kernel_rfl) (by decide) _ ((((((y2_3 ++ t2012 : List Int) ++ [0, IntKind.u8.wrap x2_1_12] : List Int) ++ t2033 : List Int) ++ [IntKind.u8.wrap x2_1_16] : List Int) ++ t2054 : List Int) ++ t2065 : List Int) [IntKind.u8.wrap x2_1_19] _ _ (hS.get 1 rfl) (hS.get 0 rfl) (Kd.R_below hr2071 hBw2076_w2069) (Kd.C_below hc2077 hBw2076_w2076) hBw2076_w c9) ?_
      rintro vw2078 w2078 ⟨hb, hr, hk⟩
      have hn2079 := hk gL2_1 _ _ ((hBw2076_w2069.block gL2_1 (blk_lt hn2070)).trans hn2070) (by decide)
      clear hk
      have hBw2078_w := hb
      replace hS := hS.nil
      have hBw2078_w2078 := Below.refl w2078.heap.size w2078
      obtain ⟨A2080, C2080, rfl, hl2080, hc2080⟩ := Kd.R_reads hr
      have hr2080 := hr
      clear hr
      refine hS.next (v := .slice A2080 ((((((((y2_3 ++ t2012 : List Int) ++ [0, IntKind.u8.wrap x2_1_12] : List Int) ++ t2033 : List Int) ++ [IntKind.u8.wrap x2_1_16] : List Int) ++ t2054 : List Int) ++ t2065 : List Int) ++ [IntKind.u8.wrap x2_1_19] : List Int).length) C2080) (d := 65) rfl (by decide) (by rfl) ?_
      clear hS
      intro at2081 hS
      refine list_step rfl (R := fun v w' => Below _ _ w' ∧ (IsV (.slice A2080 ((((((((y2_3 ++ t2012 : List Int) ++ [0, IntKind.u8.wrap x2_1_12] : List Int) ++ t2033 : List Int) ++ [IntKind.u8.wrap x2_1_16] : List Int) ++ t2054 : List Int) ++ t2065 : List Int) ++ [IntKind.u8.wrap x2_1_19] : List Int).length) C2080)) v w') (does_val (x_assign rfl (hS.get 0 rfl)) rfl) ?_
      rintro vw2082 w2082 ⟨hb, he⟩
      have hBw2082_w := below_step hBw2078_w hb
      have hBw2082_w2078 := below_step hBw2078_w2078 hb
      have hBw2082_w2082 := Below.refl w2082.heap.size w2082
      obtain rfl : vw2082 = .slice A2080 ((((((((y2_3 ++ t2012 : List Int) ++ [0, IntKind.u8.wrap x2_1_12] : List Int) ++ t2033 : List Int) ++ [IntKind.u8.wrap x2_1_16] : List Int) ++ t2054 : List Int) ++ t2065 : List Int) ++ [IntKind.u8.wrap x2_1_19] : List Int).length) C2080 := he
      refine hS.next (v := .slice A2080 ((((((((y2_3 ++ t2012 : List Int) ++ [0, IntKind.u8.wrap x2_1_12] : List Int) ++ t2033 : List Int) ++ [IntKind.u8.wrap x2_1_16] : List Int) ++ t2054 : List Int) ++ t2065 : List Int) ++ [IntKind.u8.wrap x2_1_19] : List Int).length) C2080) (d := 3) rfl (by decide) (by rfl) ?_
      clear hS
      intro at2083 hS
      refine wpList_nil ?_
      replace hS := (hS.nil).cons (hS.get 0 rfl)
      (try simp only [Exit.then, Exit.inBlock])
      exact J3 _ _ (((((((y2_3 ++ t2012 : List Int) ++ [0, IntKind.u8.wrap x2_1_12] : List Int) ++ t2033 : List Int) ++ [IntKind.u8.wrap x2_1_16] : List Int) ++ t2054 : List Int) ++ t2065 : List Int) ++ [IntKind.u8.wrap x2_1_19] : List Int) A2080 C2080 H hS hBw2082_w hl2080 (Kd.R_lower (Kd.R_below hr2080 hBw2082_w2078) (Nat.le_refl _))
    obtain ⟨t1003, At1003, H⟩ := Option.bind_eq_some_iff.mp H
    by_cases c1 : t1003 = true
    rotate_left
    · rw [if_neg c1] at H
      refine wp_seq_k (fun K1002 hK1002 => ?_)
      refine reg_seq (N := 81) (bs := [(1, .pointer (some ⟨gL1_1, 0, none⟩)), (3, .slice AL1_3 y1_3.length CL1_3)]) (I := fun x => Below w.heap.size w x ∧ Below wL1.heap.size wL1 x) (ps := [VP gL1_1 0, VI x1_1_0, VB t1003]) (by kernel_rfl) ?_ ?_ rfl hS ⟨hBwL1_w, hBwL1_wL1⟩ ?_ ?_
      · exact fun x y hI hb => ⟨below_step hI.1 hb, below_step hI.2 hb⟩
      · exact .v (.v (.v (.nil)))
      · refine .on rfl (fun a w hS hI hp => does_val (x_fieldE (b := 0) rfl (hS.get 0 rfl) Try.underlying29 rfl rfl (by kernel_rfl)) rfl) ?_
        refine .on rfl (fun a w hS hI hp => does_val (x_load1 (d := .int .i64) rfl (hp.V 0 rfl rfl) (by kernel_rfl) rfl ((blk_cell (((hI.2).block gL1_1 (blk_lt hbxLgL1_1)).trans hbxLgL1_1) 0).trans rfl)) rfl) ?_
        refine .on rfl (fun a w hS hI hp => does_call (by kernel_rfl) (ar1 (hp.V 1 rfl rfl)) ((carillonref07_targeted.calls x1_1_0 t1003 _  At1003).mono fun _ _ h => ⟨_, h.1, h.2.below, rfl⟩)) ?_
        exact .nil
      clear hS
      intro at1004 w1005 hS hI hp
      have hBw1005_w := hI.1
      have hBw1005_wL1 := hI.2
      have hv14 : sl _ 14 = .bool t1003 := hp 2 (by decide)
      have hBw1005_w1005 := Below.refl w1005.heap.size w1005
      have hS := hS.cons hv14
      clear hp hI hv14
      refine hK1002 _ _ ?_
      (try clear hK1002 K1002)
      refine wp_cond_false ((hS.get 0 rfl).trans (bF (Bool.eq_false_iff.2 c1))) ?_
      refine wp_skip ?_
      replace hS := ((hS.nil).cons (hS.get 2 rfl)).cons (hS.get 1 rfl)
      (try simp only [Exit.then, Exit.inBlock])
      exact J2 _ _ x1_1_0 x1_1_1 x1_1_2 x1_1_3 x1_1_4 x1_1_5 x1_1_6 x1_1_7 x1_1_8 x1_1_9 x1_1_10 x1_1_11 x1_1_12 x1_1_13 x1_1_14 x1_1_15 x1_1_16 x1_1_17 x1_1_18 x1_1_19 x1_1_20 x1_1_21 x1_1_22 gL1_1 y1_3 AL1_3 CL1_3 H hS hBw1005_w hgeLgL1_1 ((hBw1005_wL1.block gL1_1 (blk_lt hbxLgL1_1)).trans hbxLgL1_1) hr1_3 (Kd.R_lower (Kd.R_below hoL1_3 hBw1005_wL1) (Nat.le_refl _))
    rw [if_pos c1] at H
    obtain ⟨t1006, At1006, H⟩ := Option.bind_eq_some_iff.mp H
    by_cases c2 : (y1_3.length + t1006.length) * 1 ≤ 140737488355328
    rotate_left
    · rw [if_neg c2] at H
      exact absurd H (by simp)
    rw [if_pos c2] at H
    refine wp_seq_k (fun K1002 hK1002 => ?_)
    refine reg_seq (N := 81) (bs := [(1, .pointer (some ⟨gL1_1, 0, none⟩)), (3, .slice AL1_3 y1_3.length CL1_3)]) (I := fun x => Below w.heap.size w x ∧ Below wL1.heap.size wL1 x) (ps := [VP gL1_1 0, VI x1_1_0, VB t1003]) (by kernel_rfl) ?_ ?_ rfl hS ⟨hBwL1_w, hBwL1_wL1⟩ ?_ ?_
    · exact fun x y hI hb => ⟨below_step hI.1 hb, below_step hI.2 hb⟩
    · exact .v (.v (.v (.nil)))
    · refine .on rfl (fun a w hS hI hp => does_val (x_fieldE (b := 0) rfl (hS.get 0 rfl) Try.underlying29 rfl rfl (by kernel_rfl)) rfl) ?_
      refine .on rfl (fun a w hS hI hp => does_val (x_load1 (d := .int .i64) rfl (hp.V 0 rfl rfl) (by kernel_rfl) rfl ((blk_cell (((hI.2).block gL1_1 (blk_lt hbxLgL1_1)).trans hbxLgL1_1) 0).trans rfl)) rfl) ?_
      refine .on rfl (fun a w hS hI hp => does_call (by kernel_rfl) (ar1 (hp.V 1 rfl rfl)) ((carillonref07_targeted.calls x1_1_0 t1003 _  At1003).mono fun _ _ h => ⟨_, h.1, h.2.below, rfl⟩)) ?_
      exact .nil
    clear hS
    intro at1004 w1005 hS hI hp
    have hBw1005_w := hI.1
    have hBw1005_wL1 := hI.2
    have hv14 : sl _ 14 = .bool t1003 := hp 2 (by decide)
    have hBw1005_w1005 := Below.refl w1005.heap.size w1005
    have hS := hS.cons hv14
    clear hp hI hv14
    refine hK1002 _ _ ?_
    (try clear hK1002 K1002)
    refine wp_cond_true ((hS.get 0 rfl).trans (bT c1)) ?_
    refine reg_seq_tail 4 (N := 81) (bs := [(14, .bool t1003), (1, .pointer (some ⟨gL1_1, 0, none⟩)), (3, .slice AL1_3 y1_3.length CL1_3)]) (I := fun x => Below w.heap.size w x ∧ Below wL1.heap.size wL1 x ∧ Below w1005.heap.size w1005 x) (ps := [IsV (.slice AL1_3 y1_3.length CL1_3), VP gL1_1 9, IsV (.agg #[.int .u64 x1_1_9, .int .i64 x1_1_10]), IsR (Kd.int .u8) 5 w1005.heap.size t1006]) (by kernel_rfl) ?_ ?_ rfl hS ⟨hBw1005_w, hBw1005_wL1, hBw1005_w1005⟩ ?_ ?_
    · exact fun x y hI hb => ⟨below_step hI.1 hb, below_step hI.2.1 hb, below_step hI.2.2 hb⟩
    · exact .v (.v (.v (.cons (Stays.r _ _ _ _) (.nil))))
    · refine .ms 2 rfl rfl rfl ?_
      refine .on rfl (fun a w hS hI hp => does_val (x_fieldE (b := 0) rfl (hS.get 1 rfl) Try.underlying29 rfl rfl (by kernel_rfl)) rfl) ?_
      refine .on rfl (fun a w hS hI hp => does_loadmid (cs := [.int .u64 x1_1_9, .int .i64 x1_1_10]) rfl (hp.V 1 rfl rfl) (((hI.2.1).block gL1_1 (blk_lt hbxLgL1_1)).trans hbxLgL1_1) rfl Try.underlying25 rfl (by kernel_rfl) rfl) ?_
      refine .on rfl (fun a w hS hI hp => does_call (by kernel_rfl) (ar1 (hp.V 2 rfl rfl)) ((carillonref04_Put.calls k x1_1_9 x1_1_10 t1006 _  At1006).mono fun _ _ h => h.elim fun v0 h => ⟨v0, h.1, h.2.2, Kd.R_lower h.2.1 hI.2.2.size⟩)) ?_
      exact .nil
    clear hS
    intro at1007 w1008 hS hI hp
    have hBw1008_w := hI.1
    have hBw1008_wL1 := hI.2.1
    have hBw1008_w1005 := hI.2.2
    replace hS := ((hS.nil).cons (hS.get 2 rfl)).cons (hS.get 1 rfl)
    have hv15 : sl _ 15 = .slice AL1_3 y1_3.length CL1_3 := hp 0 (by decide)
    obtain ⟨A1009, C1009, hv18, hl1009, hc1009⟩ := Kd.R_reads (show Kd.R (Kd.int .u8) 5 w1008 w1005.heap.size (fun _ => True) (sl _ 18) t1006 from hp 3 (by decide))
    have ho1009 : Kd.R (Kd.int .u8) 5 w1008 w1005.heap.size (fun _ => True) (.slice A1009 t1006.length C1009) t1006 := hv18 ▸ (hp 3 (by decide))
    have hBw1008_w1008 := Below.refl w1008.heap.size w1008
    have hS := hS.cons hv15
    have hS := hS.cons hv18
    clear hp hI hv15 hv18
    show wpList _ _ _ [_, _] _ _
    refine list_step rfl (does_more (W := w) (.tmp 15) (.tmp 18) 22 5 1 rfl (by kernel_rfl) (by kernel_rfl) (by decide) _ y1_3 t1006 _ _ (hS.get 1 rfl) (hS.get 0 rfl) (Kd.R_below hoL1_3 hBw1008_wL1) (Kd.C_below hc1009 hBw1008_w1008) hBw1008_w c2) ?_
    rintro vw1010 w1010 ⟨hb, hr, hk⟩
    have hn1011 := hk gL1_1 _ _ ((hBw1008_wL1.block gL1_1 (blk_lt hbxLgL1_1)).trans hbxLgL1_1) (by decide)
    clear hk
    have hBw1010_w := hb
    replace hS := (hS.nil).cons (hS.get 2 rfl)
    have hBw1010_w1010 := Below.refl w1010.heap.size w1010
    obtain ⟨A1012, C1012, rfl, hl1012, hc1012⟩ := Kd.R_reads hr
    have hr1012 := hr
    clear hr
    refine hS.next (v := .slice A1012 ((y1_3 ++ t1006 : List Int).length) C1012) (d := 19) rfl (by decide) (by rfl) ?_
    clear hS
    intro at1013 hS
    refine list_step rfl (R := fun v w' => Below _ _ w' ∧ (IsV (.slice A1012 ((y1_3 ++ t1006 : List Int).length) C1012)) v w') (does_val (x_assign rfl (hS.get 0 rfl)) rfl) ?_
    rintro vw1014 w1014 ⟨hb, he⟩
    have hBw1014_w := below_step hBw1010_w hb
    have hBw1014_w1010 := below_step hBw1010_w1010 hb
    have hBw1014_w1014 := Below.refl w1014.heap.size w1014
    obtain rfl : vw1014 = .slice A1012 ((y1_3 ++ t1006 : List Int).length) C1012 := he
    refine hS.next (v := .slice A1012 ((y1_3 ++ t1006 : List Int).length) C1012) (d := 3) rfl (by decide) (by rfl) ?_
    clear hS
    intro at1015 hS
    refine wpList_nil ?_
    replace hS := ((hS.nil).cons (hS.get 0 rfl)).cons (hS.get 2 rfl)
    (try simp only [Exit.then, Exit.inBlock])
    exact J2 _ _ x1_1_0 x1_1_1 x1_1_2 x1_1_3 x1_1_4 x1_1_5 x1_1_6 x1_1_7 x1_1_8 x1_1_9 x1_1_10 x1_1_11 x1_1_12 x1_1_13 x1_1_14 x1_1_15 x1_1_16 x1_1_17 x1_1_18 x1_1_19 x1_1_20 x1_1_21 x1_1_22 gL1_1 (y1_3 ++ t1006 : List Int) A1012 C1012 H hS hBw1014_w hgeLgL1_1 ((hBw1014_w1010.block gL1_1 (blk_lt hn1011)).trans hn1011) hl1012 (Kd.R_lower (Kd.R_below hr1012 hBw1014_w1010) (Nat.le_refl _))
  obtain ⟨t10, At10, H⟩ := Option.bind_eq_some_iff.mp H
  by_cases c1 : t10 = true
  rotate_left
  · rw [if_neg c1] at H
    refine wp_seq_k (fun K9 hK9 => ?_)
    refine reg_seq (N := 81) (bs := [(3, .slice none 0 0), (1, .pointer (some ⟨g4, 0, none⟩))]) (I := fun x => Below w.heap.size w x ∧ Below w3.heap.size w3 x ∧ Below w7.heap.size w7 x) (ps := [VP g4 0, VI a0_0, VB t10]) (by kernel_rfl) ?_ ?_ rfl hS ⟨hBw7_w, hBw7_w3, hBw7_w7⟩ ?_ ?_
    · exact fun x y hI hb => ⟨below_step hI.1 hb, below_step hI.2.1 hb, below_step hI.2.2 hb⟩
    · exact .v (.v (.v (.nil)))
    · refine .on rfl (fun a w hS hI hp => does_val (x_fieldE (b := 0) rfl (hS.get 1 rfl) Try.underlying29 rfl rfl (by kernel_rfl)) rfl) ?_
      refine .on rfl (fun a w hS hI hp => does_val (x_load1 (d := .int .i64) rfl (hp.V 0 rfl rfl) (by kernel_rfl) rfl ((blk_cell (((hI.2.1).block g4 (blk_lt hbxg4)).trans hbxg4) 0).trans rfl)) rfl) ?_
      refine .on rfl (fun a w hS hI hp => does_call (by kernel_rfl) (ar1 (hp.V 1 rfl rfl)) ((carillonref07_stamped.calls a0_0 t10 _  At10).mono fun _ _ h => ⟨_, h.1, h.2.below, rfl⟩)) ?_
      exact .nil
    clear hS
    intro at11 w12 hS hI hp
    have hBw12_w := hI.1
    have hBw12_w3 := hI.2.1
    have hBw12_w7 := hI.2.2
    have hv6 : sl _ 6 = .bool t10 := hp 2 (by decide)
    have hBw12_w12 := Below.refl w12.heap.size w12
    have hS := hS.cons hv6
    clear hp hI hv6
    refine hK9 _ _ ?_
    (try clear hK9 K9)
    refine wp_cond_false ((hS.get 0 rfl).trans (bF (Bool.eq_false_iff.2 c1))) ?_
    refine wp_skip ?_
    replace hS := ((hS.nil).cons (hS.get 1 rfl)).cons (hS.get 2 rfl)
    (try simp only [Exit.then, Exit.inBlock])
    exact J1 _ _ a0_0 a0_1 a0_2 a0_3 a0_4 a0_5 a0_6 a0_7 a0_8 a0_9 a0_10 a0_11 a0_12 a0_13 a0_14 a0_15 a0_16 a0_17 a0_18 a0_19 a0_20 a0_21 a0_22 g4 [] none 0 H hS hBw12_w hgeg4 ((hBw12_w3.block g4 (blk_lt hbxg4)).trans hbxg4) (Nat.le_refl _) (Kd.R_nil _ _ _ _ _)
  rw [if_pos c1] at H
  obtain ⟨t13, At13, H⟩ := Option.bind_eq_some_iff.mp H
  by_cases c2 : t13.length * 1 ≤ 140737488355328
  rotate_left
  · rw [if_neg c2] at H
    exact absurd H (by simp)
  rw [if_pos c2] at H
  refine wp_seq_k (fun K9 hK9 => ?_)
  refine reg_seq (N := 81) (bs := [(3, .slice none 0 0), (1, .pointer (some ⟨g4, 0, none⟩))]) (I := fun x => Below w.heap.size w x ∧ Below w3.heap.size w3 x ∧ Below w7.heap.size w7 x) (ps := [VP g4 0, VI a0_0, VB t10]) (by kernel_rfl) ?_ ?_ rfl hS ⟨hBw7_w, hBw7_w3, hBw7_w7⟩ ?_ ?_
  · exact fun x y hI hb => ⟨below_step hI.1 hb, below_step hI.2.1 hb, below_step hI.2.2 hb⟩
  · exact .v (.v (.v (.nil)))
  · refine .on rfl (fun a w hS hI hp => does_val (x_fieldE (b := 0) rfl (hS.get 1 rfl) Try.underlying29 rfl rfl (by kernel_rfl)) rfl) ?_
    refine .on rfl (fun a w hS hI hp => does_val (x_load1 (d := .int .i64) rfl (hp.V 0 rfl rfl) (by kernel_rfl) rfl ((blk_cell (((hI.2.1).block g4 (blk_lt hbxg4)).trans hbxg4) 0).trans rfl)) rfl) ?_
    refine .on rfl (fun a w hS hI hp => does_call (by kernel_rfl) (ar1 (hp.V 1 rfl rfl)) ((carillonref07_stamped.calls a0_0 t10 _  At10).mono fun _ _ h => ⟨_, h.1, h.2.below, rfl⟩)) ?_
    exact .nil
  clear hS
  intro at11 w12 hS hI hp
  have hBw12_w := hI.1
  have hBw12_w3 := hI.2.1
  have hBw12_w7 := hI.2.2
  have hv6 : sl _ 6 = .bool t10 := hp 2 (by decide)
  have hBw12_w12 := Below.refl w12.heap.size w12
  have hS := hS.cons hv6
  clear hp hI hv6
  refine hK9 _ _ ?_
  (try clear hK9 K9)
  refine wp_cond_true ((hS.get 0 rfl).trans (bT c1)) ?_
  refine reg_seq_tail 4 (N := 81) (bs := [(6, .bool t10), (3, .slice none 0 0), (1, .pointer (some ⟨g4, 0, none⟩))]) (I := fun x => Below w.heap.size w x ∧ Below w3.heap.size w3 x ∧ Below w12.heap.size w12 x) (ps := [IsV (.slice none 0 0), VP g4 8, VI a0_8, IsR (Kd.int .u8) 5 w12.heap.size t13]) (by kernel_rfl) ?_ ?_ rfl hS ⟨hBw12_w, hBw12_w3, hBw12_w12⟩ ?_ ?_
  · exact fun x y hI hb => ⟨below_step hI.1 hb, below_step hI.2.1 hb, below_step hI.2.2 hb⟩
  · exact .v (.v (.v (.cons (Stays.r _ _ _ _) (.nil))))
  · refine .ms 1 rfl rfl rfl ?_
    refine .on rfl (fun a w hS hI hp => does_val (x_fieldE (b := 0) rfl (hS.get 2 rfl) Try.underlying29 rfl rfl (by kernel_rfl)) rfl) ?_
    refine .on rfl (fun a w hS hI hp => does_val (x_load1 (d := .int .i64) rfl (hp.V 1 rfl rfl) (by kernel_rfl) rfl ((blk_cell (((hI.2.1).block g4 (blk_lt hbxg4)).trans hbxg4) 8).trans rfl)) rfl) ?_
    refine .on rfl (fun a w hS hI hp => does_call (by kernel_rfl) (ar1 (hp.V 2 rfl rfl)) ((carillonref02_Put.calls k a0_8 t13 _  At13).mono fun _ _ h => h.elim fun v0 h => ⟨v0, h.1, h.2.2, Kd.R_lower h.2.1 hI.2.2.size⟩)) ?_
    exact .nil
  clear hS
  intro at14 w15 hS hI hp
  have hBw15_w := hI.1
  have hBw15_w3 := hI.2.1
  have hBw15_w12 := hI.2.2
  replace hS := ((hS.nil).cons (hS.get 2 rfl)).cons (hS.get 1 rfl)
  have hv7 : sl _ 7 = .slice none 0 0 := hp 0 (by decide)
  obtain ⟨A16, C16, hv10, hl16, hc16⟩ := Kd.R_reads (show Kd.R (Kd.int .u8) 5 w15 w12.heap.size (fun _ => True) (sl _ 10) t13 from hp 3 (by decide))
  have ho16 : Kd.R (Kd.int .u8) 5 w15 w12.heap.size (fun _ => True) (.slice A16 t13.length C16) t13 := hv10 ▸ (hp 3 (by decide))
  have hBw15_w15 := Below.refl w15.heap.size w15
  have hS := hS.cons hv7
  have hS := hS.cons hv10
  clear hp hI hv7 hv10
  show wpList _ _ _ [_, _] _ _
  refine list_step rfl (R := fun v w' => Below _ _ w' ∧ (IsR (Kd.int .u8) 5 w15.heap.size t13) v w') (does_copy w15.heap.size (.tmp 7) (.tmp 10) 22 5 1 rfl (by kernel_rfl) (by kernel_rfl) (by decide) t13 _ _ (hS.get 1 rfl) (hS.get 0 rfl) ((Kd.C_below hc16 hBw15_w15)) (hBw15_w15).size c2) ?_
  rintro vw17 w17 ⟨hb, he⟩
  have hBw17_w := below_step hBw15_w hb
  have hBw17_w3 := below_step hBw15_w3 hb
  have hBw17_w12 := below_step hBw15_w12 hb
  have hBw17_w15 := below_step hBw15_w15 hb
  have hBw17_w17 := Below.refl w17.heap.size w17
  obtain ⟨A18, C18, rfl, hl18, hc18⟩ := Kd.R_reads he
  have hr18 := he
  refine hS.next (v := .slice A18 t13.length C18) (d := 11) rfl (by decide) (by rfl) ?_
  clear hS
  intro at19 hS
  refine list_step rfl (R := fun v w' => Below _ _ w' ∧ (IsV (.slice A18 t13.length C18)) v w') (does_val (x_assign rfl (hS.get 0 rfl)) rfl) ?_
  rintro vw20 w20 ⟨hb, he⟩
  have hBw20_w := below_step hBw17_w hb
  have hBw20_w3 := below_step hBw17_w3 hb
  have hBw20_w12 := below_step hBw17_w12 hb
  have hBw20_w15 := below_step hBw17_w15 hb
  have hBw20_w17 := below_step hBw17_w17 hb
  have hBw20_w20 := Below.refl w20.heap.size w20
  obtain rfl : vw20 = .slice A18 t13.length C18 := he
  replace hS := ((((hS.nil).cons (hS.get 4 rfl)).cons (hS.get 2 rfl)).cons (hS.get 1 rfl)).cons (hS.get 0 rfl)
  refine hS.next (v := .slice A18 t13.length C18) (d := 3) rfl (by decide) (by rfl) ?_
  clear hS
  intro at21 hS
  refine wpList_nil ?_
  replace hS := ((hS.nil).cons (hS.get 0 rfl)).cons (hS.get 4 rfl)
  (try simp only [Exit.then, Exit.inBlock])
  exact J1 _ _ a0_0 a0_1 a0_2 a0_3 a0_4 a0_5 a0_6 a0_7 a0_8 a0_9 a0_10 a0_11 a0_12 a0_13 a0_14 a0_15 a0_16 a0_17 a0_18 a0_19 a0_20 a0_21 a0_22 g4 t13 A18 C18 H hS hBw20_w hgeg4 ((hBw20_w3.block g4 (blk_lt hbxg4)).trans hbxg4) hl18 (Kd.R_lower (Kd.R_below hr18 hBw20_w17) (hBw15_w).size)
/-! ### body_Len: function 12 -/
mutual
def body_Len.j0 : Nat → Int → Bool → Option (Int)
  | 0, _, _ => none
  | k + 1, x3, x4 => if x4 = true then (some 10) else (if x3 = 2 then (body_Len.j1 k x3 (x3 == 2)) else (if x3 = 3 then (body_Len.j1 k x3 (x3 == 3)) else (if x3 = 10 then (body_Len.j1 k x3 (x3 == 10)) else (body_Len.j1 k x3 (x3 == 9)))))
def body_Len.j1 : Nat → Int → Bool → Option (Int)
  | 0, _, _ => none
  | k + 1, x3, x9 => if x9 = true then (some 20) else (if x3 = 11 then (some 30) else (if x3 = 13 then (some 14) else (some 0)))
end
def body_Len.f (k : Nat) (a0 : Int) : Option (Int) := if a0 = 0 then (body_Len.j0 k a0 (a0 == 0)) else (if a0 = 1 then (body_Len.j0 k a0 (a0 == 1)) else (if a0 = 8 then (body_Len.j0 k a0 (a0 == 8)) else (body_Len.j0 k a0 (a0 == 12))))
set_option maxHeartbeats 8000000 in
set_option maxRecDepth 100000 in
theorem body_Len.calls (k : Nat) (a0 : Int) (r : Int) (w : World) (h : body_Len.f k a0 = some r) :
    Calls Try.prog 12 #[.int .i64 a0] w fun e w' => e = .returned (.int .i64 r) ∧ Drawn0 w w' := by
  have H : (if a0 = 0 then (body_Len.j0 k a0 (a0 == 0)) else (if a0 = 1 then (body_Len.j0 k a0 (a0 == 1)) else (if a0 = 8 then (body_Len.j0 k a0 (a0 == 8)) else (body_Len.j0 k a0 (a0 == 12))))) = some r := h
  clear h
  have HC2 := Aside0.mk H
  clear H
  go_enter Try.func12, Try.ntmps12
  go_upto_if 4 with (fail)
  go_cut [4] (fun v4 wc => ∃ (kq : Nat) (x4_1 : Bool), v4 = .bool x4_1 ∧ Aside0 (body_Len.j0 kq a0 x4_1 = some r) ∧ Aside0 (kq ≤ k) ∧ Drawn0 w wc)
  case first =>
    have H := HC2.out
    clear HC2
    by_cases c3 : a0 = 0
    · rw [if_pos c3] at H
      have c3b0 : (a0 == 0) = true := beq_iff_eq.mpr c3
      have c3b1 : (a0 != 0) = false := bne_eq_false_iff_eq.mpr c3
      clear c3
      (first | rw [c3b0] | (simp only [i64_w, i32_w]; rw [c3b0]) | skip)
      have H' := Aside0.mk H
      clear H
      go_wp2
      go_meet
      case rel => exact ⟨_, ((a0 == 0)), (by first | rfl | (simp; done) | (simp [*]; done)), H', ⟨by first | omega | exact Nat.le_refl _⟩, by repeat (first | exact Drawn0.refl _ | apply Drawn0.step)⟩
    · rw [if_neg c3] at H
      have c3b0 : (a0 == 0) = false := beq_eq_false_iff_ne.mpr c3
      have c3b1 : (a0 != 0) = true := bne_iff_ne.mpr c3
      (first | rw [c3b0] | (simp only [i64_w, i32_w]; rw [c3b0]) | skip)
      by_cases c4 : a0 = 1
      · rw [if_pos c4] at H
        have c4b0 : (a0 == 1) = true := beq_iff_eq.mpr c4
        have c4b1 : (a0 != 1) = false := bne_eq_false_iff_eq.mpr c4
        clear c4
        have H' := Aside0.mk H
        clear H
        go_wp2
        go_meet
        case rel => exact ⟨_, ((a0 == 1)), (by first | rfl | (simp; done) | (simp [*]; done)), H', ⟨by first | omega | exact Nat.le_refl _⟩, by repeat (first | exact Drawn0.refl _ | apply Drawn0.step)⟩
      · rw [if_neg c4] at H
        have c4b0 : (a0 == 1) = false := beq_eq_false_iff_ne.mpr c4
        have c4b1 : (a0 != 1) = true := bne_iff_ne.mpr c4
        by_cases c5 : a0 = 8
        · rw [if_pos c5] at H
          have c5b0 : (a0 == 8) = true := beq_iff_eq.mpr c5
          have c5b1 : (a0 != 8) = false := bne_eq_false_iff_eq.mpr c5
          clear c5
          have H' := Aside0.mk H
          clear H
          go_wp2
          go_meet
          case rel => exact ⟨_, ((a0 == 8)), (by first | rfl | (simp; done) | (simp [*]; done)), H', ⟨by first | omega | exact Nat.le_refl _⟩, by repeat (first | exact Drawn0.refl _ | apply Drawn0.step)⟩
        · rw [if_neg c5] at H
          have c5b0 : (a0 == 8) = false := beq_eq_false_iff_ne.mpr c5
          have c5b1 : (a0 != 8) = true := bne_iff_ne.mpr c5
          have H' := Aside0.mk H
          clear H
          go_wp2
          go_meet
          case rel => exact ⟨_, ((a0 == 12)), (by first | rfl | (simp; done) | (simp [*]; done)), H', ⟨by first | omega | exact Nat.le_refl _⟩, by repeat (first | exact Drawn0.refl _ | apply Drawn0.step)⟩
  case rest =>
    clear HC2
    try clear c1
    try clear p2
    try clear c3
    try clear c3b0
    try clear c3b1
    try clear c4
    try clear c4b0
    try clear c4b1
    try clear c5
    try clear c5b0
    try clear c5b1
    obtain ⟨kq, x4_1, rfl, HA, HJ1, ⟨mc1, rfl⟩⟩ := hcut
    cases kq with
    | zero => exact absurd HA.out (by simp [body_Len.j0])
    | succ kj1 =>
      have H := HA.out
      clear HA
      simp only [body_Len.j0] at H
      by_cases c6 : x4_1 = true
      · subst c6
        have H1 : (some 10) = some r := by rw [if_pos rfl] at H; exact H
        clear H
        have H := H1
        clear H1
        obtain rfl := Option.some.inj H
        go_wp2
        all_goals
          go_ret
          exact ⟨by first | rfl | (simp; done) | (simp [*]; done), by repeat (first | exact Drawn0.refl _ | apply Drawn0.step)⟩
      · replace c6 := Bool.eq_false_iff.mpr c6
        subst c6
        have H1 : (if a0 = 2 then (body_Len.j1 kj1 a0 (a0 == 2)) else (if a0 = 3 then (body_Len.j1 kj1 a0 (a0 == 3)) else (if a0 = 10 then (body_Len.j1 kj1 a0 (a0 == 10)) else (body_Len.j1 kj1 a0 (a0 == 9))))) = some r := by rw [if_neg (show ¬ (false = true) by decide)] at H; exact H
        clear H
        have H := H1
        clear H1
        have HC7 := Aside0.mk H
        clear H
        go_upto_if 9 with (fail)
        go_cut [9] (fun v9 wc => ∃ (kq : Nat) (x9_6 : Bool), v9 = .bool x9_6 ∧ Aside0 (body_Len.j1 kq a0 x9_6 = some r) ∧ Aside0 (kq ≤ kj1) ∧ Drawn0 w wc)
        case first =>
          have H := HC7.out
          clear HC7
          by_cases c8 : a0 = 2
          · rw [if_pos c8] at H
            have c8b0 : (a0 == 2) = true := beq_iff_eq.mpr c8
            have c8b1 : (a0 != 2) = false := bne_eq_false_iff_eq.mpr c8
            clear c8
            (first | rw [c8b0] | (simp only [i64_w, i32_w]; rw [c8b0]) | skip)
            have H' := Aside0.mk H
            clear H
            go_wp2
            go_meet
            case rel => exact ⟨_, ((a0 == 2)), (by first | rfl | (simp; done) | (simp [*]; done)), H', ⟨by have := HJ1.out; first | omega | exact Nat.le_refl _⟩, by repeat (first | exact Drawn0.refl _ | apply Drawn0.step)⟩
          · rw [if_neg c8] at H
            have c8b0 : (a0 == 2) = false := beq_eq_false_iff_ne.mpr c8
            have c8b1 : (a0 != 2) = true := bne_iff_ne.mpr c8
            (first | rw [c8b0] | (simp only [i64_w, i32_w]; rw [c8b0]) | skip)
            by_cases c9 : a0 = 3
            · rw [if_pos c9] at H
              have c9b0 : (a0 == 3) = true := beq_iff_eq.mpr c9
              have c9b1 : (a0 != 3) = false := bne_eq_false_iff_eq.mpr c9
              clear c9
              have H' := Aside0.mk H
              clear H
              go_wp2
              go_meet
              case rel => exact ⟨_, ((a0 == 3)), (by first | rfl | (simp; done) | (simp [*]; done)), H', ⟨by have := HJ1.out; first | omega | exact Nat.le_refl _⟩, by repeat (first | exact Drawn0.refl _ | apply Drawn0.step)⟩
            · rw [if_neg c9] at H
              have c9b0 : (a0 == 3) = false := beq_eq_false_iff_ne.mpr c9
              have c9b1 : (a0 != 3) = true := bne_iff_ne.mpr c9
              by_cases c10 : a0 = 10
              · rw [if_pos c10] at H
                have c10b0 : (a0 == 10) = true := beq_iff_eq.mpr c10
                have c10b1 : (a0 != 10) = false := bne_eq_false_iff_eq.mpr c10
                clear c10
                have H' := Aside0.mk H
                clear H
                go_wp2
                go_meet
                case rel => exact ⟨_, ((a0 == 10)), (by first | rfl | (simp; done) | (simp [*]; done)), H', ⟨by have := HJ1.out; first | omega | exact Nat.le_refl _⟩, by repeat (first | exact Drawn0.refl _ | apply Drawn0.step)⟩
              · rw [if_neg c10] at H
                have c10b0 : (a0 == 10) = false := beq_eq_false_iff_ne.mpr c10
                have c10b1 : (a0 != 10) = true := bne_iff_ne.mpr c10
                have H' := Aside0.mk H
                clear H
                go_wp2
                go_meet
                case rel => exact ⟨_, ((a0 == 9)), (by first | rfl | (simp; done) | (simp [*]; done)), H', ⟨by have := HJ1.out; first | omega | exact Nat.le_refl _⟩, by repeat (first | exact Drawn0.refl _ | apply Drawn0.step)⟩
        case rest =>
          clear HC7
          try clear c1
          try clear p2
          try clear c3
          try clear c3b0
          try clear c3b1
          try clear c4
          try clear c4b0
          try clear c4b1
          try clear c5
          try clear c5b0
          try clear c5b1
          try clear c6
          try clear c8
          try clear c8b0
          try clear c8b1
          try clear c9
          try clear c9b0
          try clear c9b1
          try clear c10
          try clear c10b0
          try clear c10b1
          try clear p2
          obtain ⟨kq, x9_6, rfl, HA, HJ6, ⟨mc6, rfl⟩⟩ := hcut
          cases kq with
          | zero => exact absurd HA.out (by simp [body_Len.j1])
          | succ kj6 =>
            have H := HA.out
            clear HA
            simp only [body_Len.j1] at H
            by_cases c11 : x9_6 = true
            · subst c11
              have H1 : (some 20) = some r := by rw [if_pos rfl] at H; exact H
              clear H
              have H := H1
              clear H1
              obtain rfl := Option.some.inj H
              go_wp2
              all_goals
                go_ret
                exact ⟨by first | rfl | (simp; done) | (simp [*]; done), by repeat (first | exact Drawn0.refl _ | apply Drawn0.step)⟩
            · replace c11 := Bool.eq_false_iff.mpr c11
              subst c11
              have H1 : (if a0 = 11 then (some 30) else (if a0 = 13 then (some 14) else (some 0))) = some r := by rw [if_neg (show ¬ (false = true) by decide)] at H; exact H
              clear H
              have H := H1
              clear H1
              by_cases c12 : a0 = 11
              · rw [if_pos c12] at H
                have c12b0 : (a0 == 11) = true := beq_iff_eq.mpr c12
                have c12b1 : (a0 != 11) = false := bne_eq_false_iff_eq.mpr c12
                clear c12
                obtain rfl := Option.some.inj H
                go_wp2
                all_goals
                  go_ret
                  exact ⟨by first | rfl | (simp; done) | (simp [*]; done), by repeat (first | exact Drawn0.refl _ | apply Drawn0.step)⟩
              · rw [if_neg c12] at H
                have c12b0 : (a0 == 11) = false := beq_eq_false_iff_ne.mpr c12
                have c12b1 : (a0 != 11) = true := bne_iff_ne.mpr c12
                by_cases c13 : a0 = 13
                · rw [if_pos c13] at H
                  have c13b0 : (a0 == 13) = true := beq_iff_eq.mpr c13
                  have c13b1 : (a0 != 13) = false := bne_eq_false_iff_eq.mpr c13
                  clear c13
                  obtain rfl := Option.some.inj H
                  go_wp2
                  all_goals
                    go_ret
                    exact ⟨by first | rfl | (simp; done) | (simp [*]; done), by repeat (first | exact Drawn0.refl _ | apply Drawn0.step)⟩
                · rw [if_neg c13] at H
                  have c13b0 : (a0 == 13) = false := beq_eq_false_iff_ne.mpr c13
                  have c13b1 : (a0 != 13) = true := bne_iff_ne.mpr c13
                  obtain rfl := Option.some.inj H
                  go_wp2
                  all_goals
                    go_ret
                    exact ⟨by first | rfl | (simp; done) | (simp [*]; done), by repeat (first | exact Drawn0.refl _ | apply Drawn0.step)⟩
end Go.Proofs.Ytpoocfapmgmfkaa.P
