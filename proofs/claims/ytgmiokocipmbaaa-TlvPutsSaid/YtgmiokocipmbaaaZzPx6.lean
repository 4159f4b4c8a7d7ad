/- Functions and loops of the given program as Lean functions, and that the code comes to what they say: written by this session's own program; Lean checks it. -/
import Derived.Test.YtgmiokocipmbaaaZzPx0
import Derived.Test.YtgmiokocipmbaaaZzPx2
import Derived.Test.YtgmiokocipmbaaaZzPx3
import Derived.Test.YtgmiokocipmbaaaZzPx4
import Derived.Test.YtgmiokocipmbaaaZzPx5
namespace Go.Proofs.Ytgmiokocipmbaaa.P
open Go.RowKit Go.Proofs.YtgmiokocipmbaaaW.PrintWords Go.Proofs.YtgmiokocipmbaaaW.PrintLast Go.Proofs.YtgmiokocipmbaaaW.PrintMore
attribute [local go_sem] max2_int min2_int max_two min_two max_three min_three max_four min_four   -- for this text's walks alone
set_option linter.unusedVariables false
set_option linter.unusedSimpArgs false
/-! ### carillonref08_Find: function 20 -/
def carillonref08_Find.l0 : Nat → List (S26) → Int → Int → Option (Int × ByteArray × Bool)
  | 0, _, _, _ => none
  | k + 1, x0, x1, x6 => if x6 < (x0.length : Int) then (if 0 ≤ x6 then (if ((rd_T26 x0 x6).f0) = x1 then (some ((rd_T26 x0 x6).f0, (rd_T26 x0 x6).f1, true)) else (carillonref08_Find.l0 k x0 x1 (wrap64 (x6 + 1)))) else (none)) else (some (0, (⟨#[]⟩ : ByteArray), false))
def carillonref08_Find.f (k : Nat) (l0 : List (S26)) (a1 : Int) : Option (Int × ByteArray × Bool) := carillonref08_Find.l0 k l0 a1 0
set_option maxHeartbeats 8000000 in
set_option maxRecDepth 100000 in
theorem carillonref08_Find.calls (k : Nat) (A0 : Option Addr) (c0 : Nat) (l0 : List (S26)) (a1 : Int) (r1 : Int) (r2 : ByteArray) (r3 : Bool) (w : World) (hr0 : Kd.C k26 w A0 l0.length l0) (hc0 : l0.length ≤ c0) (h : carillonref08_Find.f k l0 a1 = some (r1, r2, r3)) :
    Calls Try.prog 20 #[.slice A0 l0.length c0, .int .i64 a1] w fun e w' => e = .returned (.tuple #[.agg #[.int .i64 r1, .string r2], .bool r3]) ∧ Below w.heap.size w w' := by
  have hu26 := Try.underlying26
  have HR0 := Aside0.mk hr0
  have HC0 := Aside0.mk hc0
  clear hr0 hc0
  have HB := Aside0.mk (Below.refl w.heap.size w)
  have H : (carillonref08_Find.l0 k l0 a1 0) = some (r1, r2, r3) := h
  clear h
  have H' := Aside0.mk H
  clear H
  go_enter Try.func20, Try.ntmps20
  go_wp2_with (first | ((with_reducible refine gate_dst (N := 4) rfl ?_); refine box_event ?hg (N := 4) ?hd (cs := #[.int .i64 0, .string (⟨#[]⟩ : ByteArray)]) (t := 26) ?hr ?_; (case hd => rfl); (case hg => rfl); (case hr => first | (go_simp; done) | (go_simp; rfl)); intro gb123 hg w3 hbox hb; have n0_ := Aside0.mk (below_step (by repeat (first | (with_reducible first | exact HB.out | apply below_alloc | apply pw_below_drewN | apply below_drew1) | exact HB.out)) hb); have n1_ := Aside0.mk (hbox); have n2_ := Aside0.mk ((by rw [hg]; exact (below_size (by repeat (first | (with_reducible first | exact HB.out | apply below_alloc | apply pw_below_drewN | apply below_drew1) | exact HB.out))) : w.heap.size ≤ gb123)); have n3_ := Aside0.mk ((by rw [hg]; exact (below_size (by repeat (first | (with_reducible first | exact HB.out | apply below_alloc | apply pw_below_drewN | apply below_drew1) | exact HB.out))) : w.heap.size ≤ gb123)); clear HB; have HB := n0_; have BK123 := n1_; have GW123 := n2_; have GE123 := n3_; clear n0_ n1_ n2_ n3_; clear hb hbox hg))
  go_loopg [6] k (fun kq v6 w' => ∃ (x6_1 : Int) (x124000_1 : Int) (x124001_1 : ByteArray), v6 = .int .i64 x6_1 ∧ Aside0 (carillonref08_Find.l0 kq l0 a1 x6_1 = some (r1, r2, r3)) ∧ Aside0 (kq ≤ k) ∧ Aside0 (w'.heap[gb123]? = some (.cells #[.int .i64 x124000_1, .string x124001_1] 26 (0, 0))) ∧ Aside0 (Below w.heap.size w w'))
  case atStart => exact ⟨(0), (0), ((⟨#[]⟩ : ByteArray)), (by first | rfl | (simp; done) | (simp [*]; done)), H', ⟨Nat.le_refl _⟩, ⟨by (with_reducible repeat (first | refine blk_drewN ?_ _ | refine blk_drew ?_ | refine blk_alloc ?_ _)); exact BK123.out⟩, ⟨by repeat (first | (with_reducible first | exact HB.out | apply below_alloc | apply pw_below_drewN | apply below_drew1 | refine below_set ?_ GE123.out) | exact HB.out)⟩⟩
  case round =>
    clear H'
    try clear c2
    try clear p2
    obtain ⟨x6_1, x124000_1, x124001_1, rfl, HA, HK1, BK123, HB⟩ := hrel
    cases gk with
    | zero => exact absurd HA.out (by simp [carillonref08_Find.l0])
    | succ k1 =>
      have H := HA.out
      clear HA
      simp only [carillonref08_Find.l0] at H
      by_cases c4 : x6_1 < (l0.length : Int)
      · rw [if_pos c4] at H
        have c4b0 : decide (x6_1 < (l0.length : Int)) = true := decide_eq_true c4
        clear c4
        by_cases c5 : 0 ≤ x6_1
        · rw [if_pos c5] at H
          have c5b0 : decide (0 ≤ x6_1) = true := decide_eq_true c5
          clear c5
          by_cases c6 : ((rd_T26 l0 x6_1).f0) = a1
          · rw [if_pos c6] at H
            have c6b0 : (((rd_T26 l0 x6_1).f0) == a1) = true := beq_iff_eq.mpr c6
            have c6b1 : (((rd_T26 l0 x6_1).f0) != a1) = false := bne_eq_false_iff_eq.mpr c6
            clear c6
            simp only [Option.some.injEq, Prod.mk.injEq] at H
            obtain ⟨rfl, rfl, rfl⟩ := H
            have p124 : 0 ≤ (x6_1 : Int) := of_decide_eq_true (by first | (with_reducible assumption) | assumption)
            have q124 : x6_1 < (l0.length : Int) := of_decide_eq_true (by first | (with_reducible assumption) | assumption)
            obtain ⟨ad124, e124, hx124_0, hx124_1⟩ := at_T26 HR0.out x6_1 p124 q124
            cases e124
            replace hx124_0 := (HB.out.cell (World.block_lt_of_cell? w _ hx124_0)).trans hx124_0
            replace hx124_1 := (HB.out.cell (World.block_lt_of_cell? w _ hx124_1)).trans hx124_1
            replace p124 := eq_true p124
            replace q124 := eq_true q124
            have p125 : 0 ≤ (x6_1 : Int) := of_decide_eq_true (by first | (with_reducible assumption) | assumption)
            have q125 : x6_1 < (l0.length : Int) := of_decide_eq_true (by first | (with_reducible assumption) | assumption)
            obtain ⟨ad125, e125, hx125_0, hx125_1⟩ := at_T26 HR0.out x6_1 p125 q125
            obtain rfl : ad124 = ad125 := (by injection e125)
            replace hx125_0 := (HB.out.cell (World.block_lt_of_cell? w _ hx125_0)).trans hx125_0
            replace hx125_1 := (HB.out.cell (World.block_lt_of_cell? w _ hx125_1)).trans hx125_1
            replace p125 := eq_true p125
            replace q125 := eq_true q125
            have hcz7_0 : wr.cell? ⟨gb123, 0, none⟩ = some (.int .i64 x124000_1) := (blk_cell BK123.out 0).trans rfl
            have hcz7_1 : wr.cell? ⟨gb123, 1, none⟩ = some (.string x124001_1) := (blk_cell BK123.out 1).trans rfl
            have hfz7_0 := blk_frozen BK123.out 0
            have hfz7_1 := blk_frozen BK123.out 1
            go_wp2
            refine bodyPost_ret (results_ct rfl _ _ gb123 26 #[.int .i64 ((rd_T26 l0 x6_1).f0), .string ((rd_T26 l0 x6_1).f1)] (0, 0) _ rfl (by (with_reducible repeat (first | refine blk_drewN ?_ _ | refine blk_drew ?_ | refine blk_alloc ?_ _)); refine blk_put (cs := #[.int .i64 ((rd_T26 l0 x6_1).f0), .string x124001_1]) ?_ 1 _ rfl; (with_reducible repeat (first | refine blk_drewN ?_ _ | refine blk_drew ?_ | refine blk_alloc ?_ _)); refine blk_put (cs := #[.int .i64 x124000_1, .string x124001_1]) ?_ 0 _ rfl; (with_reducible repeat (first | refine blk_drewN ?_ _ | refine blk_drew ?_ | refine blk_alloc ?_ _)); exact BK123.out) Try.underlying26 rfl (by kernel_rfl)) rfl ?_
            exact ⟨by first | rfl | (simp [errW_none, errW_some] <;> rfl) | (simp [*, errW_none, errW_some] <;> rfl), by repeat (first | (with_reducible first | exact HB.out | apply below_alloc | apply pw_below_drewN | apply below_drew1 | refine below_set ?_ GE123.out) | exact HB.out)⟩
          · rw [if_neg c6] at H
            have c6b0 : (((rd_T26 l0 x6_1).f0) == a1) = false := beq_eq_false_iff_ne.mpr c6
            have c6b1 : (((rd_T26 l0 x6_1).f0) != a1) = true := bne_iff_ne.mpr c6
            have H' := Aside0.mk H
            clear H
            have p124 : 0 ≤ (x6_1 : Int) := of_decide_eq_true (by first | (with_reducible assumption) | assumption)
            have q124 : x6_1 < (l0.length : Int) := of_decide_eq_true (by first | (with_reducible assumption) | assumption)
            obtain ⟨ad124, e124, hx124_0, hx124_1⟩ := at_T26 HR0.out x6_1 p124 q124
            cases e124
            replace hx124_0 := (HB.out.cell (World.block_lt_of_cell? w _ hx124_0)).trans hx124_0
            replace hx124_1 := (HB.out.cell (World.block_lt_of_cell? w _ hx124_1)).trans hx124_1
            replace p124 := eq_true p124
            replace q124 := eq_true q124
            go_wp2
            go_roundg k1
            case measure => have := HK1.out; omega
            case rel => exact ⟨(wrap64 (x6_1 + 1)), (x124000_1), (x124001_1), (by first | rfl | (simp; done) | (simp [*]; done)), H', ⟨by have := HK1.out; omega⟩, ⟨by (with_reducible repeat (first | refine blk_drewN ?_ _ | refine blk_drew ?_ | refine blk_alloc ?_ _)); exact BK123.out⟩, ⟨by repeat (first | (with_reducible first | exact HB.out | apply below_alloc | apply pw_below_drewN | apply below_drew1 | refine below_set ?_ GE123.out) | exact HB.out)⟩⟩
        · rw [if_neg c5] at H
          exact absurd H (by simp)
      · rw [if_neg c4] at H
        have c4b0 : decide (x6_1 < (l0.length : Int)) = false := decide_eq_false c4
        clear c4
        simp only [Option.some.injEq, Prod.mk.injEq] at H
        obtain ⟨rfl, rfl, rfl⟩ := H
        have hcz8_0 : wr.cell? ⟨gb123, 0, none⟩ = some (.int .i64 x124000_1) := (blk_cell BK123.out 0).trans rfl
        have hcz8_1 : wr.cell? ⟨gb123, 1, none⟩ = some (.string x124001_1) := (blk_cell BK123.out 1).trans rfl
        have hfz8_0 := blk_frozen BK123.out 0
        have hfz8_1 := blk_frozen BK123.out 1
        go_wp2
        refine bodyPost_ret (results_ct rfl _ _ gb123 26 #[.int .i64 0, .string (⟨#[]⟩ : ByteArray)] (0, 0) _ rfl (by (with_reducible repeat (first | refine blk_drewN ?_ _ | refine blk_drew ?_ | refine blk_alloc ?_ _)); refine blk_put (cs := #[.int .i64 0, .string x124001_1]) ?_ 1 _ rfl; (with_reducible repeat (first | refine blk_drewN ?_ _ | refine blk_drew ?_ | refine blk_alloc ?_ _)); refine blk_put (cs := #[.int .i64 x124000_1, .string x124001_1]) ?_ 0 _ rfl; (with_reducible repeat (first | refine blk_drewN ?_ _ | refine blk_drew ?_ | refine blk_alloc ?_ _)); exact BK123.out) Try.underlying26 rfl (by kernel_rfl)) rfl ?_
        exact ⟨by first | rfl | (simp [errW_none, errW_some] <;> rfl) | (simp [*, errW_none, errW_some] <;> rfl), by repeat (first | (with_reducible first | exact HB.out | apply below_alloc | apply pw_below_drewN | apply below_drew1 | refine below_set ?_ GE123.out) | exact HB.out)⟩
/-! ### carillonlaw08_TlvPuts: function 4: by our own printer -/
def carillonlaw08_TlvPuts.l1 (k : Nat) : Nat → (List (S26)) → Int → Int → Option (Bool)
  | 0, _, _, _ => none
  | n1 + 1, y1_1, x1_2, x1_12 => if x1_12 < (y1_1.length : Int) then (if 0 ≤ x1_12 then ((tlv_Check.f ((rd_T26 y1_1 x1_12).f0) ((rd_T26 y1_1 x1_12).f1)).bind fun t1007 => ((carillonref08_Check.f ((rd_T26 y1_1 x1_12).f0) ((rd_T26 y1_1 x1_12).f1)).bind fun t1008 => (if (t1007 == t1008) = true then ((tlv_Known.f ((rd_T26 y1_1 x1_12).f0) ((rd_T26 y1_1 x1_12).f1)).bind fun t1009 => ((carillonref08_Known.f ((rd_T26 y1_1 x1_12).f0) ((rd_T26 y1_1 x1_12).f1)).bind fun t1010 => (if (t1009 == t1010) = true then (carillonlaw08_TlvPuts.l1 k n1 y1_1 x1_2 (wrap64 (x1_12 + 1))) else (some false)))) else (some false)))) else (none)) else ((carillonlaw00_Tlvs.f y1_1).bind fun t1006 => ((tlv_Find.f k t1006 x1_2).bind fun t1007 => ((carillonref08_Find.f k y1_1 x1_2).bind fun t1015 => (if ((t1007.1 == t1015.1) && (t1007.2.1.toList == t1015.2.1.toList)) = true then (if (t1007.2.2 == t1015.2.2) = true then ((carillonlaw08_awake.f k ).bind fun t1023 => (some t1023)) else (some false)) else (some false)))))
def carillonlaw08_TlvPuts.f (k : Nat) (l0 : List Int) (l1 : List (S26)) (a2 : Int) : Option (Bool) := (carillonlaw08_few.f k l1).bind fun t6 => (if t6 = true then (if l0.length * 1 ≤ 140737488355328 then (if (l0.length + [99].length) * 1 ≤ 140737488355328 then (if 0 ≤ (l0.length : Int) then (if (l0.length : Int) ≤ ((l0 ++ [99] : List Int).length : Int) then ((carillonlaw00_Tlvs.f l1).bind fun t26 => ((tlv_Put.f k ((l0 ++ [99] : List Int).take ((l0.length : Int) : Int).toNat) t26).bind fun t27 => ((carillonref08_Put.f k l1).bind fun t32 => (if (t27.2 == t32.2) = true then (if (strOfNums l0).size + (strOfNums t32.1).size ≤ 9223372036854775807 then (if ((strOfNums t27.1).toList == ((strOfNums l0) ++ (strOfNums t32.1)).toList) = true then (if 0 ≤ (wrap64 ((l0.length : Int) + 1)) then (if (wrap64 ((l0.length : Int) + 1)) ≤ ((l0 ++ [99] : List Int).length : Int) then (if (l0.length : Int) < (((l0 ++ [99] : List Int).take (wrap64 ((l0.length : Int) + 1) : Int).toNat).length : Int) then (if (l0.length : Int) < ((l0 ++ [99] : List Int).length : Int) then (if (rd (l0 ++ [99] : List Int) (l0.length : Int)) = 99 then (carillonlaw08_TlvPuts.l1 k k l1 a2 0) else (some false)) else (none)) else (none)) else (none)) else (none)) else (some false)) else (none)) else (some false))))) else (none)) else (none)) else (none)) else (none)) else ((carillonlaw08_awake.f k ).bind fun t10 => (some t10)))
open Go.Proofs.Ytgmiokocipmbaaa.E in
set_option maxRecDepth 100000 in
theorem carillonlaw08_TlvPuts.eql26 (x y : Operand) (w : World) (a0 : Int) (a1 : ByteArray) (b0 : Int) (b1 : ByteArray) : (do eqGuard .eql 26 x y (.agg #[.int .i64 a0, .string a1]) (.agg #[.int .i64 b0, .string b1]); binOp .eql 26 (.agg #[.int .i64 a0, .string a1]) (.agg #[.int .i64 b0, .string b1]) : Sem Value).run Try.prog w = .ok (.bool ((a0 == b0) && (a1.toList == b1.toList))) w := by
  have hu3 := Try.underlying3
  have hu9 := Try.underlying9
  have hu26 := Try.underlying26
  conv => lhs; simp [eqGuard, go_sem, hu3, hu9, hu26]
  exact ite_and (ite_last)
open Go.Proofs.Ytgmiokocipmbaaa.E in
theorem carillonlaw08_TlvPuts.flat26 : Flat k26 (fun x => [.int .i64 x.f0, .string x.f1]) := ⟨fun w x cs h => k26_open h, fun w base x => k26_mkM w base _ x⟩
open Go.Proofs.Ytgmiokocipmbaaa.E in
set_option maxHeartbeats 60000000 in
set_option maxRecDepth 100000 in
theorem carillonlaw08_TlvPuts.calls (k : Nat) (A0 : Option Addr) (cp0 : Nat) (l0 : List Int) (A1 : Option Addr) (cp1 : Nat) (l1 : List (S26)) (a2 : Int) (w : World) (HR0 : Kd.C (Kd.int .u8) w A0 l0.length l0) (HC0 : l0.length ≤ cp0) (HR1 : Kd.C k26 w A1 l1.length l1) (HC1 : l1.length ≤ cp1) (h : carillonlaw08_TlvPuts.f k l0 l1 a2 = some true) :
    Calls Try.prog 4 #[.slice A0 l0.length cp0, .slice A1 l1.length cp1, .int .i64 a2] w fun e w' => e = .returned (.bool true) ∧ Below w.heap.size w w' := by
  have H := h
  clear h
  unfold carillonlaw08_TlvPuts.f at H
  obtain ⟨t6, At6, H⟩ := Option.bind_eq_some_iff.mp H
  by_cases c1 : t6 = true
  rotate_left
  · rw [if_neg c1] at H
    obtain ⟨t10, At10, H⟩ := Option.bind_eq_some_iff.mp H
    have hret := Option.some.inj H
    clear H
    refine calls_of_wp (fn := Try.f4) (by kernel_rfl) rfl ?_
    have hS := St.enter #[.slice A0 l0.length cp0, .slice A1 l1.length cp1, .int .i64 a2] 119 (by simp) [(0, .slice A0 l0.length cp0), (1, .slice A1 l1.length cp1), (2, .int .i64 a2)] (by simp)
    have HB0 := Below.refl w.heap.size w
    refine wp_seq_k (fun K1 hK1 => ?_)
    refine reg_seq (N := 119) (bs := [(0, .slice A0 l0.length cp0), (1, .slice A1 l1.length cp1), (2, .int .i64 a2)]) (I := fun x => Below w.heap.size w x) (ps := [VB false]) (by kernel_rfl) ?_ ?_ rfl hS HB0 ?_ ?_
    · exact fun x y hI hb => below_step hI hb
    · exact .v (.nil)
    · refine .on rfl (fun a w hS hI hp => does_val (x_assign rfl (rfl)) rfl) ?_
      exact .nil
    clear hS
    intro at2 w3 hS hI hp
    have hBw3_w := hI
    have hBw3_w3 := Below.refl w3.heap.size w3
    clear hp hI
    refine hK1 _ _ ?_
    (try clear hK1 K1)
    refine wp_seq_k (fun K4 hK4 => ?_)
    refine wp_seq_k (fun K5 hK5 => ?_)
    refine reg_seq (N := 119) (bs := [(0, .slice A0 l0.length cp0), (1, .slice A1 l1.length cp1), (2, .int .i64 a2)]) (I := fun x => Below w.heap.size w x ∧ Below w3.heap.size w3 x) (ps := [IsV (.slice A1 l1.length cp1), VB t6, VB (!t6)]) (by kernel_rfl) ?_ ?_ rfl hS ⟨hBw3_w, hBw3_w3⟩ ?_ ?_
    · exact fun x y hI hb => ⟨below_step hI.1 hb, below_step hI.2 hb⟩
    · exact .v (.v (.v (.nil)))
    · refine .ms 1 rfl rfl rfl ?_
      refine .on rfl (fun a w hS hI hp => does_call (by kernel_rfl) (ar1 (hp.V 0 rfl rfl)) ((carillonlaw08_few.calls k _ _ l1 t6 _ (Kd.C_below HR1 hI.1) HC1 At6).mono fun _ _ h => ⟨_, h.1, h.2.below, rfl⟩)) ?_
      refine .on rfl (fun a w hS hI hp => does_val (x_not rfl (hp.V 1 rfl rfl)) rfl) ?_
      exact .nil
    clear hS
    intro at7 w8 hS hI hp
    have hBw8_w := hI.1
    have hBw8_w3 := hI.2
    have hv19 : sl _ 19 = .bool (!t6) := hp 2 (by decide)
    have hBw8_w8 := Below.refl w8.heap.size w8
    have hS := hS.cons hv19
    clear hp hI hv19
    refine hK5 _ _ ?_
    (try clear hK5 K5)
    refine wp_cond_true ((hS.get 0 rfl).trans (bT (congrArg (!·) (Bool.eq_false_iff.2 c1)))) ?_
    refine wp_seq_k (fun K9 hK9 => ?_)
    refine reg_seq (N := 119) (bs := [(19, .bool (!t6)), (0, .slice A0 l0.length cp0), (1, .slice A1 l1.length cp1), (2, .int .i64 a2)]) (I := fun x => Below w.heap.size w x ∧ Below w8.heap.size w8 x) (ps := [VB t10, VB t10]) (by kernel_rfl) ?_ ?_ rfl hS ⟨hBw8_w, hBw8_w8⟩ ?_ ?_
    · exact fun x y hI hb => ⟨below_step hI.1 hb, below_step hI.2 hb⟩
    · exact .v (.v (.nil))
    · refine .on rfl (fun a w hS hI hp => does_call (by kernel_rfl) rfl ((carillonlaw08_awake.calls k  t10 _  At10).mono fun _ _ h => ⟨_, h.1, h.2, rfl⟩)) ?_
      refine .asg 0 rfl rfl rfl rfl ?_
      exact .nil
    clear hS
    intro at11 w12 hS hI hp
    have hBw12_w := hI.1
    have hBw12_w8 := hI.2
    replace hS := hS.nil
    have hv6 : sl _ 6 = .bool t10 := hp 1 (by decide)
    have hBw12_w12 := Below.refl w12.heap.size w12
    have hS := hS.cons hv6
    clear hp hI hv6
    refine hK9 _ _ ?_
    (try clear hK9 K9)
    refine wp_ret ?_
    (try simp only [Exit.then, Exit.inBlock, Exit.jump, Exit.noGoto])
    exact bodyPost_ret (v := .bool true) (by rw [results_tmp rfl]; exact congrArg (Result.ok · _) ((hS.get 0 rfl).trans (congrArg Value.bool hret))) hS.nodef ⟨rfl, hBw12_w⟩
  rw [if_pos c1] at H
  by_cases c2 : l0.length * 1 ≤ 140737488355328
  rotate_left
  · rw [if_neg c2] at H
    exact absurd H (by simp)
  rw [if_pos c2] at H
  by_cases c3 : (l0.length + [99].length) * 1 ≤ 140737488355328
  rotate_left
  · rw [if_neg c3] at H
    exact absurd H (by simp)
  rw [if_pos c3] at H
  by_cases c4 : 0 ≤ (l0.length : Int)
  rotate_left
  · rw [if_neg c4] at H
    exact absurd H (by simp)
  rw [if_pos c4] at H
  by_cases c5 : (l0.length : Int) ≤ ((l0 ++ [99] : List Int).length : Int)
  rotate_left
  · rw [if_neg c5] at H
    exact absurd H (by simp)
  rw [if_pos c5] at H
  obtain ⟨t26, At26, H⟩ := Option.bind_eq_some_iff.mp H
  obtain ⟨t27, At27, H⟩ := Option.bind_eq_some_iff.mp H
  obtain ⟨t27_1, t27_2⟩ := t27
  (try dsimp only at H)
  obtain ⟨t32, At32, H⟩ := Option.bind_eq_some_iff.mp H
  obtain ⟨t32_1, t32_2⟩ := t32
  (try dsimp only at H)
  by_cases c6 : (t27_2 == t32_2) = true
  rotate_left
  · rw [if_neg c6] at H
    exact absurd H (by simp)
  rw [if_pos c6] at H
  by_cases c7 : (strOfNums l0).size + (strOfNums t32_1).size ≤ 9223372036854775807
  rotate_left
  · rw [if_neg c7] at H
    exact absurd H (by simp)
  rw [if_pos c7] at H
  by_cases c8 : ((strOfNums t27_1).toList == ((strOfNums l0) ++ (strOfNums t32_1)).toList) = true
  rotate_left
  · rw [if_neg c8] at H
    exact absurd H (by simp)
  rw [if_pos c8] at H
  by_cases c9 : 0 ≤ (wrap64 ((l0.length : Int) + 1))
  rotate_left
  · rw [if_neg c9] at H
    exact absurd H (by simp)
  rw [if_pos c9] at H
  by_cases c10 : (wrap64 ((l0.length : Int) + 1)) ≤ ((l0 ++ [99] : List Int).length : Int)
  rotate_left
  · rw [if_neg c10] at H
    exact absurd H (by simp)
  rw [if_pos c10] at H
  by_cases c11 : (l0.length : Int) < (((l0 ++ [99] : List Int).take (wrap64 ((l0.length : Int) + 1) : Int).toNat).length : Int)
  rotate_left
  · rw [if_neg c11] at H
    exact absurd H (by simp)
  rw [if_pos c11] at H
  by_cases c12 : (l0.length : Int) < ((l0 ++ [99] : List Int).length : Int)
  rotate_left
  · rw [if_neg c12] at H
    exact absurd H (by simp)
  rw [if_pos c12] at H
  by_cases c13 : (rd (l0 ++ [99] : List Int) (l0.length : Int)) = 99
  rotate_left
  · rw [if_neg c13] at H
    exact absurd H (by simp)
  rw [if_pos c13] at H
  refine calls_of_wp (fn := Try.f4) (by kernel_rfl) rfl ?_
  have hS := St.enter #[.slice A0 l0.length cp0, .slice A1 l1.length cp1, .int .i64 a2] 119 (by simp) [(0, .slice A0 l0.length cp0), (1, .slice A1 l1.length cp1), (2, .int .i64 a2)] (by simp)
  have HB0 := Below.refl w.heap.size w
  refine wp_seq_k (fun K1 hK1 => ?_)
  refine reg_seq (N := 119) (bs := [(0, .slice A0 l0.length cp0), (1, .slice A1 l1.length cp1), (2, .int .i64 a2)]) (I := fun x => Below w.heap.size w x) (ps := [VB false]) (by kernel_rfl) ?_ ?_ rfl hS HB0 ?_ ?_
  · exact fun x y hI hb => below_step hI hb
  · exact .v (.nil)
  · refine .on rfl (fun a w hS hI hp => does_val (x_assign rfl (rfl)) rfl) ?_
    exact .nil
  clear hS
  intro at2 w3 hS hI hp
  have hBw3_w := hI
  have hBw3_w3 := Below.refl w3.heap.size w3
  clear hp hI
  refine hK1 _ _ ?_
  (try clear hK1 K1)
  refine wp_seq_k (fun K4 hK4 => ?_)
  refine wp_seq_k (fun K5 hK5 => ?_)
  refine reg_seq (N := 119) (bs := [(0, .slice A0 l0.length cp0), (1, .slice A1 l1.length cp1), (2, .int .i64 a2)]) (I := fun x => Below w.heap.size w x ∧ Below w3.heap.size w3 x) (ps := [IsV (.slice A1 l1.length cp1), VB t6, VB (!t6)]) (by kernel_rfl) ?_ ?_ rfl hS ⟨hBw3_w, hBw3_w3⟩ ?_ ?_
  · exact fun x y hI hb => ⟨below_step hI.1 hb, below_step hI.2 hb⟩
  · exact .v (.v (.v (.nil)))
  · refine .ms 1 rfl rfl rfl ?_
    refine .on rfl (fun a w hS hI hp => does_call (by kernel_rfl) (ar1 (hp.V 0 rfl rfl)) ((carillonlaw08_few.calls k _ _ l1 t6 _ (Kd.C_below HR1 hI.1) HC1 At6).mono fun _ _ h => ⟨_, h.1, h.2.below, rfl⟩)) ?_
    refine .on rfl (fun a w hS hI hp => does_val (x_not rfl (hp.V 1 rfl rfl)) rfl) ?_
    exact .nil
  clear hS
  intro at7 w8 hS hI hp
  have hBw8_w := hI.1
  have hBw8_w3 := hI.2
  have hv19 : sl _ 19 = .bool (!t6) := hp 2 (by decide)
  have hBw8_w8 := Below.refl w8.heap.size w8
  have hS := hS.cons hv19
  clear hp hI hv19
  refine hK5 _ _ ?_
  (try clear hK5 K5)
  refine wp_cond_false ((hS.get 0 rfl).trans (bF (congrArg (!·) c1))) ?_
  refine wp_skip ?_
  refine hK4 _ _ ?_
  (try clear hK4 K4)
  refine wp_seq_k (fun K9 hK9 => ?_)
  refine reg_seq_tail 3 (N := 119) (bs := [(19, .bool (!t6)), (0, .slice A0 l0.length cp0), (1, .slice A1 l1.length cp1), (2, .int .i64 a2)]) (I := fun x => Below w.heap.size w x ∧ Below w8.heap.size w8 x) (ps := [IsV (.slice A0 l0.length cp0), IsR (Kd.int .u8) 5 w8.heap.size l0, IsR (Kd.int .u8) 5 w8.heap.size [99]]) (by kernel_rfl) ?_ ?_ rfl hS ⟨hBw8_w, hBw8_w8⟩ ?_ ?_
  · exact fun x y hI hb => ⟨below_step hI.1 hb, below_step hI.2 hb⟩
  · exact .v (.cons (Stays.r _ _ _ _) (.cons (Stays.r _ _ _ _) (.nil)))
  · refine .ms 1 rfl rfl rfl ?_
    refine .on rfl (fun a w hS hI hp => does_copy w8.heap.size _ (.tmp 21) 31 5 1 rfl (by kernel_rfl) (by kernel_rfl) (by decide) l0 _ _ (rfl) (hp.V 0 rfl rfl) ((Kd.C_below HR0 hI.1)) (hI.2).size c2) ?_
    refine .on rfl (fun a w hS hI hp => does_lit w8.heap.size 31 5 1 _ [(0, .int .u8 99)] [99] rfl (by kernel_rfl) (by rw [Array.toList_map]; exact (show [(0, a.eval (.const (.int .u8 99)))] = _ from (li_cons (rfl) rfl))) (by kernel_rfl) rfl (hI.2).size (Nat.le_of_ble_eq_true rfl)) ?_
    exact .nil
  clear hS
  intro at10 w11 hS hI hp
  have hBw11_w := hI.1
  have hBw11_w8 := hI.2
  replace hS := (((hS.nil).cons (hS.get 3 rfl)).cons (hS.get 2 rfl)).cons (hS.get 1 rfl)
  obtain ⟨A12, C12, hv22, hl12, hc12⟩ := Kd.R_reads (show Kd.R (Kd.int .u8) 5 w11 w8.heap.size (fun _ => True) (sl _ 22) l0 from hp 1 (by decide))
  have ho12 : Kd.R (Kd.int .u8) 5 w11 w8.heap.size (fun _ => True) (.slice A12 l0.length C12) l0 := hv22 ▸ (hp 1 (by decide))
  obtain ⟨A13, C13, hv23, hl13, hc13⟩ := Kd.R_reads (show Kd.R (Kd.int .u8) 5 w11 w8.heap.size (fun _ => True) (sl _ 23) [99] from hp 2 (by decide))
  have ho13 : Kd.R (Kd.int .u8) 5 w11 w8.heap.size (fun _ => True) (.slice A13 [99].length C13) [99] := hv23 ▸ (hp 2 (by decide))
  have hBw11_w11 := Below.refl w11.heap.size w11
  have hS := hS.cons hv22
  have hS := hS.cons hv23
  clear hp hI hv22 hv23
  show wpList _ _ _ [_, _, _, _, _] _ _
  refine list_step rfl (does_more (W := w8) (.tmp 22) (.tmp 23) 31 5 1 rfl (by kernel_rfl) (by kernel_rfl) (by decide) _ l0 [99] _ _ (hS.get 1 rfl) (hS.get 0 rfl) (Kd.R_below ho12 hBw11_w11) (Kd.C_below hc13 hBw11_w11) hBw11_w8 c3) ?_
  rintro vw14 w14 ⟨hb, hr, hk⟩
  clear hk
  have hBw14_w := below_step hBw8_w hb
  have hBw14_w8 := hb
  replace hS := (((hS.nil).cons (hS.get 4 rfl)).cons (hS.get 3 rfl)).cons (hS.get 2 rfl)
  have hBw14_w14 := Below.refl w14.heap.size w14
  obtain ⟨A15, C15, rfl, hl15, hc15⟩ := Kd.R_reads hr
  have hr15 := hr
  clear hr
  refine hS.next (v := .slice A15 ((l0 ++ [99] : List Int).length) C15) (d := 24) rfl (by decide) (by rfl) ?_
  clear hS
  intro at16 hS
  refine list_step rfl (R := fun v w' => Below _ _ w' ∧ (IsV (.slice A0 l0.length cp0)) v w') (does_val (x_move rfl (hS.get 1 rfl)) rfl) ?_
  rintro vw17 w17 ⟨hb, he⟩
  have hBw17_w := below_step hBw14_w hb
  have hBw17_w8 := below_step hBw14_w8 hb
  have hBw17_w14 := below_step hBw14_w14 hb
  have hBw17_w17 := Below.refl w17.heap.size w17
  obtain rfl : vw17 = .slice A0 l0.length cp0 := he
  refine hS.next (v := .slice A0 l0.length cp0) (d := 25) rfl (by decide) (by rfl) ?_
  clear hS
  intro at18 hS
  refine list_step rfl (R := fun v w' => Below _ _ w' ∧ (VI (l0.length : Int)) v w') (does_val (x_len (e := 5) rfl (by kernel_rfl) (hS.get 0 rfl)) rfl) ?_
  rintro vw19 w19 ⟨hb, he⟩
  have hBw19_w := below_step hBw17_w hb
  have hBw19_w8 := below_step hBw17_w8 hb
  have hBw19_w14 := below_step hBw17_w14 hb
  have hBw19_w17 := below_step hBw17_w17 hb
  have hBw19_w19 := Below.refl w19.heap.size w19
  obtain rfl : vw19 = .int .i64 (l0.length : Int) := he
  refine hS.next (v := .int .i64 (l0.length : Int)) (d := 26) rfl (by decide) (by rfl) ?_
  clear hS
  intro at20 hS
  refine list_step rfl (R := fun v w' => Below _ _ w' ∧ (IsV (.slice A15 (((l0 ++ [99] : List Int).take ((l0.length : Int) : Int).toNat).length) C15)) v w') (does_val (x_cuthi rfl (e := 5) (xs := (l0 ++ [99] : List Int)) (by kernel_rfl) (by kernel_rfl) (hS.get 2 rfl) (hS.get 0 rfl) c4 c5 hl15) rfl) ?_
  rintro vw21 w21 ⟨hb, he⟩
  have hBw21_w := below_step hBw19_w hb
  have hBw21_w8 := below_step hBw19_w8 hb
  have hBw21_w14 := below_step hBw19_w14 hb
  have hBw21_w19 := below_step hBw19_w19 hb
  have hBw21_w21 := Below.refl w21.heap.size w21
  obtain rfl : vw21 = .slice A15 (((l0 ++ [99] : List Int).take ((l0.length : Int) : Int).toNat).length) C15 := he
  refine hS.next (v := .slice A15 (((l0 ++ [99] : List Int).take ((l0.length : Int) : Int).toNat).length) C15) (d := 27) rfl (by decide) (by rfl) ?_
  clear hS
  intro at22 hS
  refine list_step rfl (R := fun v w' => Below _ _ w' ∧ (IsV (.slice A15 (((l0 ++ [99] : List Int).take ((l0.length : Int) : Int).toNat).length) C15)) v w') (does_val (x_assign rfl (hS.get 0 rfl)) rfl) ?_
  rintro vw23 w23 ⟨hb, he⟩
  have hBw23_w := below_step hBw21_w hb
  have hBw23_w8 := below_step hBw21_w8 hb
  have hBw23_w14 := below_step hBw21_w14 hb
  have hBw23_w21 := below_step hBw21_w21 hb
  have hBw23_w23 := Below.refl w23.heap.size w23
  obtain rfl : vw23 = .slice A15 (((l0 ++ [99] : List Int).take ((l0.length : Int) : Int).toNat).length) C15 := he
  refine hS.next (v := .slice A15 (((l0 ++ [99] : List Int).take ((l0.length : Int) : Int).toNat).length) C15) (d := 7) rfl (by decide) (by rfl) ?_
  clear hS
  intro at24 hS
  refine wpList_nil ?_
  refine hK9 _ _ ?_
  (try clear hK9 K9)
  refine wp_seq_k (fun K25 hK25 => ?_)
  refine reg_seq (N := 119) (bs := [(7, .slice A15 (((l0 ++ [99] : List Int).take ((l0.length : Int) : Int).toNat).length) C15), (27, .slice A15 (((l0 ++ [99] : List Int).take ((l0.length : Int) : Int).toNat).length) C15), (26, .int .i64 (l0.length : Int)), (25, .slice A0 l0.length cp0), (24, .slice A15 ((l0 ++ [99] : List Int).length) C15), (0, .slice A0 l0.length cp0), (1, .slice A1 l1.length cp1), (2, .int .i64 a2)]) (I := fun x => Below w.heap.size w x ∧ Below w8.heap.size w8 x ∧ Below w14.heap.size w14 x ∧ Below w23.heap.size w23 x) (ps := [IsV (.slice A15 (((l0 ++ [99] : List Int).take ((l0.length : Int) : Int).toNat).length) C15), IsV (.slice A1 l1.length cp1), IsR k26 26 w23.heap.size t26, IsT (fun v0_ => #[v0_, .bool t27_2]) (IsC (Kd.int .u8) t27_1), IsT (fun v0_ => #[v0_, .bool t27_2]) (IsC (Kd.int .u8) t27_1), IsC (Kd.int .u8) t27_1, VB t27_2, IsC (Kd.int .u8) t27_1, VB t27_2]) (by kernel_rfl) ?_ ?_ rfl hS ⟨hBw23_w, hBw23_w8, hBw23_w14, hBw23_w23⟩ ?_ ?_
  · exact fun x y hI hb => ⟨below_step hI.1 hb, below_step hI.2.1 hb, below_step hI.2.2.1 hb, below_step hI.2.2.2 hb⟩
  · exact .v (.v (.cons (Stays.r _ _ _ _) (.cons (Stays.t _ (Stays.c _ _)) (.cons (Stays.t _ (Stays.c _ _)) (.cons (Stays.c _ _) (.v (.cons (Stays.c _ _) (.v (.nil)))))))))
  · refine .ms 0 rfl rfl rfl ?_
    refine .ms 6 rfl rfl rfl ?_
    refine .on rfl (fun a w hS hI hp => does_call (by kernel_rfl) (ar1 (hp.V 1 rfl rfl)) ((carillonlaw00_Tlvs.calls _ _ l1 t26 _ (Kd.C_below HR1 hI.1) HC1 At26).mono fun _ _ h => h.elim fun v0 h => ⟨v0, h.1, h.2.2, Kd.R_lower h.2.1 hI.2.2.2.size⟩)) ?_
    refine .on rfl (fun a w hS hI hp => (IsC.of_r (hp.V 2 rfl rfl)).elim fun A_ h_ => h_.elim fun c_ h_ => h_.elim fun hv_ h_ => h_.elim fun hl_ hc_ => does_call (by kernel_rfl) (ar2 (hp.V 0 rfl rfl) (hv_)) ((tlv_Put.calls k _ _ ((l0 ++ [99] : List Int).take ((l0.length : Int) : Int).toNat) _ _ t26 t27_1 t27_2 _ (Kd.C_take (m := ((l0.length : Int) : Int).toNat) (Kd.C_below hc15 hI.2.2.1) (by have := c5; omega)) (Nat.le_trans (List.length_take_le' _ _) hl15) hc_ hl_ At27).mono fun _ _ h => h.elim fun v0 h => ⟨_, h.1, h.2.2, v0, rfl, h.2.1⟩)) ?_
    refine .on rfl (fun a w hS hI hp => does_val (x_move rfl rfl) (hp.V 3 rfl rfl)) ?_
    refine .on rfl (fun a w hS hI hp => (hp.V 4 rfl rfl).elim fun v0 h0 => does_val (x_extract rfl h0.1 rfl) h0.2) ?_
    refine .on rfl (fun a w hS hI hp => (hp.V 4 rfl rfl).elim fun v0 h0 => does_val (x_extract rfl h0.1 rfl) rfl) ?_
    refine .on rfl (fun a w hS hI hp => does_val (x_assign rfl rfl) (hp.V 5 rfl rfl)) ?_
    refine .asg 6 rfl rfl rfl rfl ?_
    exact .nil
  clear hS
  intro at28 w29 hS hI hp
  have hBw29_w := hI.1
  have hBw29_w8 := hI.2.1
  have hBw29_w14 := hI.2.2.1
  have hBw29_w23 := hI.2.2.2
  replace hS := ((((hS.nil).cons (hS.get 7 rfl)).cons (hS.get 6 rfl)).cons (hS.get 5 rfl)).cons (hS.get 0 rfl)
  obtain ⟨A30, C30, hv8, hl30, hc30⟩ := (show IsC (Kd.int .u8) t27_1 (sl _ 8) w29 from hp 7 (by decide))
  have hv9 : sl _ 9 = .bool t27_2 := hp 8 (by decide)
  have hBw29_w29 := Below.refl w29.heap.size w29
  have hS := hS.cons hv8
  have hS := hS.cons hv9
  clear hp hI hv8 hv9
  refine hK25 _ _ ?_
  (try clear hK25 K25)
  refine wp_seq_k (fun K31 hK31 => ?_)
  refine reg_seq (N := 119) (bs := [(9, .bool t27_2), (8, .slice A30 t27_1.length C30), (7, .slice A15 (((l0 ++ [99] : List Int).take ((l0.length : Int) : Int).toNat).length) C15), (0, .slice A0 l0.length cp0), (1, .slice A1 l1.length cp1), (2, .int .i64 a2)]) (I := fun x => Below w.heap.size w x ∧ Below w14.heap.size w14 x ∧ Below w29.heap.size w29 x) (ps := [IsV (.slice A1 l1.length cp1), IsT (fun v0_ => #[v0_, .bool t32_2]) (IsR (Kd.int .u8) 5 w29.heap.size t32_1), IsT (fun v0_ => #[v0_, .bool t32_2]) (IsR (Kd.int .u8) 5 w29.heap.size t32_1), IsR (Kd.int .u8) 5 w29.heap.size t32_1, VB t32_2, IsR (Kd.int .u8) 5 w29.heap.size t32_1, VB t32_2]) (by kernel_rfl) ?_ ?_ rfl hS ⟨hBw29_w, hBw29_w14, hBw29_w29⟩ ?_ ?_
  · exact fun x y hI hb => ⟨below_step hI.1 hb, below_step hI.2.1 hb, below_step hI.2.2 hb⟩
  · exact .v (.cons (Stays.t _ (Stays.r _ _ _ _)) (.cons (Stays.t _ (Stays.r _ _ _ _)) (.cons (Stays.r _ _ _ _) (.v (.cons (Stays.r _ _ _ _) (.v (.nil)))))))
  · refine .ms 4 rfl rfl rfl ?_
    refine .on rfl (fun a w hS hI hp => does_call (by kernel_rfl) (ar1 (hp.V 0 rfl rfl)) ((carillonref08_Put.calls k _ _ l1 t32_1 t32_2 _ (Kd.C_below HR1 hI.1) HC1 At32).mono fun _ _ h => h.elim fun v0 h => ⟨_, h.1, h.2.2, v0, rfl, Kd.R_lower h.2.1 hI.2.2.size⟩)) ?_
    refine .on rfl (fun a w hS hI hp => does_val (x_move rfl rfl) (hp.V 1 rfl rfl)) ?_
    refine .on rfl (fun a w hS hI hp => (hp.V 2 rfl rfl).elim fun v0 h0 => does_val (x_extract rfl h0.1 rfl) h0.2) ?_
    refine .on rfl (fun a w hS hI hp => (hp.V 2 rfl rfl).elim fun v0 h0 => does_val (x_extract rfl h0.1 rfl) rfl) ?_
    refine .on rfl (fun a w hS hI hp => does_val (x_assign rfl rfl) (hp.V 3 rfl rfl)) ?_
    refine .asg 4 rfl rfl rfl rfl ?_
    exact .nil
  clear hS
  intro at33 w34 hS hI hp
  have hBw34_w := hI.1
  have hBw34_w14 := hI.2.1
  have hBw34_w29 := hI.2.2
  obtain ⟨A35, C35, hv10, hl35, hc35⟩ := Kd.R_reads (show Kd.R (Kd.int .u8) 5 w34 w29.heap.size (fun _ => True) (sl _ 10) t32_1 from hp 5 (by decide))
  have ho35 : Kd.R (Kd.int .u8) 5 w34 w29.heap.size (fun _ => True) (.slice A35 t32_1.length C35) t32_1 := hv10 ▸ (hp 5 (by decide))
  have hv11 : sl _ 11 = .bool t32_2 := hp 6 (by decide)
  have hBw34_w34 := Below.refl w34.heap.size w34
  have hS := hS.cons hv10
  have hS := hS.cons hv11
  clear hp hI hv10 hv11
  refine hK31 _ _ ?_
  (try clear hK31 K31)
  refine wp_seq_k (fun K36 hK36 => ?_)
  refine wp_seq_k (fun K37 hK37 => ?_)
  refine reg_seq (N := 119) (bs := [(11, .bool t32_2), (10, .slice A35 t32_1.length C35), (9, .bool t27_2), (8, .slice A30 t27_1.length C30), (7, .slice A15 (((l0 ++ [99] : List Int).take ((l0.length : Int) : Int).toNat).length) C15), (0, .slice A0 l0.length cp0), (1, .slice A1 l1.length cp1), (2, .int .i64 a2)]) (I := fun x => Below w.heap.size w x ∧ Below w14.heap.size w14 x ∧ Below w29.heap.size w29 x ∧ Below w34.heap.size w34 x) (ps := [VB t27_2, VB t32_2, VB (!(t27_2 == t32_2)), VB (!(t27_2 == t32_2)), IsV (.slice A30 t27_1.length C30), IsV (.string (strOfNums t27_1)), IsV (.slice A0 l0.length cp0), IsV (.string (strOfNums l0)), IsV (.slice A35 t32_1.length C35), IsV (.string (strOfNums t32_1)), IsV (.string ((strOfNums l0) ++ (strOfNums t32_1))), VB (!((strOfNums t27_1).toList == ((strOfNums l0) ++ (strOfNums t32_1)).toList)), VB (!((strOfNums t27_1).toList == ((strOfNums l0) ++ (strOfNums t32_1)).toList)), VB (!((strOfNums t27_1).toList == ((strOfNums l0) ++ (strOfNums t32_1)).toList)), IsV (.slice A15 (((l0 ++ [99] : List Int).take ((l0.length : Int) : Int).toNat).length) C15), IsV (.slice A0 l0.length cp0), VI (l0.length : Int), VI (wrap64 ((l0.length : Int) + 1)), IsV (.slice A15 (((l0 ++ [99] : List Int).take (wrap64 ((l0.length : Int) + 1) : Int).toNat).length) C15), IsV (.slice A0 l0.length cp0), VI (l0.length : Int), IsA (.int .u8 (rd (l0 ++ [99] : List Int) (l0.length : Int))), IsV (.int .u8 (rd (l0 ++ [99] : List Int) (l0.length : Int))), VB (!decide ((rd (l0 ++ [99] : List Int) (l0.length : Int)) = 99)), VB (!decide ((rd (l0 ++ [99] : List Int) (l0.length : Int)) = 99))]) (by kernel_rfl) ?_ ?_ rfl hS ⟨hBw34_w, hBw34_w14, hBw34_w29, hBw34_w34⟩ ?_ ?_
  · exact fun x y hI hb => ⟨below_step hI.1 hb, below_step hI.2.1 hb, below_step hI.2.2.1 hb, below_step hI.2.2.2 hb⟩
  · exact .v (.v (.v (.v (.v (.v (.v (.v (.v (.v (.v (.v (.v (.v (.v (.v (.v (.v (.v (.v (.v (.cons (Stays.a _) (.v (.v (.v (.nil)))))))))))))))))))))))))
  · refine .ms 2 rfl rfl rfl ?_
    refine .ms 0 rfl rfl rfl ?_
    refine .on rfl (fun a w hS hI hp => does_val (x_bin rfl (hp.V 0 rfl rfl) (hp.V 1 rfl rfl) (b_neb _ _ _ _ _ (by kernel_rfl))) rfl) ?_
    refine .mv 2 rfl rfl rfl rfl ?_
    refine .oy 3 43 rfl rfl rfl rfl rfl ((congrArg (!·) c6)) (fun a w hS hI hp => does_val (x_move rfl (hS.get 3 rfl)) rfl) ?_
    refine .oy 3 43 rfl rfl rfl rfl rfl ((congrArg (!·) c6)) (fun a w hS hI hp => does_val (x_conv rfl (hp.V 4 rfl rfl) (Kd.C_string (by kernel_rfl) (e := 5) (by kernel_rfl) (by kernel_rfl) (Kd.C_below hc30 hI.2.2.1))) rfl) ?_
    refine .oy 3 43 rfl rfl rfl rfl rfl ((congrArg (!·) c6)) (fun a w hS hI hp => does_val (x_move rfl (hS.get 5 rfl)) rfl) ?_
    refine .oy 3 43 rfl rfl rfl rfl rfl ((congrArg (!·) c6)) (fun a w hS hI hp => does_val (x_conv rfl (hp.V 6 rfl rfl) (Kd.C_string (by kernel_rfl) (e := 5) (by kernel_rfl) (by kernel_rfl) (Kd.C_below HR0 hI.1))) rfl) ?_
    refine .oy 3 43 rfl rfl rfl rfl rfl ((congrArg (!·) c6)) (fun a w hS hI hp => does_val (x_move rfl (hS.get 1 rfl)) rfl) ?_
    refine .oy 3 43 rfl rfl rfl rfl rfl ((congrArg (!·) c6)) (fun a w hS hI hp => does_val (x_conv rfl (hp.V 8 rfl rfl) (Kd.C_string (by kernel_rfl) (e := 5) (by kernel_rfl) (by kernel_rfl) (Kd.C_below hc35 hI.2.2.2))) rfl) ?_
    refine .oy 3 43 rfl rfl rfl rfl rfl ((congrArg (!·) c6)) (fun a w hS hI hp => does_val (x_bin rfl (hp.V 7 rfl rfl) (hp.V 9 rfl rfl) (b_adds _ _ _ _ _ c7)) rfl) ?_
    refine .oy 3 43 rfl rfl rfl rfl rfl ((congrArg (!·) c6)) (fun a w hS hI hp => does_val (x_bin rfl (hp.V 5 rfl rfl) (hp.V 10 rfl rfl) (b_nes _ _ _ _ _)) rfl) ?_
    refine .on rfl (fun a w hS hI hp => does_val (x_pickF rfl ((hp.V 3 rfl rfl).trans (bF (congrArg (!·) c6))) (hp.V 11 rfl rfl)) rfl) ?_
    refine .mv 12 rfl rfl rfl rfl ?_
    refine .oy 13 53 rfl rfl rfl rfl rfl ((congrArg (!·) c8)) (fun a w hS hI hp => does_val (x_move rfl (hS.get 4 rfl)) rfl) ?_
    refine .oy 13 53 rfl rfl rfl rfl rfl ((congrArg (!·) c8)) (fun a w hS hI hp => does_val (x_move rfl (hS.get 5 rfl)) rfl) ?_
    refine .oy 13 53 rfl rfl rfl rfl rfl ((congrArg (!·) c8)) (fun a w hS hI hp => does_val (x_len (e := 5) rfl (by kernel_rfl) (hp.V 15 rfl rfl)) rfl) ?_
    refine .oy 13 53 rfl rfl rfl rfl rfl ((congrArg (!·) c8)) (fun a w hS hI hp => does_val (x_bin rfl (hp.V 16 rfl rfl) (rfl) (b_add _ _ _ _ _)) rfl) ?_
    refine .oy 13 53 rfl rfl rfl rfl rfl ((congrArg (!·) c8)) (fun a w hS hI hp => does_val (x_cuthi rfl (e := 5) (xs := (l0 ++ [99] : List Int)) (by kernel_rfl) (by kernel_rfl) (hp.V 14 rfl rfl) (hp.V 17 rfl rfl) c9 c10 hl15) rfl) ?_
    refine .oy 13 53 rfl rfl rfl rfl rfl ((congrArg (!·) c8)) (fun a w hS hI hp => does_val (x_move rfl (hS.get 5 rfl)) rfl) ?_
    refine .oy 13 53 rfl rfl rfl rfl rfl ((congrArg (!·) c8)) (fun a w hS hI hp => does_val (x_len (e := 5) rfl (by kernel_rfl) (hp.V 19 rfl rfl)) rfl) ?_
    refine .oy 13 53 rfl rfl rfl rfl rfl ((congrArg (!·) c8)) (fun a w hS hI hp => does_index (e := 5) (xs := (l0 ++ [99] : List Int)) rfl (hp.V 18 rfl rfl) (hp.V 20 rfl rfl) (by kernel_rfl) (by kernel_rfl) c4 c11 c12 ((Kd.C_below hc15 hI.2.1))) ?_
    refine .oy 13 53 rfl rfl rfl rfl rfl ((congrArg (!·) c8)) (fun a w hS hI hp => (hp.V 21 rfl rfl).elim fun _ h_ => does_val (x_load1 (d := .int .u8) rfl h_.1 (by kernel_rfl) rfl h_.2.2) rfl) ?_
    refine .oy 13 53 rfl rfl rfl rfl rfl ((congrArg (!·) c8)) (fun a w hS hI hp => does_val (x_bin rfl (hp.V 22 rfl rfl) (rfl) (b_neq _ _ _ _ _ _)) rfl) ?_
    refine .on rfl (fun a w hS hI hp => does_val (x_pickF rfl ((hp.V 13 rfl rfl).trans (bF (congrArg (!·) c8))) (hp.V 23 rfl rfl)) rfl) ?_
    exact .nil
  clear hS
  intro at38 w39 hS hI hp
  have hBw39_w := hI.1
  have hBw39_w14 := hI.2.1
  have hBw39_w29 := hI.2.2.1
  have hBw39_w34 := hI.2.2.2
  replace hS := ((hS.nil).cons (hS.get 7 rfl)).cons (hS.get 6 rfl)
  have hv64 : sl _ 64 = .bool (!decide ((rd (l0 ++ [99] : List Int) (l0.length : Int)) = 99)) := hp 24 (by decide)
  have hBw39_w39 := Below.refl w39.heap.size w39
  have hS := hS.cons hv64
  clear hp hI hv64
  refine hK37 _ _ ?_
  (try clear hK37 K37)
  refine wp_cond_false ((hS.get 0 rfl).trans (bF (congrArg (!·) (decide_eq_true c13)))) ?_
  refine wp_skip ?_
  refine hK36 _ _ ?_
  (try clear hK36 K36)
  refine wp_seq_k (fun K40 hK40 => ?_)
  refine wp_seq_k (fun K41 hK41 => ?_)
  refine reg_seq (N := 119) (bs := [(64, .bool (!decide ((rd (l0 ++ [99] : List Int) (l0.length : Int)) = 99))), (1, .slice A1 l1.length cp1), (2, .int .i64 a2)]) (I := fun x => Below w.heap.size w x ∧ Below w39.heap.size w39 x) (ps := [VI 0]) (by kernel_rfl) ?_ ?_ rfl hS ⟨hBw39_w, hBw39_w39⟩ ?_ ?_
  · exact fun x y hI hb => ⟨below_step hI.1 hb, below_step hI.2 hb⟩
  · exact .v (.nil)
  · refine .on rfl (fun a w hS hI hp => does_val (x_assign rfl (rfl)) rfl) ?_
    exact .nil
  clear hS
  intro at42 w43 hS hI hp
  have hBw43_w := hI.1
  have hBw43_w39 := hI.2
  replace hS := ((hS.nil).cons (hS.get 2 rfl)).cons (hS.get 1 rfl)
  have hv12 : sl _ 12 = .int .i64 0 := hp 0 (by decide)
  have hBw43_w43 := Below.refl w43.heap.size w43
  have hS := hS.cons hv12
  clear hp hI hv12
  refine hK41 _ _ ?_
  (try clear hK41 K41)
  refine wp_block ?_
  replace hS := (((hS.nil).cons (hS.get 0 rfl)).cons (hS.get 2 rfl)).cons (hS.get 1 rfl)
  refine wp_loop_ghost (fun n_ a_ wL1 => ∃ (y1_1 : List (S26)) (AL1_1 : Option Addr) (CL1_1 : Nat) (x1_2 x1_12 : Int), carillonlaw08_TlvPuts.l1 k n_ y1_1 x1_2 x1_12 = some true ∧ St 119 [(1, .slice AL1_1 y1_1.length CL1_1), (2, .int .i64 x1_2), (12, .int .i64 x1_12)] a_ ∧ Below w.heap.size w wL1 ∧ y1_1.length ≤ CL1_1 ∧ Kd.C k26 w AL1_1 y1_1.length y1_1) k ⟨l1, A1, cp1, a2, 0, H, hS, hBw43_w, HC1, (HR1)⟩ ?_
  clear H hS
  rintro n1 aL1 wL1 ⟨y1_1, AL1_1, CL1_1, x1_2, x1_12, H, hS, hBwL1_w, hr1_1, hcL1_1⟩
  rcases n1 with _ | n1
  · exact absurd H (by simp [carillonlaw08_TlvPuts.l1])
  rw [carillonlaw08_TlvPuts.l1] at H
  (try dsimp only at H)
  by_cases c14 : x1_12 < (y1_1.length : Int)
  · rw [if_pos c14] at H
    by_cases c15 : 0 ≤ x1_12
    rotate_left
    · rw [if_neg c15] at H
      exact absurd H (by simp)
    rw [if_pos c15] at H
    obtain ⟨t1007, At1007, H⟩ := Option.bind_eq_some_iff.mp H
    obtain ⟨t1008, At1008, H⟩ := Option.bind_eq_some_iff.mp H
    by_cases c16 : (t1007 == t1008) = true
    rotate_left
    · rw [if_neg c16] at H
      exact absurd H (by simp)
    rw [if_pos c16] at H
    obtain ⟨t1009, At1009, H⟩ := Option.bind_eq_some_iff.mp H
    obtain ⟨t1010, At1010, H⟩ := Option.bind_eq_some_iff.mp H
    by_cases c17 : (t1009 == t1010) = true
    rotate_left
    · rw [if_neg c17] at H
      exact absurd H (by simp)
    rw [if_pos c17] at H
    have hBwL1_wL1 := Below.refl wL1.heap.size wL1
    refine wp_seq_k (fun K1001 hK1001 => ?_)
    refine wp_seq_k (fun K1002 hK1002 => ?_)
    refine reg_seq (N := 119) (bs := [(1, .slice AL1_1 y1_1.length CL1_1), (2, .int .i64 x1_2), (12, .int .i64 x1_12)]) (I := fun x => Below w.heap.size w x ∧ Below wL1.heap.size wL1 x) (ps := [VI x1_12, IsV (.slice AL1_1 y1_1.length CL1_1), VI (y1_1.length : Int), VB (decide (x1_12 < (y1_1.length : Int)))]) (by kernel_rfl) ?_ ?_ rfl hS ⟨hBwL1_w, hBwL1_wL1⟩ ?_ ?_
    · exact fun x y hI hb => ⟨below_step hI.1 hb, below_step hI.2 hb⟩
    · exact .v (.v (.v (.v (.nil))))
    · refine .ms 2 rfl rfl rfl ?_
      refine .ms 0 rfl rfl rfl ?_
      refine .on rfl (fun a w hS hI hp => does_val (x_len (e := 26) rfl (by kernel_rfl) (hp.V 1 rfl rfl)) rfl) ?_
      refine .on rfl (fun a w hS hI hp => does_val (x_bin rfl (hp.V 0 rfl rfl) (hp.V 2 rfl rfl) (b_lss _ _ _ _ _ _)) rfl) ?_
      exact .nil
    clear hS
    intro at1003 w1004 hS hI hp
    have hBw1004_w := hI.1
    have hBw1004_wL1 := hI.2
    have hv68 : sl _ 68 = .bool (decide (x1_12 < (y1_1.length : Int))) := hp 3 (by decide)
    have hBw1004_w1004 := Below.refl w1004.heap.size w1004
    have hS := hS.cons hv68
    clear hp hI hv68
    refine hK1002 _ _ ?_
    (try clear hK1002 K1002)
    refine wp_cond_true ((hS.get 0 rfl).trans (bT (decide_eq_true c14))) ?_
    refine wp_skip ?_
    refine hK1001 _ _ ?_
    (try clear hK1001 K1001)
    refine wp_seq_k (fun K1005 hK1005 => ?_)
    refine wp_block ?_
    refine wp_seq_k (fun K1006 hK1006 => ?_)
    refine reg_any (N := 119) (bs := [(68, .bool (decide (x1_12 < (y1_1.length : Int)))), (1, .slice AL1_1 y1_1.length CL1_1), (2, .int .i64 x1_2), (12, .int .i64 x1_12)]) (I := fun x => Below w.heap.size w x ∧ Below w1004.heap.size w1004 x) (ps := [IsV (.slice AL1_1 y1_1.length CL1_1), VI x1_12, IsAT [.int .i64 ((rd_T26 y1_1 x1_12).f0), .string ((rd_T26 y1_1 x1_12).f1)], IsV (.agg #[.int .i64 ((rd_T26 y1_1 x1_12).f0), .string ((rd_T26 y1_1 x1_12).f1)]), VB t1007, IsV (.slice AL1_1 y1_1.length CL1_1), VI x1_12, IsAT [.int .i64 ((rd_T26 y1_1 x1_12).f0), .string ((rd_T26 y1_1 x1_12).f1)], IsV (.agg #[.int .i64 ((rd_T26 y1_1 x1_12).f0), .string ((rd_T26 y1_1 x1_12).f1)]), VB t1008, VB (!(t1007 == t1008)), VB (!(t1007 == t1008)), IsV (.slice AL1_1 y1_1.length CL1_1), VI x1_12, IsAT [.int .i64 ((rd_T26 y1_1 x1_12).f0), .string ((rd_T26 y1_1 x1_12).f1)], IsV (.agg #[.int .i64 ((rd_T26 y1_1 x1_12).f0), .string ((rd_T26 y1_1 x1_12).f1)]), VB t1009, IsV (.slice AL1_1 y1_1.length CL1_1), VI x1_12, IsAT [.int .i64 ((rd_T26 y1_1 x1_12).f0), .string ((rd_T26 y1_1 x1_12).f1)], IsV (.agg #[.int .i64 ((rd_T26 y1_1 x1_12).f0), .string ((rd_T26 y1_1 x1_12).f1)]), VB t1010, VB (!(t1009 == t1010)), VB (!(t1009 == t1010))]) (by kernel_rfl) (by kernel_rfl) ?_ ?_ rfl hS ⟨hBw1004_w, hBw1004_w1004⟩ ?_ ?_
    · exact fun x y hI hb => ⟨below_step hI.1 hb, below_step hI.2 hb⟩
    · exact .v (.v (.cons (Stays.at_ _) (.v (.v (.v (.v (.cons (Stays.at_ _) (.v (.v (.v (.v (.v (.v (.cons (Stays.at_ _) (.v (.v (.v (.v (.cons (Stays.at_ _) (.v (.v (.v (.v (.nil))))))))))))))))))))))))
    · refine .ms 1 rfl rfl rfl ?_
      refine .ms 3 rfl rfl rfl ?_
      refine .on rfl (fun a w hS hI hp => does_indexT carillonlaw08_TlvPuts.flat26 (e := 26) (xs := y1_1) (i := x1_12) z26 rfl (hp.V 0 rfl rfl) (hp.V 1 rfl rfl) (by kernel_rfl) (by kernel_rfl) c15 c14 c14 (by decide) ((Kd.C_below hcL1_1 hI.1))) ?_
      refine .on rfl (fun a w hS hI hp => does_loadT (cs := [.int .i64 ((rd_T26 y1_1 x1_12).f0), .string ((rd_T26 y1_1 x1_12).f1)]) rfl (hp.V 2 rfl rfl) Try.underlying26 rfl (by kernel_rfl)) ?_
      refine .on rfl (fun a w hS hI hp => does_call (by kernel_rfl) (ar1 (hp.V 3 rfl rfl)) ((tlv_Check.calls ((rd_T26 y1_1 x1_12).f0) ((rd_T26 y1_1 x1_12).f1) t1007 _  At1007).mono fun _ _ h => ⟨_, h.1, h.2, rfl⟩)) ?_
      refine .ms 1 rfl rfl rfl ?_
      refine .ms 3 rfl rfl rfl ?_
      refine .on rfl (fun a w hS hI hp => does_indexT carillonlaw08_TlvPuts.flat26 (e := 26) (xs := y1_1) (i := x1_12) z26 rfl (hp.V 5 rfl rfl) (hp.V 6 rfl rfl) (by kernel_rfl) (by kernel_rfl) c15 c14 c14 (by decide) ((Kd.C_below hcL1_1 hI.1))) ?_
      refine .on rfl (fun a w hS hI hp => does_loadT (cs := [.int .i64 ((rd_T26 y1_1 x1_12).f0), .string ((rd_T26 y1_1 x1_12).f1)]) rfl (hp.V 7 rfl rfl) Try.underlying26 rfl (by kernel_rfl)) ?_
      refine .on rfl (fun a w hS hI hp => does_call (by kernel_rfl) (ar1 (hp.V 8 rfl rfl)) ((carillonref08_Check.calls ((rd_T26 y1_1 x1_12).f0) ((rd_T26 y1_1 x1_12).f1) t1008 _  At1008).mono fun _ _ h => ⟨_, h.1, h.2, rfl⟩)) ?_
      refine .on rfl (fun a w hS hI hp => does_val (x_bin rfl (hp.V 4 rfl rfl) (hp.V 9 rfl rfl) (b_neb _ _ _ _ _ (by kernel_rfl))) rfl) ?_
      refine .mv 10 rfl rfl rfl rfl ?_
      refine .oy 11 82 rfl rfl rfl rfl rfl ((congrArg (!·) c16)) (fun a w hS hI hp => does_val (x_move rfl (hS.get 1 rfl)) rfl) ?_
      refine .oy 11 82 rfl rfl rfl rfl rfl ((congrArg (!·) c16)) (fun a w hS hI hp => does_val (x_move rfl (hS.get 3 rfl)) rfl) ?_
      refine .oy 11 82 rfl rfl rfl rfl rfl ((congrArg (!·) c16)) (fun a w hS hI hp => does_indexT carillonlaw08_TlvPuts.flat26 (e := 26) (xs := y1_1) (i := x1_12) z26 rfl (hp.V 12 rfl rfl) (hp.V 13 rfl rfl) (by kernel_rfl) (by kernel_rfl) c15 c14 c14 (by decide) ((Kd.C_below hcL1_1 hI.1))) ?_
      refine .oy 11 82 rfl rfl rfl rfl rfl ((congrArg (!·) c16)) (fun a w hS hI hp => does_loadT (cs := [.int .i64 ((rd_T26 y1_1 x1_12).f0), .string ((rd_T26 y1_1 x1_12).f1)]) rfl (hp.V 14 rfl rfl) Try.underlying26 rfl (by kernel_rfl)) ?_
      refine .oy 11 82 rfl rfl rfl rfl rfl ((congrArg (!·) c16)) (fun a w hS hI hp => does_call (by kernel_rfl) (ar1 (hp.V 15 rfl rfl)) ((tlv_Known.calls ((rd_T26 y1_1 x1_12).f0) ((rd_T26 y1_1 x1_12).f1) t1009 _  At1009).mono fun _ _ h => ⟨_, h.1, h.2, rfl⟩)) ?_
      refine .oy 11 82 rfl rfl rfl rfl rfl ((congrArg (!·) c16)) (fun a w hS hI hp => does_val (x_move rfl (hS.get 1 rfl)) rfl) ?_
      refine .oy 11 82 rfl rfl rfl rfl rfl ((congrArg (!·) c16)) (fun a w hS hI hp => does_val (x_move rfl (hS.get 3 rfl)) rfl) ?_
      refine .oy 11 82 rfl rfl rfl rfl rfl ((congrArg (!·) c16)) (fun a w hS hI hp => does_indexT carillonlaw08_TlvPuts.flat26 (e := 26) (xs := y1_1) (i := x1_12) z26 rfl (hp.V 17 rfl rfl) (hp.V 18 rfl rfl) (by kernel_rfl) (by kernel_rfl) c15 c14 c14 (by decide) ((Kd.C_below hcL1_1 hI.1))) ?_
      refine .oy 11 82 rfl rfl rfl rfl rfl ((congrArg (!·) c16)) (fun a w hS hI hp => does_loadT (cs := [.int .i64 ((rd_T26 y1_1 x1_12).f0), .string ((rd_T26 y1_1 x1_12).f1)]) rfl (hp.V 19 rfl rfl) Try.underlying26 rfl (by kernel_rfl)) ?_
      refine .oy 11 82 rfl rfl rfl rfl rfl ((congrArg (!·) c16)) (fun a w hS hI hp => does_call (by kernel_rfl) (ar1 (hp.V 20 rfl rfl)) ((carillonref08_Known.calls ((rd_T26 y1_1 x1_12).f0) ((rd_T26 y1_1 x1_12).f1) t1010 _  At1010).mono fun _ _ h => ⟨_, h.1, h.2, rfl⟩)) ?_
      refine .oy 11 82 rfl rfl rfl rfl rfl ((congrArg (!·) c16)) (fun a w hS hI hp => does_val (x_bin rfl (hp.V 16 rfl rfl) (hp.V 21 rfl rfl) (b_neb _ _ _ _ _ (by kernel_rfl))) rfl) ?_
      refine .on rfl (fun a w hS hI hp => does_val (x_pickF rfl ((hp.V 11 rfl rfl).trans (bF (congrArg (!·) c16))) (hp.V 22 rfl rfl)) rfl) ?_
      exact .nil
    clear hS
    intro at1011 w1012 hS hI hp
    have hBw1012_w := hI.1
    have hBw1012_w1004 := hI.2
    replace hS := (((hS.nil).cons (hS.get 3 rfl)).cons (hS.get 2 rfl)).cons (hS.get 1 rfl)
    have hv94 : sl _ 94 = .bool (!(t1009 == t1010)) := hp 23 (by decide)
    have hBw1012_w1012 := Below.refl w1012.heap.size w1012
    have hS := hS.cons hv94
    clear hp hI hv94
    refine hK1006 _ _ ?_
    (try clear hK1006 K1006)
    refine wp_cond_false ((hS.get 0 rfl).trans (bF (congrArg (!·) c17))) ?_
    refine wp_skip ?_
    refine hK1005 _ _ ?_
    (try clear hK1005 K1005)
    refine reg_seq_tail 2 (N := 119) (bs := [(94, .bool (!(t1009 == t1010))), (1, .slice AL1_1 y1_1.length CL1_1), (2, .int .i64 x1_2), (12, .int .i64 x1_12)]) (I := fun x => Below w.heap.size w x ∧ Below w1012.heap.size w1012 x) (ps := [VI x1_12, VI (wrap64 (x1_12 + 1))]) (by kernel_rfl) ?_ ?_ rfl hS ⟨hBw1012_w, hBw1012_w1012⟩ ?_ ?_
    · exact fun x y hI hb => ⟨below_step hI.1 hb, below_step hI.2 hb⟩
    · exact .v (.v (.nil))
    · refine .ms 3 rfl rfl rfl ?_
      refine .on rfl (fun a w hS hI hp => does_val (x_bin rfl (hp.V 0 rfl rfl) (rfl) (b_add _ _ _ _ _)) rfl) ?_
      exact .nil
    clear hS
    intro at1013 w1014 hS hI hp
    have hBw1014_w := hI.1
    have hBw1014_w1012 := hI.2
    replace hS := (((hS.nil).cons (hS.get 3 rfl)).cons (hS.get 2 rfl)).cons (hS.get 1 rfl)
    have hv70 : sl _ 70 = .int .i64 (wrap64 (x1_12 + 1)) := hp 1 (by decide)
    have hBw1014_w1014 := Below.refl w1014.heap.size w1014
    have hS := hS.cons hv70
    clear hp hI hv70
    show wpList _ _ _ [_] _ _
    refine list_step rfl (R := fun v w' => Below _ _ w' ∧ (VI (wrap64 (x1_12 + 1))) v w') (does_val (x_assign rfl (hS.get 0 rfl)) rfl) ?_
    rintro vw1015 w1015 ⟨hb, he⟩
    have hBw1015_w := below_step hBw1014_w hb
    have hBw1015_w1014 := below_step hBw1014_w1014 hb
    have hBw1015_w1015 := Below.refl w1015.heap.size w1015
    obtain rfl : vw1015 = .int .i64 (wrap64 (x1_12 + 1)) := he
    replace hS := (((hS.nil).cons (hS.get 2 rfl)).cons (hS.get 1 rfl)).cons (hS.get 0 rfl)
    refine hS.next (v := .int .i64 (wrap64 (x1_12 + 1))) (d := 12) rfl (by decide) (by rfl) ?_
    clear hS
    intro at1016 hS
    refine wpList_nil ?_
    replace hS := (((hS.nil).cons (hS.get 0 rfl)).cons (hS.get 3 rfl)).cons (hS.get 2 rfl)
    (try simp only [Exit.then, Exit.inBlock])
    exact ⟨n1, Nat.lt_succ_self _, y1_1, AL1_1, CL1_1, x1_2, wrap64 (x1_12 + 1), H, hS, hBw1015_w, hr1_1, (hcL1_1)⟩
  rw [if_neg c14] at H
  obtain ⟨t1006, At1006, H⟩ := Option.bind_eq_some_iff.mp H
  obtain ⟨t1007, At1007, H⟩ := Option.bind_eq_some_iff.mp H
  obtain ⟨t1007_1, t1007_2, t1007_3⟩ := t1007
  (try dsimp only at H)
  obtain ⟨t1015, At1015, H⟩ := Option.bind_eq_some_iff.mp H
  obtain ⟨t1015_1, t1015_2, t1015_3⟩ := t1015
  (try dsimp only at H)
  by_cases c15 : ((t1007_1 == t1015_1) && (t1007_2.toList == t1015_2.toList)) = true
  rotate_left
  · rw [if_neg c15] at H
    exact absurd H (by simp)
  rw [if_pos c15] at H
  by_cases c16 : (t1007_3 == t1015_3) = true
  rotate_left
  · rw [if_neg c16] at H
    exact absurd H (by simp)
  rw [if_pos c16] at H
  obtain ⟨t1023, At1023, H⟩ := Option.bind_eq_some_iff.mp H
  have hret := Option.some.inj H
  clear H
  have hBwL1_wL1 := Below.refl wL1.heap.size wL1
  refine wp_seq_k (fun K1001 hK1001 => ?_)
  refine wp_seq_k (fun K1002 hK1002 => ?_)
  refine reg_seq (N := 119) (bs := [(1, .slice AL1_1 y1_1.length CL1_1), (2, .int .i64 x1_2), (12, .int .i64 x1_12)]) (I := fun x => Below w.heap.size w x ∧ Below wL1.heap.size wL1 x) (ps := [VI x1_12, IsV (.slice AL1_1 y1_1.length CL1_1), VI (y1_1.length : Int), VB (decide (x1_12 < (y1_1.length : Int)))]) (by kernel_rfl) ?_ ?_ rfl hS ⟨hBwL1_w, hBwL1_wL1⟩ ?_ ?_
  · exact fun x y hI hb => ⟨below_step hI.1 hb, below_step hI.2 hb⟩
  · exact .v (.v (.v (.v (.nil))))
  · refine .ms 2 rfl rfl rfl ?_
    refine .ms 0 rfl rfl rfl ?_
    refine .on rfl (fun a w hS hI hp => does_val (x_len (e := 26) rfl (by kernel_rfl) (hp.V 1 rfl rfl)) rfl) ?_
    refine .on rfl (fun a w hS hI hp => does_val (x_bin rfl (hp.V 0 rfl rfl) (hp.V 2 rfl rfl) (b_lss _ _ _ _ _ _)) rfl) ?_
    exact .nil
  clear hS
  intro at1003 w1004 hS hI hp
  have hBw1004_w := hI.1
  have hBw1004_wL1 := hI.2
  have hv68 : sl _ 68 = .bool (decide (x1_12 < (y1_1.length : Int))) := hp 3 (by decide)
  have hBw1004_w1004 := Below.refl w1004.heap.size w1004
  have hS := hS.cons hv68
  clear hp hI hv68
  refine hK1002 _ _ ?_
  (try clear hK1002 K1002)
  refine wp_cond_false ((hS.get 0 rfl).trans (bF (decide_eq_false c14))) ?_
  refine wp_exit ?_
  (try simp only [Exit.then, Exit.inBlock, reduceIte])
  refine hK40 _ _ ?_
  (try clear hK40 K40)
  refine wp_seq_k (fun K1005 hK1005 => ?_)
  refine reg_seq_tail 8 (N := 119) (bs := [(68, .bool (decide (x1_12 < (y1_1.length : Int)))), (1, .slice AL1_1 y1_1.length CL1_1), (2, .int .i64 x1_2), (12, .int .i64 x1_12)]) (I := fun x => Below w.heap.size w x ∧ Below w1004.heap.size w1004 x) (ps := [IsV (.slice AL1_1 y1_1.length CL1_1), IsR k26 26 w1004.heap.size t1006, VI x1_2, IsV (.tuple #[.agg #[.int .i64 t1007_1, .string t1007_2], .bool t1007_3]), IsV (.tuple #[.agg #[.int .i64 t1007_1, .string t1007_2], .bool t1007_3]), IsV (.agg #[.int .i64 t1007_1, .string t1007_2]), VB t1007_3, IsB #[.int .i64 0, .string (⟨#[]⟩ : ByteArray)] 26 w1004.heap.size]) (by kernel_rfl) ?_ ?_ rfl hS ⟨hBw1004_w, hBw1004_w1004⟩ ?_ ?_
  · exact fun x y hI hb => ⟨below_step hI.1 hb, below_step hI.2 hb⟩
  · exact .v (.cons (Stays.r _ _ _ _) (.v (.v (.v (.v (.v (.cons (Stays.b _ _ _) (.nil))))))))
  · refine .ms 1 rfl rfl rfl ?_
    refine .on rfl (fun a w hS hI hp => does_call (by kernel_rfl) (ar1 (hp.V 0 rfl rfl)) ((carillonlaw00_Tlvs.calls _ _ y1_1 t1006 _ (Kd.C_below hcL1_1 hI.1) hr1_1 At1006).mono fun _ _ h => h.elim fun v0 h => ⟨v0, h.1, h.2.2, Kd.R_lower h.2.1 hI.2.size⟩)) ?_
    refine .ms 2 rfl rfl rfl ?_
    refine .on rfl (fun a w hS hI hp => (IsC.of_r (hp.V 1 rfl rfl)).elim fun A_ h_ => h_.elim fun c_ h_ => h_.elim fun hv_ h_ => h_.elim fun hl_ hc_ => does_call (by kernel_rfl) (ar2 (hv_) (hp.V 2 rfl rfl)) ((tlv_Find.calls k _ _ t1006 x1_2 t1007_1 t1007_2 t1007_3 _ hc_ hl_ At1007).mono fun _ _ h => ⟨_, h.1, h.2, rfl⟩)) ?_
    refine .mv 3 rfl rfl rfl rfl ?_
    iterate 2 refine .on rfl (fun a w hS hI hp => does_val (x_extract rfl (hp.V 4 rfl rfl) rfl) rfl) ?_
    refine .on rfl (fun a w hS hI hp => does_var (x_alloc rfl (by kernel_rfl)) (hI.2).size) ?_
    exact .nil
  clear hS
  intro at1008 w1009 hS hI hp
  have hBw1009_w := hI.1
  have hBw1009_w1004 := hI.2
  replace hS := ((hS.nil).cons (hS.get 2 rfl)).cons (hS.get 1 rfl)
  have hv100 : sl _ 100 = .agg #[.int .i64 t1007_1, .string t1007_2] := hp 5 (by decide)
  have hv101 : sl _ 101 = .bool t1007_3 := hp 6 (by decide)
  obtain ⟨g1010, hv13, hgeg1010, hbxg1010⟩ := (show IsB _ 26 _ (sl _ 13) _ from hp 7 (by decide))
  have hBw1009_w1009 := Below.refl w1009.heap.size w1009
  have hS := hS.cons hv100
  have hS := hS.cons hv101
  have hS := hS.cons hv13
  clear hp hI hv100 hv101 hv13
  show wpList _ _ _ [_, _] _ _
  refine list_step rfl (does_storeAll (g := g1010) (cs := #[.int .i64 t1007_1, .string t1007_2]) rfl (hS.get 0 rfl) (hS.get 2 rfl) ((hBw1009_w1009.block g1010 (blk_lt hbxg1010)).trans hbxg1010) (by kernel_rfl) (by kernel_rfl) (by kernel_rfl)) ?_
  rintro vw1011 w1011 ⟨rfl, hbxw1011, hT⟩
  have hBw1011_w := hT.below hBw1009_w (Nat.le_trans (hBw1004_w).size hgeg1010) (hBw1009_w).size
  have hBw1011_w1004 := hT.below hBw1009_w1004 hgeg1010 (hBw1009_w1004).size
  have hBw1011_w1011 := Below.refl w1011.heap.size w1011
  clear hT
  refine list_step rfl (R := fun v w' => Below _ _ w' ∧ (VB t1007_3) v w') (does_val (x_assign rfl (hS.get 1 rfl)) rfl) ?_
  rintro vw1012 w1012 ⟨hb, he⟩
  have hBw1012_w := below_step hBw1011_w hb
  have hBw1012_w1004 := below_step hBw1011_w1004 hb
  have hBw1012_w1011 := below_step hBw1011_w1011 hb
  have hBw1012_w1012 := Below.refl w1012.heap.size w1012
  obtain rfl : vw1012 = .bool t1007_3 := he
  refine hS.next (v := .bool t1007_3) (d := 14) rfl (by decide) (by rfl) ?_
  clear hS
  intro at1013 hS
  refine wpList_nil ?_
  refine hK1005 _ _ ?_
  (try clear hK1005 K1005)
  refine wp_seq_k (fun K1014 hK1014 => ?_)
  refine reg_seq_tail 7 (N := 119) (bs := [(14, .bool t1007_3), (13, .pointer (some ⟨g1010, 0, none⟩)), (101, .bool t1007_3), (100, .agg #[.int .i64 t1007_1, .string t1007_2]), (1, .slice AL1_1 y1_1.length CL1_1), (2, .int .i64 x1_2)]) (I := fun x => Below w.heap.size w x ∧ Below w1004.heap.size w1004 x ∧ Below w1011.heap.size w1011 x ∧ Below w1012.heap.size w1012 x) (ps := [IsV (.slice AL1_1 y1_1.length CL1_1), VI x1_2, IsV (.tuple #[.agg #[.int .i64 t1015_1, .string t1015_2], .bool t1015_3]), IsV (.tuple #[.agg #[.int .i64 t1015_1, .string t1015_2], .bool t1015_3]), IsV (.agg #[.int .i64 t1015_1, .string t1015_2]), VB t1015_3, IsB #[.int .i64 0, .string (⟨#[]⟩ : ByteArray)] 26 w1012.heap.size]) (by kernel_rfl) ?_ ?_ rfl hS ⟨hBw1012_w, hBw1012_w1004, hBw1012_w1011, hBw1012_w1012⟩ ?_ ?_
  · exact fun x y hI hb => ⟨below_step hI.1 hb, below_step hI.2.1 hb, below_step hI.2.2.1 hb, below_step hI.2.2.2 hb⟩
  · exact .v (.v (.v (.v (.v (.v (.cons (Stays.b _ _ _) (.nil)))))))
  · refine .ms 4 rfl rfl rfl ?_
    refine .ms 5 rfl rfl rfl ?_
    refine .on rfl (fun a w hS hI hp => does_call (by kernel_rfl) (ar2 (hp.V 0 rfl rfl) (hp.V 1 rfl rfl)) ((carillonref08_Find.calls k _ _ y1_1 x1_2 t1015_1 t1015_2 t1015_3 _ (Kd.C_below hcL1_1 hI.1) hr1_1 At1015).mono fun _ _ h => ⟨_, h.1, h.2, rfl⟩)) ?_
    refine .mv 2 rfl rfl rfl rfl ?_
    iterate 2 refine .on rfl (fun a w hS hI hp => does_val (x_extract rfl (hp.V 3 rfl rfl) rfl) rfl) ?_
    refine .on rfl (fun a w hS hI hp => does_var (x_alloc rfl (by kernel_rfl)) (hI.2.2.2).size) ?_
    exact .nil
  clear hS
  intro at1016 w1017 hS hI hp
  have hBw1017_w := hI.1
  have hBw1017_w1004 := hI.2.1
  have hBw1017_w1011 := hI.2.2.1
  have hBw1017_w1012 := hI.2.2.2
  replace hS := ((hS.nil).cons (hS.get 1 rfl)).cons (hS.get 0 rfl)
  have hv106 : sl _ 106 = .agg #[.int .i64 t1015_1, .string t1015_2] := hp 4 (by decide)
  have hv107 : sl _ 107 = .bool t1015_3 := hp 5 (by decide)
  obtain ⟨g1018, hv15, hgeg1018, hbxg1018⟩ := (show IsB _ 26 _ (sl _ 15) _ from hp 6 (by decide))
  have hBw1017_w1017 := Below.refl w1017.heap.size w1017
  have hS := hS.cons hv106
  have hS := hS.cons hv107
  have hS := hS.cons hv15
  clear hp hI hv106 hv107 hv15
  show wpList _ _ _ [_, _] _ _
  refine list_step rfl (does_storeAll (g := g1018) (cs := #[.int .i64 t1015_1, .string t1015_2]) rfl (hS.get 0 rfl) (hS.get 2 rfl) ((hBw1017_w1017.block g1018 (blk_lt hbxg1018)).trans hbxg1018) (by kernel_rfl) (by kernel_rfl) (by kernel_rfl)) ?_
  rintro vw1019 w1019 ⟨rfl, hbxw1019, hT⟩
  have hBw1019_w := hT.below hBw1017_w (Nat.le_trans (hBw1012_w).size hgeg1018) (hBw1017_w).size
  have hBw1019_w1004 := hT.below hBw1017_w1004 (Nat.le_trans (hBw1012_w1004).size hgeg1018) (hBw1017_w1004).size
  have hBw1019_w1011 := hT.below hBw1017_w1011 (Nat.le_trans (hBw1012_w1011).size hgeg1018) (hBw1017_w1011).size
  have hBw1019_w1012 := hT.below hBw1017_w1012 hgeg1018 (hBw1017_w1012).size
  have hBw1019_w1019 := Below.refl w1019.heap.size w1019
  clear hT
  refine list_step rfl (R := fun v w' => Below _ _ w' ∧ (VB t1015_3) v w') (does_val (x_assign rfl (hS.get 1 rfl)) rfl) ?_
  rintro vw1020 w1020 ⟨hb, he⟩
  have hBw1020_w := below_step hBw1019_w hb
  have hBw1020_w1004 := below_step hBw1019_w1004 hb
  have hBw1020_w1011 := below_step hBw1019_w1011 hb
  have hBw1020_w1012 := below_step hBw1019_w1012 hb
  have hBw1020_w1019 := below_step hBw1019_w1019 hb
  have hBw1020_w1020 := Below.refl w1020.heap.size w1020
  obtain rfl : vw1020 = .bool t1015_3 := he
  refine hS.next (v := .bool t1015_3) (d := 16) rfl (by decide) (by rfl) ?_
  clear hS
  intro at1021 hS
  refine wpList_nil ?_
  refine hK1014 _ _ ?_
  (try clear hK1014 K1014)
  refine wp_seq_k (fun K1022 hK1022 => ?_)
  refine reg_seq (N := 119) (bs := [(16, .bool t1015_3), (15, .pointer (some ⟨g1018, 0, none⟩)), (107, .bool t1015_3), (106, .agg #[.int .i64 t1015_1, .string t1015_2]), (14, .bool t1007_3), (13, .pointer (some ⟨g1010, 0, none⟩))]) (I := fun x => Below w.heap.size w x ∧ Below w1004.heap.size w1004 x ∧ Below w1011.heap.size w1011 x ∧ Below w1012.heap.size w1012 x ∧ Below w1019.heap.size w1019 x ∧ Below w1020.heap.size w1020 x) (ps := [IsV (.agg #[.int .i64 t1007_1, .string t1007_2]), IsV (.agg #[.int .i64 t1015_1, .string t1015_2]), VB ((t1007_1 == t1015_1) && (t1007_2.toList == t1015_2.toList)), VB ((t1007_1 == t1015_1) && (t1007_2.toList == t1015_2.toList)), VB t1007_3, VB t1015_3, VB (t1007_3 == t1015_3), VB (t1007_3 == t1015_3), VB (t1007_3 == t1015_3), VB t1023, VB t1023, VB t1023]) (by kernel_rfl) ?_ ?_ rfl hS ⟨hBw1020_w, hBw1020_w1004, hBw1020_w1011, hBw1020_w1012, hBw1020_w1019, hBw1020_w1020⟩ ?_ ?_
  · exact fun x y hI hb => ⟨below_step hI.1 hb, below_step hI.2.1 hb, below_step hI.2.2.1 hb, below_step hI.2.2.2.1 hb, below_step hI.2.2.2.2.1 hb, below_step hI.2.2.2.2.2 hb⟩
  · exact .v (.v (.v (.v (.v (.v (.v (.v (.v (.v (.v (.v (.nil))))))))))))
  · refine .on rfl (fun a w hS hI hp => does_loadrow rfl (hS.get 5 rfl) (((hI.2.2.1).block g1010 (blk_lt hbxw1011)).trans hbxw1011) Try.underlying26 rfl (by kernel_rfl) rfl) ?_
    refine .on rfl (fun a w hS hI hp => does_loadrow rfl (hS.get 1 rfl) (((hI.2.2.2.2.1).block g1018 (blk_lt hbxw1019)).trans hbxw1019) Try.underlying26 rfl (by kernel_rfl) rfl) ?_
    refine .on rfl (fun a w hS hI hp => does_val (x_bin rfl (hp.V 0 rfl rfl) (hp.V 1 rfl rfl) (carillonlaw08_TlvPuts.eql26 _ _ _ t1007_1 t1007_2 t1015_1 t1015_2)) rfl) ?_
    refine .mv 2 rfl rfl rfl rfl ?_
    refine .oy 3 111 rfl rfl rfl rfl rfl c15 (fun a w hS hI hp => does_val (x_move rfl (hS.get 4 rfl)) rfl) ?_
    refine .oy 3 111 rfl rfl rfl rfl rfl c15 (fun a w hS hI hp => does_val (x_move rfl (hS.get 0 rfl)) rfl) ?_
    refine .oy 3 111 rfl rfl rfl rfl rfl c15 (fun a w hS hI hp => does_val (x_bin rfl (hp.V 4 rfl rfl) (hp.V 5 rfl rfl) (b_eqb _ _ _ _ _ (by kernel_rfl))) rfl) ?_
    refine .pt 3 6 rfl rfl rfl rfl c15 rfl rfl ?_
    refine .mv 7 rfl rfl rfl rfl ?_
    refine .oy 8 116 rfl rfl rfl rfl rfl c16 (fun a w hS hI hp => does_call (by kernel_rfl) rfl ((carillonlaw08_awake.calls k  t1023 _  At1023).mono fun _ _ h => ⟨_, h.1, h.2, rfl⟩)) ?_
    refine .pt 8 9 rfl rfl rfl rfl c16 rfl rfl ?_
    refine .asg 10 rfl rfl rfl rfl ?_
    exact .nil
  clear hS
  intro at1024 w1025 hS hI hp
  have hBw1025_w := hI.1
  have hBw1025_w1004 := hI.2.1
  have hBw1025_w1011 := hI.2.2.1
  have hBw1025_w1012 := hI.2.2.2.1
  have hBw1025_w1019 := hI.2.2.2.2.1
  have hBw1025_w1020 := hI.2.2.2.2.2
  replace hS := hS.nil
  have hv6 : sl _ 6 = .bool t1023 := hp 11 (by decide)
  have hBw1025_w1025 := Below.refl w1025.heap.size w1025
  have hS := hS.cons hv6
  clear hp hI hv6
  refine hK1022 _ _ ?_
  (try clear hK1022 K1022)
  refine wp_ret ?_
  (try simp only [Exit.then, Exit.inBlock, Exit.jump, Exit.noGoto])
  exact bodyPost_ret (v := .bool true) (by rw [results_tmp rfl]; exact congrArg (Result.ok · _) ((hS.get 0 rfl).trans (congrArg Value.bool hret))) hS.nodef ⟨rfl, hBw1025_w⟩
def carillonlaw08_TlvPuts.Pure : Prop := ∀ (l0 : List Int) (l1 : List (S26)) (a2 : Int), l0.length ≤ maxLen → l0.length * 1 ≤ 140737488351232 → (∀ x ∈ l0, (Lit.int .u8 x).wf = true) → l1.length ≤ maxLen → l1.length * 24 ≤ 140737488351232 → (∀ x ∈ l1, (Lit.int .i64 x.f0).wf = true ∧ x.f1.size ≤ 9223372036854775807) → (Lit.int .i64 a2).wf = true → ∃ k, carillonlaw08_TlvPuts.f k l0 l1 a2 = some true
theorem carillonlaw08_TlvPuts.walk (P : carillonlaw08_TlvPuts.Pure) (a0 : Option Addr) (len0 cap0 : Nat) (z0 : List Int) (a1 : Option Addr) (cap1 : Nat) (l1 : List (S26)) (a2 : Int) (w : World) (w0 : (a0 = none ∧ len0 = 0 ∧ cap0 = 0 ∧ z0 = []) ∨ ∃ x, a0 = some x ∧ len0 ≤ cap0 ∧ cap0 ≤ maxLen ∧ z0.length = cap0 ∧ (∀ i, i < z0.length → w.cell? (x.add i) = some (.int .u8 (z0.getD i 0))) ∧ ∀ n ∈ z0, (Lit.int .u8 n).wf = true) (y0 : len0 * 1 ≤ 140737488351232) (hr1 : Kd.C k26 w a1 l1.length l1) (hc1 : l1.length ≤ cap1) (hm1 : l1.length ≤ maxLen) (y1 : l1.length * 24 ≤ 140737488351232) (hw1 : (∀ x ∈ l1, (Lit.int .i64 x.f0).wf = true ∧ x.f1.size ≤ 9223372036854775807)) (w2 : (Lit.int .i64 a2).wf = true) :
    Calls Try.prog 4 #[.slice a0 len0 cap0, .slice a1 l1.length cap1, .int .i64 a2] w fun e w' => e = .returned (.bool true) ∧ Below w.heap.size w w' := by
  obtain ⟨l0, rfl, hr0, hm0, hw0, hc0⟩ := ReadsInt.ofRowC w0
  obtain ⟨k, h⟩ := P l0 l1 a2 hm0 y0 hw0 hm1 y1 hw1 w2
  refine (carillonlaw08_TlvPuts.calls k _ _ l0 a1 cap1 l1 a2 w (Kd.C_of_reads (d := (0 : Int)) (h1 := fun _ => rfl) hr0) hc0 hr1 hc1 h).mono ?_
  rintro e w' ⟨rfl, hd⟩
  exact ⟨rfl, hd⟩
/-! ### octets_none: function 49 -/
/-! ### octets_read: function 50 -/
/-! ### octets_Get: function 43 -/
end Go.Proofs.Ytgmiokocipmbaaa.P
