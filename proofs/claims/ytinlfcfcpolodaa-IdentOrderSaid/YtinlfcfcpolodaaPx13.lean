/- Functions and loops of the given program as Lean functions, and that the code comes to what they say: written by this session's own program; Lean checks it. -/
import Derived.Test.YtinlfcfcpolodaaPx0
import Derived.Test.YtinlfcfcpolodaaPx1
import Derived.Test.YtinlfcfcpolodaaPx3
import Derived.Test.YtinlfcfcpolodaaPx8
import Derived.Test.YtinlfcfcpolodaaPx10
namespace Go.Proofs.Ytinlfcfcpolodaa.P
open Go.RowKit Go.Proofs.YtinlfcfcpolodaaW.PrintWords Go.Proofs.YtinlfcfcpolodaaW.PrintLast Go.Proofs.YtinlfcfcpolodaaW.PrintMore
attribute [local go_sem] max2_int min2_int max_two min_two max_three min_three max_four min_four   -- for this text's walks alone
set_option linter.unusedVariables false
set_option linter.unusedSimpArgs false

attribute [local go_sem high] eqA31
/-! ### carillonlaw04_IdentOrder: function 8 -/
mutual
def carillonlaw04_IdentOrder.j0 : Nat → Int → Bool → Int → Int → Int → Int → Option (Bool)
  | 0, _, _, _, _, _, _ => none
  | k + 1, x7, x58, x295000, x295001, x296000, x296001 => if x58 = true then (some false) else ((ident_May.f x295000 x295001).bind fun t301 => (if t301 = true then ((ident_May.f x296000 x296001).bind fun t302 => (carillonlaw04_IdentOrder.j1 k x7 (!t302) x295000 x295001 x296000 x296001)) else (carillonlaw04_IdentOrder.j1 k x7 true x295000 x295001 x296000 x296001)))
def carillonlaw04_IdentOrder.j1 : Nat → Int → Bool → Int → Int → Int → Int → Option (Bool)
  | 0, _, _, _, _, _, _ => none
  | k + 1, x7, x66, x295000, x295001, x296000, x296001 => if x66 = true then ((carillonlaw04_awake.f k).bind fun t303 => (some t303)) else ((ident_Put.f ([] : List Int) x295000 x295001).bind fun t304 => ((ident_Put.f ([] : List Int) x296000 x296001).bind fun t307 => (if ((Op.bytesLess ((strOfNums t304).toList) ((strOfNums t307).toList)) == (decide (x7 < 0))) = true then (if (((strOfNums t304).toList == (strOfNums t307).toList) == (x7 == 0)) = true then ((carillonlaw04_awake.f k).bind fun t310 => (some t310)) else (some false)) else (some false))))
end
def carillonlaw04_IdentOrder.f (k : Nat) (a0_0 : Int) (a0_1 : Int) (a1_0 : Int) (a1_1 : Int) (a2_0 : Int) (a2_1 : Int) : Option (Bool) := (ident_Compare.f k a0_0 a0_1 a1_0 a1_1).bind fun t297 => ((ident_Compare.f k a1_0 a1_1 a2_0 a2_1).bind fun t298 => ((ident_Compare.f k a0_0 a0_1 a2_0 a2_1).bind fun t299 => ((ident_Compare.f k a1_0 a1_1 a0_0 a0_1).bind fun t300 => (if t297 = (wrap64 (-t300)) then (if ((t297 == 0) != (a0_0 == a1_0 && (a0_1 == a1_1))) = true then (carillonlaw04_IdentOrder.j0 k t297 true a0_0 a0_1 a1_0 a1_1) else (if t297 ≤ 0 then (if t298 ≤ 0 then (if t299 > 0 then (carillonlaw04_IdentOrder.j0 k t297 true a0_0 a0_1 a1_0 a1_1) else (if t297 < 0 then (carillonlaw04_IdentOrder.j0 k t297 (decide (t299 ≥ 0)) a0_0 a0_1 a1_0 a1_1) else (carillonlaw04_IdentOrder.j0 k t297 false a0_0 a0_1 a1_0 a1_1))) else (if t297 < 0 then (carillonlaw04_IdentOrder.j0 k t297 false a0_0 a0_1 a1_0 a1_1) else (carillonlaw04_IdentOrder.j0 k t297 false a0_0 a0_1 a1_0 a1_1))) else (if t297 < 0 then (if t298 ≤ 0 then (carillonlaw04_IdentOrder.j0 k t297 (decide (t299 ≥ 0)) a0_0 a0_1 a1_0 a1_1) else (carillonlaw04_IdentOrder.j0 k t297 false a0_0 a0_1 a1_0 a1_1)) else (carillonlaw04_IdentOrder.j0 k t297 false a0_0 a0_1 a1_0 a1_1)))) else (carillonlaw04_IdentOrder.j0 k t297 true a0_0 a0_1 a1_0 a1_1)))))
theorem carillonlaw04_IdentOrder.mono_l : ∀ k, (∀ y0 y1 y2 y3 y4 y5, LeO (carillonlaw04_IdentOrder.j0 k y0 y1 y2 y3 y4 y5) (carillonlaw04_IdentOrder.j0 (k + 1) y0 y1 y2 y3 y4 y5)) ∧ (∀ y0 y1 y2 y3 y4 y5, LeO (carillonlaw04_IdentOrder.j1 k y0 y1 y2 y3 y4 y5) (carillonlaw04_IdentOrder.j1 (k + 1) y0 y1 y2 y3 y4 y5))
  | 0 => ⟨fun _ _ _ _ _ _ r h => by simp [carillonlaw04_IdentOrder.j0] at h, fun _ _ _ _ _ _ r h => by simp [carillonlaw04_IdentOrder.j1] at h⟩
  | k + 1 => by
    obtain ⟨ih0, ih1⟩ := carillonlaw04_IdentOrder.mono_l k
    refine ⟨?_, ?_⟩
    · intro y0 y1 y2 y3 y4 y5
      unfold carillonlaw04_IdentOrder.j0
      repeat' first
      | (with_reducible exact ih0 _ _ _ _ _ _)
      | (with_reducible exact ih1 _ _ _ _ _ _)
      | (with_reducible exact carillonlaw04_awake.mono _)
      | (with_reducible exact ident_Compare.mono _ _ _ _ _)
      | (with_reducible exact LeO.refl _)
      | (with_reducible exact LeO.none _)
      | (with_reducible refine LeO.ite ?_ ?_)
      | (with_reducible refine LeO.bind ?_ (fun _ => ?_))
      | exact ih0 _ _ _ _ _ _
      | exact ih1 _ _ _ _ _ _
      | exact carillonlaw04_awake.mono _
      | exact ident_Compare.mono _ _ _ _ _
      | exact LeO.none _
      | refine LeO.ite ?_ ?_
      | refine LeO.bind ?_ (fun _ => ?_)
    · intro y0 y1 y2 y3 y4 y5
      unfold carillonlaw04_IdentOrder.j1
      repeat' first
      | (with_reducible exact ih0 _ _ _ _ _ _)
      | (with_reducible exact ih1 _ _ _ _ _ _)
      | (with_reducible exact carillonlaw04_awake.mono _)
      | (with_reducible exact ident_Compare.mono _ _ _ _ _)
      | (with_reducible exact LeO.refl _)
      | (with_reducible exact LeO.none _)
      | (with_reducible refine LeO.ite ?_ ?_)
      | (with_reducible refine LeO.bind ?_ (fun _ => ?_))
      | exact ih0 _ _ _ _ _ _
      | exact ih1 _ _ _ _ _ _
      | exact carillonlaw04_awake.mono _
      | exact ident_Compare.mono _ _ _ _ _
      | exact LeO.none _
      | refine LeO.ite ?_ ?_
      | refine LeO.bind ?_ (fun _ => ?_)
theorem carillonlaw04_IdentOrder.mono : ∀ a0 a1 a2 a3 a4 a5 k, LeO (carillonlaw04_IdentOrder.f k a0 a1 a2 a3 a4 a5) (carillonlaw04_IdentOrder.f (k + 1) a0 a1 a2 a3 a4 a5) := by
  intro a0 a1 a2 a3 a4 a5 k
  obtain ⟨ih0, ih1⟩ := carillonlaw04_IdentOrder.mono_l k
  unfold carillonlaw04_IdentOrder.f
  repeat' first
      | (with_reducible exact ih0 _ _ _ _ _ _)
      | (with_reducible exact ih1 _ _ _ _ _ _)
      | (with_reducible exact carillonlaw04_awake.mono _)
      | (with_reducible exact ident_Compare.mono _ _ _ _ _)
      | (with_reducible exact LeO.refl _)
      | (with_reducible exact LeO.none _)
      | (with_reducible refine LeO.ite ?_ ?_)
      | (with_reducible refine LeO.bind ?_ (fun _ => ?_))
      | exact ih0 _ _ _ _ _ _
      | exact ih1 _ _ _ _ _ _
      | exact carillonlaw04_awake.mono _
      | exact ident_Compare.mono _ _ _ _ _
      | exact LeO.none _
      | refine LeO.ite ?_ ?_
      | refine LeO.bind ?_ (fun _ => ?_)
def carillonlaw04_IdentOrder.T1 : Bool × List (List Nat × List Nat) := (true, [([], []), ([], []), ([0, 1], [0, 1]), ([], []), ([], []), ([3, 4, 2], [3, 4]), ([], []), ([], []), ([6, 7, 5], [6, 7]), ([2, 8, 0, 1, 2], [2]), ([5, 9, 0, 1, 2, 3, 4, 5, 9], [5]), ([8, 10, 0, 1, 2, 3, 4, 5, 6, 7, 8, 9, 10], [8])])
def carillonlaw04_IdentOrder.B1 : List Nat := [0, 0, 3, 0, 0, 31, 0, 0, 255, 511, 1023, 2047]
theorem carillonlaw04_IdentOrder.tab1 : rtab .any (opsOf Try.f8 1) = carillonlaw04_IdentOrder.T1 := by kernel_rfl
theorem carillonlaw04_IdentOrder.bits1 : waitsOk carillonlaw04_IdentOrder.T1.2 carillonlaw04_IdentOrder.B1 = true := by kernel_rfl
def carillonlaw04_IdentOrder.T6 : Bool × List (List Nat × List Nat) := (true, [([], []), ([0], [0]), ([1], [1]), ([], []), ([3, 1], [3]), ([4], [4]), ([2, 4, 0, 1, 2], [2]), ([5, 6, 0, 1, 2, 3, 4, 5, 6], [5])])
def carillonlaw04_IdentOrder.B6 : List Nat := [0, 1, 3, 0, 11, 27, 31, 127]
theorem carillonlaw04_IdentOrder.tab6 : rtab .any (opsOf Try.f8 6) = carillonlaw04_IdentOrder.T6 := by kernel_rfl
theorem carillonlaw04_IdentOrder.bits6 : waitsOk carillonlaw04_IdentOrder.T6.2 carillonlaw04_IdentOrder.B6 = true := by kernel_rfl
set_option maxHeartbeats 8000000 in
set_option maxRecDepth 100000 in
theorem carillonlaw04_IdentOrder.calls (k : Nat) (a0_0 : Int) (a0_1 : Int) (a1_0 : Int) (a1_1 : Int) (a2_0 : Int) (a2_1 : Int) (r : Bool) (w : World) (h : carillonlaw04_IdentOrder.f k a0_0 a0_1 a1_0 a1_1 a2_0 a2_1 = some r) :
    Calls Try.prog 8 #[.agg #[.int .u64 a0_0, .int .i64 a0_1], .agg #[.int .u64 a1_0, .int .i64 a1_1], .agg #[.int .u64 a2_0, .int .i64 a2_1]] w fun e w' => e = .returned (.bool r) ∧ Below w.heap.size w w' := by
  have hu31 := Try.underlying31
  have HB := Aside0.mk (Below.refl w.heap.size w)
  have H : ((ident_Compare.f k a0_0 a0_1 a1_0 a1_1).bind fun t297 => ((ident_Compare.f k a1_0 a1_1 a2_0 a2_1).bind fun t298 => ((ident_Compare.f k a0_0 a0_1 a2_0 a2_1).bind fun t299 => ((ident_Compare.f k a1_0 a1_1 a0_0 a0_1).bind fun t300 => (if t297 = (wrap64 (-t300)) then (if ((t297 == 0) != (a0_0 == a1_0 && (a0_1 == a1_1))) = true then (carillonlaw04_IdentOrder.j0 k t297 true a0_0 a0_1 a1_0 a1_1) else (if t297 ≤ 0 then (if t298 ≤ 0 then (if t299 > 0 then (carillonlaw04_IdentOrder.j0 k t297 true a0_0 a0_1 a1_0 a1_1) else (if t297 < 0 then (carillonlaw04_IdentOrder.j0 k t297 (decide (t299 ≥ 0)) a0_0 a0_1 a1_0 a1_1) else (carillonlaw04_IdentOrder.j0 k t297 false a0_0 a0_1 a1_0 a1_1))) else (if t297 < 0 then (carillonlaw04_IdentOrder.j0 k t297 false a0_0 a0_1 a1_0 a1_1) else (carillonlaw04_IdentOrder.j0 k t297 false a0_0 a0_1 a1_0 a1_1))) else (if t297 < 0 then (if t298 ≤ 0 then (carillonlaw04_IdentOrder.j0 k t297 (decide (t299 ≥ 0)) a0_0 a0_1 a1_0 a1_1) else (carillonlaw04_IdentOrder.j0 k t297 false a0_0 a0_1 a1_0 a1_1)) else (carillonlaw04_IdentOrder.j0 k t297 false a0_0 a0_1 a1_0 a1_1)))) else (carillonlaw04_IdentOrder.j0 k t297 true a0_0 a0_1 a1_0 a1_1)))))) = some r := h
  clear h
  replace H := Option.bind_eq_some_iff.mp H
  obtain ⟨t297, A40, H⟩ := H
  replace H : ((ident_Compare.f k a1_0 a1_1 a2_0 a2_1).bind fun t298 => ((ident_Compare.f k a0_0 a0_1 a2_0 a2_1).bind fun t299 => ((ident_Compare.f k a1_0 a1_1 a0_0 a0_1).bind fun t300 => (if t297 = (wrap64 (-t300)) then (if ((t297 == 0) != (a0_0 == a1_0 && (a0_1 == a1_1))) = true then (carillonlaw04_IdentOrder.j0 k t297 true a0_0 a0_1 a1_0 a1_1) else (if t297 ≤ 0 then (if t298 ≤ 0 then (if t299 > 0 then (carillonlaw04_IdentOrder.j0 k t297 true a0_0 a0_1 a1_0 a1_1) else (if t297 < 0 then (carillonlaw04_IdentOrder.j0 k t297 (decide (t299 ≥ 0)) a0_0 a0_1 a1_0 a1_1) else (carillonlaw04_IdentOrder.j0 k t297 false a0_0 a0_1 a1_0 a1_1))) else (if t297 < 0 then (carillonlaw04_IdentOrder.j0 k t297 false a0_0 a0_1 a1_0 a1_1) else (carillonlaw04_IdentOrder.j0 k t297 false a0_0 a0_1 a1_0 a1_1))) else (if t297 < 0 then (if t298 ≤ 0 then (carillonlaw04_IdentOrder.j0 k t297 (decide (t299 ≥ 0)) a0_0 a0_1 a1_0 a1_1) else (carillonlaw04_IdentOrder.j0 k t297 false a0_0 a0_1 a1_0 a1_1)) else (carillonlaw04_IdentOrder.j0 k t297 false a0_0 a0_1 a1_0 a1_1)))) else (carillonlaw04_IdentOrder.j0 k t297 true a0_0 a0_1 a1_0 a1_1))))) = some r := H
  have A4 := Aside0.mk A40
  clear A40
  replace H := Option.bind_eq_some_iff.mp H
  obtain ⟨t298, A50, H⟩ := H
  replace H : ((ident_Compare.f k a0_0 a0_1 a2_0 a2_1).bind fun t299 => ((ident_Compare.f k a1_0 a1_1 a0_0 a0_1).bind fun t300 => (if t297 = (wrap64 (-t300)) then (if ((t297 == 0) != (a0_0 == a1_0 && (a0_1 == a1_1))) = true then (carillonlaw04_IdentOrder.j0 k t297 true a0_0 a0_1 a1_0 a1_1) else (if t297 ≤ 0 then (if t298 ≤ 0 then (if t299 > 0 then (carillonlaw04_IdentOrder.j0 k t297 true a0_0 a0_1 a1_0 a1_1) else (if t297 < 0 then (carillonlaw04_IdentOrder.j0 k t297 (decide (t299 ≥ 0)) a0_0 a0_1 a1_0 a1_1) else (carillonlaw04_IdentOrder.j0 k t297 false a0_0 a0_1 a1_0 a1_1))) else (if t297 < 0 then (carillonlaw04_IdentOrder.j0 k t297 false a0_0 a0_1 a1_0 a1_1) else (carillonlaw04_IdentOrder.j0 k t297 false a0_0 a0_1 a1_0 a1_1))) else (if t297 < 0 then (if t298 ≤ 0 then (carillonlaw04_IdentOrder.j0 k t297 (decide (t299 ≥ 0)) a0_0 a0_1 a1_0 a1_1) else (carillonlaw04_IdentOrder.j0 k t297 false a0_0 a0_1 a1_0 a1_1)) else (carillonlaw04_IdentOrder.j0 k t297 false a0_0 a0_1 a1_0 a1_1)))) else (carillonlaw04_IdentOrder.j0 k t297 true a0_0 a0_1 a1_0 a1_1)))) = some r := H
  have A5 := Aside0.mk A50
  clear A50
  replace H := Option.bind_eq_some_iff.mp H
  obtain ⟨t299, A60, H⟩ := H
  replace H : ((ident_Compare.f k a1_0 a1_1 a0_0 a0_1).bind fun t300 => (if t297 = (wrap64 (-t300)) then (if ((t297 == 0) != (a0_0 == a1_0 && (a0_1 == a1_1))) = true then (carillonlaw04_IdentOrder.j0 k t297 true a0_0 a0_1 a1_0 a1_1) else (if t297 ≤ 0 then (if t298 ≤ 0 then (if t299 > 0 then (carillonlaw04_IdentOrder.j0 k t297 true a0_0 a0_1 a1_0 a1_1) else (if t297 < 0 then (carillonlaw04_IdentOrder.j0 k t297 (decide (t299 ≥ 0)) a0_0 a0_1 a1_0 a1_1) else (carillonlaw04_IdentOrder.j0 k t297 false a0_0 a0_1 a1_0 a1_1))) else (if t297 < 0 then (carillonlaw04_IdentOrder.j0 k t297 false a0_0 a0_1 a1_0 a1_1) else (carillonlaw04_IdentOrder.j0 k t297 false a0_0 a0_1 a1_0 a1_1))) else (if t297 < 0 then (if t298 ≤ 0 then (carillonlaw04_IdentOrder.j0 k t297 (decide (t299 ≥ 0)) a0_0 a0_1 a1_0 a1_1) else (carillonlaw04_IdentOrder.j0 k t297 false a0_0 a0_1 a1_0 a1_1)) else (carillonlaw04_IdentOrder.j0 k t297 false a0_0 a0_1 a1_0 a1_1)))) else (carillonlaw04_IdentOrder.j0 k t297 true a0_0 a0_1 a1_0 a1_1))) = some r := H
  have A6 := Aside0.mk A60
  clear A60
  have HC7 := Aside0.mk H
  clear H
  go_enter Try.func8, Try.ntmps8
  try go_wp2_with (first | ((with_reducible refine gate_dst (N := 3) rfl ?_); refine box_event ?hg (N := 3) ?hd (cs := #[.int .u64 a0_0, .int .i64 a0_1]) (t := 31) ?hr ?_; (case hd => rfl); (case hg => rfl); (case hr => first | (go_simp; done) | (go_simp; rfl)); intro gb294 hg w8 hbox hb; have n0_ := Aside0.mk (below_step (by repeat (first | (with_reducible first | exact HB.out | apply below_alloc | apply pw_below_drewN | apply below_drew1) | exact HB.out)) hb); have n1_ := Aside0.mk (hbox); have n2_ := Aside0.mk ((by rw [hg]; exact (below_size (by repeat (first | (with_reducible first | exact HB.out | apply below_alloc | apply pw_below_drewN | apply below_drew1) | exact HB.out))) : w.heap.size ≤ gb294)); have n3_ := Aside0.mk ((by rw [hg]; exact (below_size (by repeat (first | (with_reducible first | exact HB.out | apply below_alloc | apply pw_below_drewN | apply below_drew1) | exact HB.out))) : w.heap.size ≤ gb294)); clear HB; have HB := n0_; have BK294 := n1_; have GW294 := n2_; have GE294 := n3_; clear n0_ n1_ n2_ n3_; clear hb hbox hg) | ((with_reducible refine gate_dst (N := 4) rfl ?_); refine box_event ?hg (N := 4) ?hd (cs := #[.int .u64 a1_0, .int .i64 a1_1]) (t := 31) ?hr ?_; (case hd => rfl); (case hg => rfl); (case hr => first | (go_simp; done) | (go_simp; rfl)); intro gb295 hg w9 hbox hb; have n0_ := Aside0.mk (blk_below (g := gb294) (o := .cells #[.int .u64 a0_0, .int .i64 a0_1] 31 (0, 0)) (by (with_reducible repeat (first | refine blk_drewN ?_ _ | refine blk_drew ?_ | refine blk_alloc ?_ _)); exact BK294.out) hb); have n1_ := Aside0.mk (below_step (by repeat (first | (with_reducible first | exact HB.out | apply below_alloc | apply pw_below_drewN | apply below_drew1 | refine below_set ?_ GE294.out) | exact HB.out)) hb); have n2_ := Aside0.mk (hbox); have n3_ := Aside0.mk ((by rw [hg]; exact (below_size (by repeat (first | (with_reducible first | exact HB.out | apply below_alloc | apply pw_below_drewN | apply below_drew1 | refine below_set ?_ GE294.out) | exact HB.out))) : w.heap.size ≤ gb295)); have n4_ := Aside0.mk ((by rw [hg]; exact (below_size (by repeat (first | (with_reducible first | exact HB.out | apply below_alloc | apply pw_below_drewN | apply below_drew1 | refine below_set ?_ GE294.out) | exact HB.out))) : w.heap.size ≤ gb295)); have n5_ := Aside0.mk ((by rw [hg]; exact Nat.ne_of_lt (blk_lt (g := gb294) (o := .cells #[.int .u64 a0_0, .int .i64 a0_1] 31 (0, 0)) (by (with_reducible repeat (first | refine blk_drewN ?_ _ | refine blk_drew ?_ | refine blk_alloc ?_ _)); exact BK294.out)) : gb294 ≠ gb295)); have n6_ := Aside0.mk ((by rw [hg]; exact Nat.ne_of_gt (blk_lt (g := gb294) (o := .cells #[.int .u64 a0_0, .int .i64 a0_1] 31 (0, 0)) (by (with_reducible repeat (first | refine blk_drewN ?_ _ | refine blk_drew ?_ | refine blk_alloc ?_ _)); exact BK294.out)) : gb295 ≠ gb294)); clear BK294; clear HB; have BK294 := n0_; have HB := n1_; have BK295 := n2_; have GW295 := n3_; have GE295 := n4_; have NB294_295 := n5_; have NB295_294 := n6_; clear n0_ n1_ n2_ n3_ n4_ n5_ n6_; clear hb hbox hg) | ((with_reducible refine gate_dst (N := 5) rfl ?_); refine box_event ?hg (N := 5) ?hd (cs := #[.int .u64 a2_0, .int .i64 a2_1]) (t := 31) ?hr ?_; (case hd => rfl); (case hg => rfl); (case hr => first | (go_simp; done) | (go_simp; rfl)); intro gb296 hg w10 hbox hb; have n0_ := Aside0.mk (blk_below (g := gb294) (o := .cells #[.int .u64 a0_0, .int .i64 a0_1] 31 (0, 0)) (by (with_reducible repeat (first | refine blk_drewN ?_ _ | refine blk_drew ?_ | refine blk_alloc ?_ _)); exact BK294.out) hb); have n1_ := Aside0.mk (blk_below (g := gb295) (o := .cells #[.int .u64 a1_0, .int .i64 a1_1] 31 (0, 0)) (by (with_reducible repeat (first | refine blk_drewN ?_ _ | refine blk_drew ?_ | refine blk_alloc ?_ _)); exact BK295.out) hb); have n2_ := Aside0.mk (below_step (by repeat (first | (with_reducible first | exact HB.out | apply below_alloc | apply pw_below_drewN | apply below_drew1 | refine below_set ?_ GE294.out | refine below_set ?_ GE295.out) | exact HB.out)) hb); have n3_ := Aside0.mk (hbox); have n4_ := Aside0.mk ((by rw [hg]; exact (below_size (by repeat (first | (with_reducible first | exact HB.out | apply below_alloc | apply pw_below_drewN | apply below_drew1 | refine below_set ?_ GE294.out | refine below_set ?_ GE295.out) | exact HB.out))) : w.heap.size ≤ gb296)); have n5_ := Aside0.mk ((by rw [hg]; exact (below_size (by repeat (first | (with_reducible first | exact HB.out | apply below_alloc | apply pw_below_drewN | apply below_drew1 | refine below_set ?_ GE294.out | refine below_set ?_ GE295.out) | exact HB.out))) : w.heap.size ≤ gb296)); have n6_ := Aside0.mk ((by rw [hg]; exact Nat.ne_of_lt (blk_lt (g := gb294) (o := .cells #[.int .u64 a0_0, .int .i64 a0_1] 31 (0, 0)) (by (with_reducible repeat (first | refine blk_drewN ?_ _ | refine blk_drew ?_ | refine blk_alloc ?_ _)); exact BK294.out)) : gb294 ≠ gb296)); have n7_ := Aside0.mk ((by rw [hg]; exact Nat.ne_of_gt (blk_lt (g := gb294) (o := .cells #[.int .u64 a0_0, .int .i64 a0_1] 31 (0, 0)) (by (with_reducible repeat (first | refine blk_drewN ?_ _ | refine blk_drew ?_ | refine blk_alloc ?_ _)); exact BK294.out)) : gb296 ≠ gb294)); have n8_ := Aside0.mk ((by rw [hg]; exact Nat.ne_of_lt (blk_lt (g := gb295) (o := .cells #[.int .u64 a1_0, .int .i64 a1_1] 31 (0, 0)) (by (with_reducible repeat (first | refine blk_drewN ?_ _ | refine blk_drew ?_ | refine blk_alloc ?_ _)); exact BK295.out)) : gb295 ≠ gb296)); have n9_ := Aside0.mk ((by rw [hg]; exact Nat.ne_of_gt (blk_lt (g := gb295) (o := .cells #[.int .u64 a1_0, .int .i64 a1_1] 31 (0, 0)) (by (with_reducible repeat (first | refine blk_drewN ?_ _ | refine blk_drew ?_ | refine blk_alloc ?_ _)); exact BK295.out)) : gb296 ≠ gb295)); clear BK294; clear BK295; clear HB; have BK294 := n0_; have BK295 := n1_; have HB := n2_; have BK296 := n3_; have GW296 := n4_; have GE296 := n5_; have NB294_296 := n6_; have NB296_294 := n7_; have NB295_296 := n8_; have NB296_295 := n9_; clear n0_ n1_ n2_ n3_ n4_ n5_ n6_ n7_ n8_ n9_; clear hb hbox hg))
  have n0_ := Aside0.mk (blk_drew BK294.out)
  have n1_ := Aside0.mk (blk_drew BK295.out)
  have n2_ := Aside0.mk (blk_drew BK296.out)
  have n3_ := Aside0.mk (below_drew1 HB.out)
  clear BK294
  clear BK295
  clear BK296
  clear HB
  have BK294 := n0_
  have BK295 := n1_
  have BK296 := n2_
  have HB := n3_
  clear n0_ n1_ n2_ n3_
  refine start_ (n := 12) (S := fun w' => w'.cell? ⟨gb294, 0, none⟩ = some (.int .u64 a0_0) ∧ w'.cell? ⟨gb294, 1, none⟩ = some (.int .i64 a0_1) ∧ w'.cell? ⟨gb295, 0, none⟩ = some (.int .u64 a1_0) ∧ w'.cell? ⟨gb295, 1, none⟩ = some (.int .i64 a1_1) ∧ w'.cell? ⟨gb296, 0, none⟩ = some (.int .u64 a2_0) ∧ w'.cell? ⟨gb296, 1, none⟩ = some (.int .i64 a2_1)) (ds := []) #[false, false, false, false, false, false, false, false, false, false, false, false] (by kernel_rfl) rfl rfl ⟨(blk_cell BK294.out 0).trans rfl, (blk_cell BK294.out 1).trans rfl, (blk_cell BK295.out 0).trans rfl, (blk_cell BK295.out 1).trans rfl, (blk_cell BK296.out 0).trans rfl, (blk_cell BK296.out 1).trans rfl⟩ (fun hHeld => ?_); refine with_tabW carillonlaw04_IdentOrder.tab1 carillonlaw04_IdentOrder.bits1 (fun HT_ HW_ => ?_)
  generalize w10.drew = w11 at BK294 BK295 BK296 HB hHeld ⊢
  refine take_ (i := 0) (N := some 12) (v := ?_) (a' := ?_) #[true, false, false, false, false, false, false, false, false, false, false, false] rfl rfl (take_ofW HT_.out HW_.out (by kernel_rfl)) (fun _ _ _ h => h) (Or.inl ⟨by rfl, ?_⟩) hHeld ?_ ?_
  rotate_left
  · rintro w' ⟨s0, s1, s2, s3, s4, s5⟩
    go_simp
    with_reducible rfl
  rotate_left
  · simp only [Act.put, List.setIfInBounds_toArray, List.set_cons_zero, List.set_cons_succ, i64_w, i32_w]
    rfl
  refine take_ (i := 1) (N := some 13) (v := ?_) (a' := ?_) #[true, true, false, false, false, false, false, false, false, false, false, false] rfl rfl (take_ofW HT_.out HW_.out (by kernel_rfl)) (fun _ _ _ h => h) (Or.inl ⟨by rfl, ?_⟩) hHeld ?_ ?_
  rotate_left
  · rintro w' ⟨s0, s1, s2, s3, s4, s5⟩
    go_simp
    with_reducible rfl
  rotate_left
  · simp only [Act.put, List.setIfInBounds_toArray, List.set_cons_zero, List.set_cons_succ, i64_w, i32_w]
    rfl
  refine take_ (i := 3) (N := some 15) (v := ?_) (a' := ?_) #[true, true, false, true, false, false, false, false, false, false, false, false] rfl rfl (take_ofW HT_.out HW_.out (by kernel_rfl)) (fun _ _ _ h => h) (Or.inl ⟨by rfl, ?_⟩) hHeld ?_ ?_
  rotate_left
  · rintro w' ⟨s0, s1, s2, s3, s4, s5⟩
    go_simp
    with_reducible rfl
  rotate_left
  · simp only [Act.put, List.setIfInBounds_toArray, List.set_cons_zero, List.set_cons_succ, i64_w, i32_w]
    rfl
  refine take_ (i := 4) (N := some 16) (v := ?_) (a' := ?_) #[true, true, false, true, true, false, false, false, false, false, false, false] rfl rfl (take_ofW HT_.out HW_.out (by kernel_rfl)) (fun _ _ _ h => h) (Or.inl ⟨by rfl, ?_⟩) hHeld ?_ ?_
  rotate_left
  · rintro w' ⟨s0, s1, s2, s3, s4, s5⟩
    go_simp
    with_reducible rfl
  rotate_left
  · simp only [Act.put, List.setIfInBounds_toArray, List.set_cons_zero, List.set_cons_succ, i64_w, i32_w]
    rfl
  refine take_ (i := 6) (N := some 18) (v := ?_) (a' := ?_) #[true, true, false, true, true, false, true, false, false, false, false, false] rfl rfl (take_ofW HT_.out HW_.out (by kernel_rfl)) (fun _ _ _ h => h) (Or.inl ⟨by rfl, ?_⟩) hHeld ?_ ?_
  rotate_left
  · rintro w' ⟨s0, s1, s2, s3, s4, s5⟩
    go_simp
    with_reducible rfl
  rotate_left
  · simp only [Act.put, List.setIfInBounds_toArray, List.set_cons_zero, List.set_cons_succ, i64_w, i32_w]
    rfl
  refine take_ (i := 7) (N := some 19) (v := ?_) (a' := ?_) #[true, true, false, true, true, false, true, true, false, false, false, false] rfl rfl (take_ofW HT_.out HW_.out (by kernel_rfl)) (fun _ _ _ h => h) (Or.inl ⟨by rfl, ?_⟩) hHeld ?_ ?_
  rotate_left
  · rintro w' ⟨s0, s1, s2, s3, s4, s5⟩
    go_simp
    with_reducible rfl
  rotate_left
  · simp only [Act.put, List.setIfInBounds_toArray, List.set_cons_zero, List.set_cons_succ, i64_w, i32_w]
    rfl
  refine one_ (i := 2) (N := some 14) #[true, true, true, true, true, false, true, true, false, false, false, false] rfl rfl (one_of HT_.out (by kernel_rfl)) (by decide) (fun K hK => ?_)
  refine goes_ Try.func21 (by kernel_rfl) rfl #[.agg #[.int .u64 a0_0, .int .i64 a0_1], .agg #[.int .u64 a1_0, .int .i64 a1_1]] (by rfl) rfl rfl (by (try simp only [List.map_toArray, List.map_cons, List.map_nil]); first | done | rfl | (simp only [List.length_drop, List.length_take]; rfl)) ?_
  with_reducible refine (ident_Compare.calls k a0_0 a0_1 a1_0 a1_1 t297 _ A4.out).mono ?_
  rintro e w12 ⟨rfl, hb⟩
  refine ⟨_, rfl, ?_⟩
  have n0_ := Aside0.mk (blk_below (g := gb294) (o := .cells #[.int .u64 a0_0, .int .i64 a0_1] 31 (0, 0)) (by (with_reducible repeat (first | refine blk_drewN ?_ _ | refine blk_drew ?_ | refine blk_alloc ?_ _)); exact BK294.out) hb)
  have n1_ := Aside0.mk (blk_below (g := gb295) (o := .cells #[.int .u64 a1_0, .int .i64 a1_1] 31 (0, 0)) (by (with_reducible repeat (first | refine blk_drewN ?_ _ | refine blk_drew ?_ | refine blk_alloc ?_ _)); exact BK295.out) hb)
  have n2_ := Aside0.mk (blk_below (g := gb296) (o := .cells #[.int .u64 a2_0, .int .i64 a2_1] 31 (0, 0)) (by (with_reducible repeat (first | refine blk_drewN ?_ _ | refine blk_drew ?_ | refine blk_alloc ?_ _)); exact BK296.out) hb)
  have n3_ := Aside0.mk (below_step (by repeat (first | (with_reducible first | exact HB.out | apply below_alloc | apply pw_below_drewN | apply below_drew1 | refine below_set ?_ GE294.out | refine below_set ?_ GE295.out | refine below_set ?_ GE296.out) | exact HB.out)) hb)
  clear BK294
  clear BK295
  clear BK296
  clear HB
  have BK294 := n0_
  have BK295 := n1_
  have BK296 := n2_
  have HB := n3_
  clear n0_ n1_ n2_ n3_
  (try clear hb)
  (try clear hb2)
  (try clear hk)
  (try clear hi)
  refine hK.out _ _ ⟨(blk_cell BK294.out 0).trans rfl, (blk_cell BK294.out 1).trans rfl, (blk_cell BK295.out 0).trans rfl, (blk_cell BK295.out 1).trans rfl, (blk_cell BK296.out 0).trans rfl, (blk_cell BK296.out 1).trans rfl⟩ (fun hHeld => ?_)
  clear hK K
  refine norm_ (a' := ?_) ?_ ?_
  rotate_left
  · show Act.put _ (some 14) _ = _
    simp only [Act.put, List.setIfInBounds_toArray, List.set_cons_zero, List.set_cons_succ, i64_w, i32_w]
    rfl
  refine one_ (i := 5) (N := some 17) #[true, true, true, true, true, true, true, true, false, false, false, false] rfl rfl (one_of HT_.out (by kernel_rfl)) (by decide) (fun K hK => ?_)
  refine goes_ Try.func21 (by kernel_rfl) rfl #[.agg #[.int .u64 a1_0, .int .i64 a1_1], .agg #[.int .u64 a2_0, .int .i64 a2_1]] (by rfl) rfl rfl (by (try simp only [List.map_toArray, List.map_cons, List.map_nil]); first | done | rfl | (simp only [List.length_drop, List.length_take]; rfl)) ?_
  with_reducible refine (ident_Compare.calls k a1_0 a1_1 a2_0 a2_1 t298 _ A5.out).mono ?_
  rintro e w13 ⟨rfl, hb⟩
  refine ⟨_, rfl, ?_⟩
  have n0_ := Aside0.mk (blk_below (g := gb294) (o := .cells #[.int .u64 a0_0, .int .i64 a0_1] 31 (0, 0)) (by (with_reducible repeat (first | refine blk_drewN ?_ _ | refine blk_drew ?_ | refine blk_alloc ?_ _)); exact BK294.out) hb)
  have n1_ := Aside0.mk (blk_below (g := gb295) (o := .cells #[.int .u64 a1_0, .int .i64 a1_1] 31 (0, 0)) (by (with_reducible repeat (first | refine blk_drewN ?_ _ | refine blk_drew ?_ | refine blk_alloc ?_ _)); exact BK295.out) hb)
  have n2_ := Aside0.mk (blk_below (g := gb296) (o := .cells #[.int .u64 a2_0, .int .i64 a2_1] 31 (0, 0)) (by (with_reducible repeat (first | refine blk_drewN ?_ _ | refine blk_drew ?_ | refine blk_alloc ?_ _)); exact BK296.out) hb)
  have n3_ := Aside0.mk (below_step (by repeat (first | (with_reducible first | exact HB.out | apply below_alloc | apply pw_below_drewN | apply below_drew1 | refine below_set ?_ GE294.out | refine below_set ?_ GE295.out | refine below_set ?_ GE296.out) | exact HB.out)) hb)
  clear BK294
  clear BK295
  clear BK296
  clear HB
  have BK294 := n0_
  have BK295 := n1_
  have BK296 := n2_
  have HB := n3_
  clear n0_ n1_ n2_ n3_
  (try clear hb)
  (try clear hb2)
  (try clear hk)
  (try clear hi)
  refine hK.out _ _ ⟨(blk_cell BK294.out 0).trans rfl, (blk_cell BK294.out 1).trans rfl, (blk_cell BK295.out 0).trans rfl, (blk_cell BK295.out 1).trans rfl, (blk_cell BK296.out 0).trans rfl, (blk_cell BK296.out 1).trans rfl⟩ (fun hHeld => ?_)
  clear hK K
  refine norm_ (a' := ?_) ?_ ?_
  rotate_left
  · show Act.put _ (some 17) _ = _
    simp only [Act.put, List.setIfInBounds_toArray, List.set_cons_zero, List.set_cons_succ, i64_w, i32_w]
    rfl
  refine one_ (i := 8) (N := some 20) #[true, true, true, true, true, true, true, true, true, false, false, false] rfl rfl (one_of HT_.out (by kernel_rfl)) (by decide) (fun K hK => ?_)
  refine goes_ Try.func21 (by kernel_rfl) rfl #[.agg #[.int .u64 a0_0, .int .i64 a0_1], .agg #[.int .u64 a2_0, .int .i64 a2_1]] (by rfl) rfl rfl (by (try simp only [List.map_toArray, List.map_cons, List.map_nil]); first | done | rfl | (simp only [List.length_drop, List.length_take]; rfl)) ?_
  with_reducible refine (ident_Compare.calls k a0_0 a0_1 a2_0 a2_1 t299 _ A6.out).mono ?_
  rintro e w14 ⟨rfl, hb⟩
  refine ⟨_, rfl, ?_⟩
  have n0_ := Aside0.mk (blk_below (g := gb294) (o := .cells #[.int .u64 a0_0, .int .i64 a0_1] 31 (0, 0)) (by (with_reducible repeat (first | refine blk_drewN ?_ _ | refine blk_drew ?_ | refine blk_alloc ?_ _)); exact BK294.out) hb)
  have n1_ := Aside0.mk (blk_below (g := gb295) (o := .cells #[.int .u64 a1_0, .int .i64 a1_1] 31 (0, 0)) (by (with_reducible repeat (first | refine blk_drewN ?_ _ | refine blk_drew ?_ | refine blk_alloc ?_ _)); exact BK295.out) hb)
  have n2_ := Aside0.mk (blk_below (g := gb296) (o := .cells #[.int .u64 a2_0, .int .i64 a2_1] 31 (0, 0)) (by (with_reducible repeat (first | refine blk_drewN ?_ _ | refine blk_drew ?_ | refine blk_alloc ?_ _)); exact BK296.out) hb)
  have n3_ := Aside0.mk (below_step (by repeat (first | (with_reducible first | exact HB.out | apply below_alloc | apply pw_below_drewN | apply below_drew1 | refine below_set ?_ GE294.out | refine below_set ?_ GE295.out | refine below_set ?_ GE296.out) | exact HB.out)) hb)
  clear BK294
  clear BK295
  clear BK296
  clear HB
  have BK294 := n0_
  have BK295 := n1_
  have BK296 := n2_
  have HB := n3_
  clear n0_ n1_ n2_ n3_
  (try clear hb)
  (try clear hb2)
  (try clear hk)
  (try clear hi)
  refine hK.out _ _ ⟨(blk_cell BK294.out 0).trans rfl, (blk_cell BK294.out 1).trans rfl, (blk_cell BK295.out 0).trans rfl, (blk_cell BK295.out 1).trans rfl, (blk_cell BK296.out 0).trans rfl, (blk_cell BK296.out 1).trans rfl⟩ (fun hHeld => ?_)
  clear hK K
  refine norm_ (a' := ?_) ?_ ?_
  rotate_left
  · show Act.put _ (some 20) _ = _
    simp only [Act.put, List.setIfInBounds_toArray, List.set_cons_zero, List.set_cons_succ, i64_w, i32_w]
    rfl
  refine pure_ (i := 9) (N := some 7) (v := ?_) (a' := ?_) #[true, true, true, true, true, true, true, true, true, true, false, false] rfl rfl (any_of HT_.out (by kernel_rfl)) (fun _ _ _ h => h) (Or.inl ⟨by rfl, ?_⟩) ?_ ?_
  rotate_left
  · intro w'
    go_simp
    with_reducible rfl
  rotate_left
  · simp only [Act.put, List.setIfInBounds_toArray, List.set_cons_zero, List.set_cons_succ, i64_w, i32_w]
    rfl
  refine pure_ (i := 10) (N := some 8) (v := ?_) (a' := ?_) #[true, true, true, true, true, true, true, true, true, true, true, false] rfl rfl (any_of HT_.out (by kernel_rfl)) (fun _ _ _ h => h) (Or.inl ⟨by rfl, ?_⟩) ?_ ?_
  rotate_left
  · intro w'
    go_simp
    with_reducible rfl
  rotate_left
  · simp only [Act.put, List.setIfInBounds_toArray, List.set_cons_zero, List.set_cons_succ, i64_w, i32_w]
    rfl
  refine pure_ (i := 11) (N := some 9) (v := ?_) (a' := ?_) #[true, true, true, true, true, true, true, true, true, true, true, true] rfl rfl (any_of HT_.out (by kernel_rfl)) (fun _ _ _ h => h) (Or.inl ⟨by rfl, ?_⟩) ?_ ?_
  rotate_left
  · intro w'
    go_simp
    with_reducible rfl
  rotate_left
  · simp only [Act.put, List.setIfInBounds_toArray, List.set_cons_zero, List.set_cons_succ, i64_w, i32_w]
    rfl
  refine done_ (done_of HT_.out (by kernel_rfl)) ?_
  go_upto_region 2 with (fail)
  go_cut [58] (fun v58 wc => ∃ (kq : Nat) (x58_6 : Bool), v58 = .bool x58_6 ∧ Aside0 (carillonlaw04_IdentOrder.j0 kq t297 x58_6 a0_0 a0_1 a1_0 a1_1 = some r) ∧ Aside0 (kq ≤ k) ∧ Aside0 (wc.heap[gb294]? = some (.cells #[.int .u64 a0_0, .int .i64 a0_1] 31 (0, 0))) ∧ Aside0 (wc.heap[gb295]? = some (.cells #[.int .u64 a1_0, .int .i64 a1_1] 31 (0, 0))) ∧ Aside0 (wc.heap[gb296]? = some (.cells #[.int .u64 a2_0, .int .i64 a2_1] 31 (0, 0))) ∧ Aside0 (Below w.heap.size w wc))
  case first =>
    have H := HC7.out
    clear HC7
    replace H := Option.bind_eq_some_iff.mp H
    obtain ⟨t300, A150, H⟩ := H
    replace H : (if t297 = (wrap64 (-t300)) then (if ((t297 == 0) != (a0_0 == a1_0 && (a0_1 == a1_1))) = true then (carillonlaw04_IdentOrder.j0 k t297 true a0_0 a0_1 a1_0 a1_1) else (if t297 ≤ 0 then (if t298 ≤ 0 then (if t299 > 0 then (carillonlaw04_IdentOrder.j0 k t297 true a0_0 a0_1 a1_0 a1_1) else (if t297 < 0 then (carillonlaw04_IdentOrder.j0 k t297 (decide (t299 ≥ 0)) a0_0 a0_1 a1_0 a1_1) else (carillonlaw04_IdentOrder.j0 k t297 false a0_0 a0_1 a1_0 a1_1))) else (if t297 < 0 then (carillonlaw04_IdentOrder.j0 k t297 false a0_0 a0_1 a1_0 a1_1) else (carillonlaw04_IdentOrder.j0 k t297 false a0_0 a0_1 a1_0 a1_1))) else (if t297 < 0 then (if t298 ≤ 0 then (carillonlaw04_IdentOrder.j0 k t297 (decide (t299 ≥ 0)) a0_0 a0_1 a1_0 a1_1) else (carillonlaw04_IdentOrder.j0 k t297 false a0_0 a0_1 a1_0 a1_1)) else (carillonlaw04_IdentOrder.j0 k t297 false a0_0 a0_1 a1_0 a1_1)))) else (carillonlaw04_IdentOrder.j0 k t297 true a0_0 a0_1 a1_0 a1_1)) = some r := H
    have A15 := Aside0.mk A150
    clear A150
    by_cases c16 : t297 = (wrap64 (-t300))
    · rw [if_pos c16] at H
      have c16b0 : (t297 == (wrap64 (-t300))) = true := beq_iff_eq.mpr c16
      have c16b1 : (t297 != (wrap64 (-t300))) = false := bne_eq_false_iff_eq.mpr c16
      clear c16
      (first | rw [c16b0] | (simp only [i64_w, i32_w]; rw [c16b0]) | skip)
      by_cases c17 : ((t297 == 0) != (a0_0 == a1_0 && (a0_1 == a1_1))) = true
      · rw [if_pos c17] at H
        have c17b0 : ((t297 == 0) != (a0_0 == a1_0 && (a0_1 == a1_1))) = true := c17
        (try (have c17b1 : decide ((t297 == 0) = (a0_0 == a1_0 && (a0_1 == a1_1))) = false := by simpa using c17))
        (try (have c17b2 : ((t297 == 0) == (a0_0 == a1_0 && (a0_1 == a1_1))) = false := by simpa using c17))
        (try (have c17b3 : ¬ ((t297 == 0) = (a0_0 == a1_0 && (a0_1 == a1_1))) := by simpa using c17))
        clear c17
        have H' := Aside0.mk H
        clear H
        have hnb18 := NB295_294.out
        have hnc18 := NB294_295.out
        have hnb19 := NB295_296.out
        have hnc19 := NB296_295.out
        have hcz20_0 : w14.cell? ⟨gb295, 0, none⟩ = some (.int .u64 a1_0) := (blk_cell BK295.out 0).trans rfl
        have hcz20_1 : w14.cell? ⟨gb295, 1, none⟩ = some (.int .i64 a1_1) := (blk_cell BK295.out 1).trans rfl
        have hfz20_0 := blk_frozen BK295.out 0
        have hfz20_1 := blk_frozen BK295.out 1
        have hnb21 := NB294_296.out
        have hnc21 := NB296_294.out
        have hcz22_0 : w14.cell? ⟨gb294, 0, none⟩ = some (.int .u64 a0_0) := (blk_cell BK294.out 0).trans rfl
        have hcz22_1 : w14.cell? ⟨gb294, 1, none⟩ = some (.int .i64 a0_1) := (blk_cell BK294.out 1).trans rfl
        have hfz22_0 := blk_frozen BK294.out 0
        have hfz22_1 := blk_frozen BK294.out 1
        go_wp2_with (first | ((with_reducible refine gate_callee (f := 21) rfl ?_); refine goesL_ (some 24) rfl rfl Try.func21 (by kernel_rfl) rfl #[.agg #[.int .u64 a1_0, .int .i64 a1_1], .agg #[.int .u64 a0_0, .int .i64 a0_1]] rfl (by (try simp only [List.map_toArray, List.map_cons, List.map_nil]); first | done | rfl | (simp only [List.length_drop, List.length_take]; rfl)) ?_; (with_reducible refine (ident_Compare.calls k a1_0 a1_1 a0_0 a0_1 t300 _ A15.out).mono ?_); rintro e w23 ⟨rfl, hb⟩; refine ⟨_, rfl, ?_⟩; have n0_ := Aside0.mk (blk_below (g := gb294) (o := .cells #[.int .u64 a0_0, .int .i64 a0_1] 31 (0, 0)) (by (with_reducible repeat (first | refine blk_drewN ?_ _ | refine blk_drew ?_ | refine blk_alloc ?_ _)); exact BK294.out) hb); have n1_ := Aside0.mk (blk_below (g := gb295) (o := .cells #[.int .u64 a1_0, .int .i64 a1_1] 31 (0, 0)) (by (with_reducible repeat (first | refine blk_drewN ?_ _ | refine blk_drew ?_ | refine blk_alloc ?_ _)); exact BK295.out) hb); have n2_ := Aside0.mk (blk_below (g := gb296) (o := .cells #[.int .u64 a2_0, .int .i64 a2_1] 31 (0, 0)) (by (with_reducible repeat (first | refine blk_drewN ?_ _ | refine blk_drew ?_ | refine blk_alloc ?_ _)); exact BK296.out) hb); have n3_ := Aside0.mk (below_step (by repeat (first | (with_reducible first | exact HB.out | apply below_alloc | apply pw_below_drewN | apply below_drew1 | refine below_set ?_ GE294.out | refine below_set ?_ GE295.out | refine below_set ?_ GE296.out) | exact HB.out)) hb); clear BK294; clear BK295; clear BK296; clear HB; have BK294 := n0_; have BK295 := n1_; have BK296 := n2_; have HB := n3_; clear n0_ n1_ n2_ n3_; (try clear hb); (try clear hb2); (try clear hk); (try clear hi); have hcz24_0 : w23.cell? ⟨gb294, 0, none⟩ = some (.int .u64 a0_0) := (blk_cell BK294.out 0).trans rfl; have hcz24_1 : w23.cell? ⟨gb294, 1, none⟩ = some (.int .i64 a0_1) := (blk_cell BK294.out 1).trans rfl; have hfz24_0 := blk_frozen BK294.out 0; have hfz24_1 := blk_frozen BK294.out 1; have hcz25_0 : w23.cell? ⟨gb295, 0, none⟩ = some (.int .u64 a1_0) := (blk_cell BK295.out 0).trans rfl; have hcz25_1 : w23.cell? ⟨gb295, 1, none⟩ = some (.int .i64 a1_1) := (blk_cell BK295.out 1).trans rfl; have hfz25_0 := blk_frozen BK295.out 0; have hfz25_1 := blk_frozen BK295.out 1))
        go_meet
        case rel => exact ⟨_, (true), (by first | rfl | (simp; done) | (simp [*]; done)), H', ⟨by first | omega | exact Nat.le_refl _⟩, ⟨by (with_reducible repeat (first | refine blk_drewN ?_ _ | refine blk_drew ?_ | refine blk_alloc ?_ _)); exact BK294.out⟩, ⟨by (with_reducible repeat (first | refine blk_drewN ?_ _ | refine blk_drew ?_ | refine blk_alloc ?_ _)); exact BK295.out⟩, ⟨by (with_reducible repeat (first | refine blk_drewN ?_ _ | refine blk_drew ?_ | refine blk_alloc ?_ _)); exact BK296.out⟩, ⟨by repeat (first | (with_reducible first | exact HB.out | apply below_alloc | apply pw_below_drewN | apply below_drew1 | refine below_set ?_ GE294.out | refine below_set ?_ GE295.out | refine below_set ?_ GE296.out) | exact HB.out)⟩⟩
      · rw [if_neg c17] at H
        have c17b0 : ((t297 == 0) != (a0_0 == a1_0 && (a0_1 == a1_1))) = false := by simpa using c17
        (try (have c17b1 : decide ((t297 == 0) = (a0_0 == a1_0 && (a0_1 == a1_1))) = true := by simpa using c17))
        (try (have c17b2 : ((t297 == 0) == (a0_0 == a1_0 && (a0_1 == a1_1))) = true := by simpa using c17))
        clear c17
        by_cases c26 : t297 ≤ 0
        · rw [if_pos c26] at H
          have c26b0 : decide (t297 ≤ 0) = true := decide_eq_true c26
          clear c26
          by_cases c27 : t298 ≤ 0
          · rw [if_pos c27] at H
            have c27b0 : decide (t298 ≤ 0) = true := decide_eq_true c27
            clear c27
            by_cases c28 : t299 > 0
            · rw [if_pos c28] at H
              have c28b0 : decide (0 < t299) = true := decide_eq_true c28
              clear c28
              have H' := Aside0.mk H
              clear H
              have hnb29 := NB295_294.out
              have hnc29 := NB294_295.out
              have hnb30 := NB295_296.out
              have hnc30 := NB296_295.out
              have hcz31_0 : w14.cell? ⟨gb295, 0, none⟩ = some (.int .u64 a1_0) := (blk_cell BK295.out 0).trans rfl
              have hcz31_1 : w14.cell? ⟨gb295, 1, none⟩ = some (.int .i64 a1_1) := (blk_cell BK295.out 1).trans rfl
              have hfz31_0 := blk_frozen BK295.out 0
              have hfz31_1 := blk_frozen BK295.out 1
              have hnb32 := NB294_296.out
              have hnc32 := NB296_294.out
              have hcz33_0 : w14.cell? ⟨gb294, 0, none⟩ = some (.int .u64 a0_0) := (blk_cell BK294.out 0).trans rfl
              have hcz33_1 : w14.cell? ⟨gb294, 1, none⟩ = some (.int .i64 a0_1) := (blk_cell BK294.out 1).trans rfl
              have hfz33_0 := blk_frozen BK294.out 0
              have hfz33_1 := blk_frozen BK294.out 1
              go_wp2_with (first | ((with_reducible refine gate_callee (f := 21) rfl ?_); refine goesL_ (some 24) rfl rfl Try.func21 (by kernel_rfl) rfl #[.agg #[.int .u64 a1_0, .int .i64 a1_1], .agg #[.int .u64 a0_0, .int .i64 a0_1]] rfl (by (try simp only [List.map_toArray, List.map_cons, List.map_nil]); first | done | rfl | (simp only [List.length_drop, List.length_take]; rfl)) ?_; (with_reducible refine (ident_Compare.calls k a1_0 a1_1 a0_0 a0_1 t300 _ A15.out).mono ?_); rintro e w34 ⟨rfl, hb⟩; refine ⟨_, rfl, ?_⟩; have n0_ := Aside0.mk (blk_below (g := gb294) (o := .cells #[.int .u64 a0_0, .int .i64 a0_1] 31 (0, 0)) (by (with_reducible repeat (first | refine blk_drewN ?_ _ | refine blk_drew ?_ | refine blk_alloc ?_ _)); exact BK294.out) hb); have n1_ := Aside0.mk (blk_below (g := gb295) (o := .cells #[.int .u64 a1_0, .int .i64 a1_1] 31 (0, 0)) (by (with_reducible repeat (first | refine blk_drewN ?_ _ | refine blk_drew ?_ | refine blk_alloc ?_ _)); exact BK295.out) hb); have n2_ := Aside0.mk (blk_below (g := gb296) (o := .cells #[.int .u64 a2_0, .int .i64 a2_1] 31 (0, 0)) (by (with_reducible repeat (first | refine blk_drewN ?_ _ | refine blk_drew ?_ | refine blk_alloc ?_ _)); exact BK296.out) hb); have n3_ := Aside0.mk (below_step (by repeat (first | (with_reducible first | exact HB.out | apply below_alloc | apply pw_below_drewN | apply below_drew1 | refine below_set ?_ GE294.out | refine below_set ?_ GE295.out | refine below_set ?_ GE296.out) | exact HB.out)) hb); clear BK294; clear BK295; clear BK296; clear HB; have BK294 := n0_; have BK295 := n1_; have BK296 := n2_; have HB := n3_; clear n0_ n1_ n2_ n3_; (try clear hb); (try clear hb2); (try clear hk); (try clear hi); have hcz35_0 : w34.cell? ⟨gb294, 0, none⟩ = some (.int .u64 a0_0) := (blk_cell BK294.out 0).trans rfl; have hcz35_1 : w34.cell? ⟨gb294, 1, none⟩ = some (.int .i64 a0_1) := (blk_cell BK294.out 1).trans rfl; have hfz35_0 := blk_frozen BK294.out 0; have hfz35_1 := blk_frozen BK294.out 1; have hcz36_0 : w34.cell? ⟨gb295, 0, none⟩ = some (.int .u64 a1_0) := (blk_cell BK295.out 0).trans rfl; have hcz36_1 : w34.cell? ⟨gb295, 1, none⟩ = some (.int .i64 a1_1) := (blk_cell BK295.out 1).trans rfl; have hfz36_0 := blk_frozen BK295.out 0; have hfz36_1 := blk_frozen BK295.out 1))
              go_meet
              case rel => exact ⟨_, (true), (by first | rfl | (simp; done) | (simp [*]; done)), H', ⟨by first | omega | exact Nat.le_refl _⟩, ⟨by (with_reducible repeat (first | refine blk_drewN ?_ _ | refine blk_drew ?_ | refine blk_alloc ?_ _)); exact BK294.out⟩, ⟨by (with_reducible repeat (first | refine blk_drewN ?_ _ | refine blk_drew ?_ | refine blk_alloc ?_ _)); exact BK295.out⟩, ⟨by (with_reducible repeat (first | refine blk_drewN ?_ _ | refine blk_drew ?_ | refine blk_alloc ?_ _)); exact BK296.out⟩, ⟨by repeat (first | (with_reducible first | exact HB.out | apply below_alloc | apply pw_below_drewN | apply below_drew1 | refine below_set ?_ GE294.out | refine below_set ?_ GE295.out | refine below_set ?_ GE296.out) | exact HB.out)⟩⟩
            · rw [if_neg c28] at H
              have c28b0 : decide (0 < t299) = false := decide_eq_false c28
              clear c28
              by_cases c37 : t297 < 0
              · rw [if_pos c37] at H
                have c37b0 : decide (t297 < 0) = true := decide_eq_true c37
                clear c37
                have H' := Aside0.mk H
                clear H
                have hnb38 := NB295_294.out
                have hnc38 := NB294_295.out
                have hnb39 := NB295_296.out
                have hnc39 := NB296_295.out
                have hcz40_0 : w14.cell? ⟨gb295, 0, none⟩ = some (.int .u64 a1_0) := (blk_cell BK295.out 0).trans rfl
                have hcz40_1 : w14.cell? ⟨gb295, 1, none⟩ = some (.int .i64 a1_1) := (blk_cell BK295.out 1).trans rfl
                have hfz40_0 := blk_frozen BK295.out 0
                have hfz40_1 := blk_frozen BK295.out 1
                have hnb41 := NB294_296.out
                have hnc41 := NB296_294.out
                have hcz42_0 : w14.cell? ⟨gb294, 0, none⟩ = some (.int .u64 a0_0) := (blk_cell BK294.out 0).trans rfl
                have hcz42_1 : w14.cell? ⟨gb294, 1, none⟩ = some (.int .i64 a0_1) := (blk_cell BK294.out 1).trans rfl
                have hfz42_0 := blk_frozen BK294.out 0
                have hfz42_1 := blk_frozen BK294.out 1
                go_wp2_with (first | ((with_reducible refine gate_callee (f := 21) rfl ?_); refine goesL_ (some 24) rfl rfl Try.func21 (by kernel_rfl) rfl #[.agg #[.int .u64 a1_0, .int .i64 a1_1], .agg #[.int .u64 a0_0, .int .i64 a0_1]] rfl (by (try simp only [List.map_toArray, List.map_cons, List.map_nil]); first | done | rfl | (simp only [List.length_drop, List.length_take]; rfl)) ?_; (with_reducible refine (ident_Compare.calls k a1_0 a1_1 a0_0 a0_1 t300 _ A15.out).mono ?_); rintro e w43 ⟨rfl, hb⟩; refine ⟨_, rfl, ?_⟩; have n0_ := Aside0.mk (blk_below (g := gb294) (o := .cells #[.int .u64 a0_0, .int .i64 a0_1] 31 (0, 0)) (by (with_reducible repeat (first | refine blk_drewN ?_ _ | refine blk_drew ?_ | refine blk_alloc ?_ _)); exact BK294.out) hb); have n1_ := Aside0.mk (blk_below (g := gb295) (o := .cells #[.int .u64 a1_0, .int .i64 a1_1] 31 (0, 0)) (by (with_reducible repeat (first | refine blk_drewN ?_ _ | refine blk_drew ?_ | refine blk_alloc ?_ _)); exact BK295.out) hb); have n2_ := Aside0.mk (blk_below (g := gb296) (o := .cells #[.int .u64 a2_0, .int .i64 a2_1] 31 (0, 0)) (by (with_reducible repeat (first | refine blk_drewN ?_ _ | refine blk_drew ?_ | refine blk_alloc ?_ _)); exact BK296.out) hb); have n3_ := Aside0.mk (below_step (by repeat (first | (with_reducible first | exact HB.out | apply below_alloc | apply pw_below_drewN | apply below_drew1 | refine below_set ?_ GE294.out | refine below_set ?_ GE295.out | refine below_set ?_ GE296.out) | exact HB.out)) hb); clear BK294; clear BK295; clear BK296; clear HB; have BK294 := n0_; have BK295 := n1_; have BK296 := n2_; have HB := n3_; clear n0_ n1_ n2_ n3_; (try clear hb); (try clear hb2); (try clear hk); (try clear hi); have hcz44_0 : w43.cell? ⟨gb294, 0, none⟩ = some (.int .u64 a0_0) := (blk_cell BK294.out 0).trans rfl; have hcz44_1 : w43.cell? ⟨gb294, 1, none⟩ = some (.int .i64 a0_1) := (blk_cell BK294.out 1).trans rfl; have hfz44_0 := blk_frozen BK294.out 0; have hfz44_1 := blk_frozen BK294.out 1; have hcz45_0 : w43.cell? ⟨gb295, 0, none⟩ = some (.int .u64 a1_0) := (blk_cell BK295.out 0).trans rfl; have hcz45_1 : w43.cell? ⟨gb295, 1, none⟩ = some (.int .i64 a1_1) := (blk_cell BK295.out 1).trans rfl; have hfz45_0 := blk_frozen BK295.out 0; have hfz45_1 := blk_frozen BK295.out 1))
                go_meet
                case rel => exact ⟨_, (decide (t299 ≥ 0)), (by first | rfl | (simp; done) | (simp [*]; done)), H', ⟨by first | omega | exact Nat.le_refl _⟩, ⟨by (with_reducible repeat (first | refine blk_drewN ?_ _ | refine blk_drew ?_ | refine blk_alloc ?_ _)); exact BK294.out⟩, ⟨by (with_reducible repeat (first | refine blk_drewN ?_ _ | refine blk_drew ?_ | refine blk_alloc ?_ _)); exact BK295.out⟩, ⟨by (with_reducible repeat (first | refine blk_drewN ?_ _ | refine blk_drew ?_ | refine blk_alloc ?_ _)); exact BK296.out⟩, ⟨by repeat (first | (with_reducible first | exact HB.out | apply below_alloc | apply pw_below_drewN | apply below_drew1 | refine below_set ?_ GE294.out | refine below_set ?_ GE295.out | refine below_set ?_ GE296.out) | exact HB.out)⟩⟩
              · rw [if_neg c37] at H
                have c37b0 : decide (t297 < 0) = false := decide_eq_false c37
                clear c37
                have H' := Aside0.mk H
                clear H
                have hnb46 := NB295_294.out
                have hnc46 := NB294_295.out
                have hnb47 := NB295_296.out
                have hnc47 := NB296_295.out
                have hcz48_0 : w14.cell? ⟨gb295, 0, none⟩ = some (.int .u64 a1_0) := (blk_cell BK295.out 0).trans rfl
                have hcz48_1 : w14.cell? ⟨gb295, 1, none⟩ = some (.int .i64 a1_1) := (blk_cell BK295.out 1).trans rfl
                have hfz48_0 := blk_frozen BK295.out 0
                have hfz48_1 := blk_frozen BK295.out 1
                have hnb49 := NB294_296.out
                have hnc49 := NB296_294.out
                have hcz50_0 : w14.cell? ⟨gb294, 0, none⟩ = some (.int .u64 a0_0) := (blk_cell BK294.out 0).trans rfl
                have hcz50_1 : w14.cell? ⟨gb294, 1, none⟩ = some (.int .i64 a0_1) := (blk_cell BK294.out 1).trans rfl
                have hfz50_0 := blk_frozen BK294.out 0
                have hfz50_1 := blk_frozen BK294.out 1
                go_wp2_with (first | ((with_reducible refine gate_callee (f := 21) rfl ?_); refine goesL_ (some 24) rfl rfl Try.func21 (by kernel_rfl) rfl #[.agg #[.int .u64 a1_0, .int .i64 a1_1], .agg #[.int .u64 a0_0, .int .i64 a0_1]] rfl (by (try simp only [List.map_toArray, List.map_cons, List.map_nil]); first | done | rfl | (simp only [List.length_drop, List.length_take]; rfl)) ?_; (with_reducible refine (ident_Compare.calls k a1_0 a1_1 a0_0 a0_1 t300 _ A15.out).mono ?_); rintro e w51 ⟨rfl, hb⟩; refine ⟨_, rfl, ?_⟩; have n0_ := Aside0.mk (blk_below (g := gb294) (o := .cells #[.int .u64 a0_0, .int .i64 a0_1] 31 (0, 0)) (by (with_reducible repeat (first | refine blk_drewN ?_ _ | refine blk_drew ?_ | refine blk_alloc ?_ _)); exact BK294.out) hb); have n1_ := Aside0.mk (blk_below (g := gb295) (o := .cells #[.int .u64 a1_0, .int .i64 a1_1] 31 (0, 0)) (by (with_reducible repeat (first | refine blk_drewN ?_ _ | refine blk_drew ?_ | refine blk_alloc ?_ _)); exact BK295.out) hb); have n2_ := Aside0.mk (blk_below (g := gb296) (o := .cells #[.int .u64 a2_0, .int .i64 a2_1] 31 (0, 0)) (by (with_reducible repeat (first | refine blk_drewN ?_ _ | refine blk_drew ?_ | refine blk_alloc ?_ _)); exact BK296.out) hb); have n3_ := Aside0.mk (below_step (by repeat (first | (with_reducible first | exact HB.out | apply below_alloc | apply pw_below_drewN | apply below_drew1 | refine below_set ?_ GE294.out | refine below_set ?_ GE295.out | refine below_set ?_ GE296.out) | exact HB.out)) hb); clear BK294; clear BK295; clear BK296; clear HB; have BK294 := n0_; have BK295 := n1_; have BK296 := n2_; have HB := n3_; clear n0_ n1_ n2_ n3_; (try clear hb); (try clear hb2); (try clear hk); (try clear hi); have hcz52_0 : w51.cell? ⟨gb294, 0, none⟩ = some (.int .u64 a0_0) := (blk_cell BK294.out 0).trans rfl; have hcz52_1 : w51.cell? ⟨gb294, 1, none⟩ = some (.int .i64 a0_1) := (blk_cell BK294.out 1).trans rfl; have hfz52_0 := blk_frozen BK294.out 0; have hfz52_1 := blk_frozen BK294.out 1; have hcz53_0 : w51.cell? ⟨gb295, 0, none⟩ = some (.int .u64 a1_0) := (blk_cell BK295.out 0).trans rfl; have hcz53_1 : w51.cell? ⟨gb295, 1, none⟩ = some (.int .i64 a1_1) := (blk_cell BK295.out 1).trans rfl; have hfz53_0 := blk_frozen BK295.out 0; have hfz53_1 := blk_frozen BK295.out 1))
                go_meet
                case rel => exact ⟨_, (false), (by first | rfl | (simp; done) | (simp [*]; done)), H', ⟨by first | omega | exact Nat.le_refl _⟩, ⟨by (with_reducible repeat (first | refine blk_drewN ?_ _ | refine blk_drew ?_ | refine blk_alloc ?_ _)); exact BK294.out⟩, ⟨by (with_reducible repeat (first | refine blk_drewN ?_ _ | refine blk_drew ?_ | refine blk_alloc ?_ _)); exact BK295.out⟩, ⟨by (with_reducible repeat (first | refine blk_drewN ?_ _ | refine blk_drew ?_ | refine blk_alloc ?_ _)); exact BK296.out⟩, ⟨by repeat (first | (with_reducible first | exact HB.out | apply below_alloc | apply pw_below_drewN | apply below_drew1 | refine below_set ?_ GE294.out | refine below_set ?_ GE295.out | refine below_set ?_ GE296.out) | exact HB.out)⟩⟩
          · rw [if_neg c27] at H
            have c27b0 : decide (t298 ≤ 0) = false := decide_eq_false c27
            clear c27
            by_cases c54 : t297 < 0
            · rw [if_pos c54] at H
              have c54b0 : decide (t297 < 0) = true := decide_eq_true c54
              clear c54
              have H' := Aside0.mk H
              clear H
              have hnb55 := NB295_294.out
              have hnc55 := NB294_295.out
              have hnb56 := NB295_296.out
              have hnc56 := NB296_295.out
              have hcz57_0 : w14.cell? ⟨gb295, 0, none⟩ = some (.int .u64 a1_0) := (blk_cell BK295.out 0).trans rfl
              have hcz57_1 : w14.cell? ⟨gb295, 1, none⟩ = some (.int .i64 a1_1) := (blk_cell BK295.out 1).trans rfl
              have hfz57_0 := blk_frozen BK295.out 0
              have hfz57_1 := blk_frozen BK295.out 1
              have hnb58 := NB294_296.out
              have hnc58 := NB296_294.out
              have hcz59_0 : w14.cell? ⟨gb294, 0, none⟩ = some (.int .u64 a0_0) := (blk_cell BK294.out 0).trans rfl
              have hcz59_1 : w14.cell? ⟨gb294, 1, none⟩ = some (.int .i64 a0_1) := (blk_cell BK294.out 1).trans rfl
              have hfz59_0 := blk_frozen BK294.out 0
              have hfz59_1 := blk_frozen BK294.out 1
              go_wp2_with (first | ((with_reducible refine gate_callee (f := 21) rfl ?_); refine goesL_ (some 24) rfl rfl Try.func21 (by kernel_rfl) rfl #[.agg #[.int .u64 a1_0, .int .i64 a1_1], .agg #[.int .u64 a0_0, .int .i64 a0_1]] rfl (by (try simp only [List.map_toArray, List.map_cons, List.map_nil]); first | done | rfl | (simp only [List.length_drop, List.length_take]; rfl)) ?_; (with_reducible refine (ident_Compare.calls k a1_0 a1_1 a0_0 a0_1 t300 _ A15.out).mono ?_); rintro e w60 ⟨rfl, hb⟩; refine ⟨_, rfl, ?_⟩; have n0_ := Aside0.mk (blk_below (g := gb294) (o := .cells #[.int .u64 a0_0, .int .i64 a0_1] 31 (0, 0)) (by (with_reducible repeat (first | refine blk_drewN ?_ _ | refine blk_drew ?_ | refine blk_alloc ?_ _)); exact BK294.out) hb); have n1_ := Aside0.mk (blk_below (g := gb295) (o := .cells #[.int .u64 a1_0, .int .i64 a1_1] 31 (0, 0)) (by (with_reducible repeat (first | refine blk_drewN ?_ _ | refine blk_drew ?_ | refine blk_alloc ?_ _)); exact BK295.out) hb); have n2_ := Aside0.mk (blk_below (g := gb296) (o := .cells #[.int .u64 a2_0, .int .i64 a2_1] 31 (0, 0)) (by (with_reducible repeat (first | refine blk_drewN ?_ _ | refine blk_drew ?_ | refine blk_alloc ?_ _)); exact BK296.out) hb); have n3_ := Aside0.mk (below_step (by repeat (first | (with_reducible first | exact HB.out | apply below_alloc | apply pw_below_drewN | apply below_drew1 | refine below_set ?_ GE294.out | refine below_set ?_ GE295.out | refine below_set ?_ GE296.out) | exact HB.out)) hb); clear BK294; clear BK295; clear BK296; clear HB; have BK294 := n0_; have BK295 := n1_; have BK296 := n2_; have HB := n3_; clear n0_ n1_ n2_ n3_; (try clear hb); (try clear hb2); (try clear hk); (try clear hi); have hcz61_0 : w60.cell? ⟨gb294, 0, none⟩ = some (.int .u64 a0_0) := (blk_cell BK294.out 0).trans rfl; have hcz61_1 : w60.cell? ⟨gb294, 1, none⟩ = some (.int .i64 a0_1) := (blk_cell BK294.out 1).trans rfl; have hfz61_0 := blk_frozen BK294.out 0; have hfz61_1 := blk_frozen BK294.out 1; have hcz62_0 : w60.cell? ⟨gb295, 0, none⟩ = some (.int .u64 a1_0) := (blk_cell BK295.out 0).trans rfl; have hcz62_1 : w60.cell? ⟨gb295, 1, none⟩ = some (.int .i64 a1_1) := (blk_cell BK295.out 1).trans rfl; have hfz62_0 := blk_frozen BK295.out 0; have hfz62_1 := blk_frozen BK295.out 1))
              go_meet
              case rel => exact ⟨_, (false), (by first | rfl | (simp; done) | (simp [*]; done)), H', ⟨by first | omega | exact Nat.le_refl _⟩, ⟨by (with_reducible repeat (first | refine blk_drewN ?_ _ | refine blk_drew ?_ | refine blk_alloc ?_ _)); exact BK294.out⟩, ⟨by (with_reducible repeat (first | refine blk_drewN ?_ _ | refine blk_drew ?_ | refine blk_alloc ?_ _)); exact BK295.out⟩, ⟨by (with_reducible repeat (first | refine blk_drewN ?_ _ | refine blk_drew ?_ | refine blk_alloc ?_ _)); exact BK296.out⟩, ⟨by repeat (first | (with_reducible first | exact HB.out | apply below_alloc | apply pw_below_drewN | apply below_drew1 | refine below_set ?_ GE294.out | refine below_set ?_ GE295.out | refine below_set ?_ GE296.out) | exact HB.out)⟩⟩
            · rw [if_neg c54] at H
              have c54b0 : decide (t297 < 0) = false := decide_eq_false c54
              clear c54
              have H' := Aside0.mk H
              clear H
              have hnb63 := NB295_294.out
              have hnc63 := NB294_295.out
              have hnb64 := NB295_296.out
              have hnc64 := NB296_295.out
              have hcz65_0 : w14.cell? ⟨gb295, 0, none⟩ = some (.int .u64 a1_0) := (blk_cell BK295.out 0).trans rfl
              have hcz65_1 : w14.cell? ⟨gb295, 1, none⟩ = some (.int .i64 a1_1) := (blk_cell BK295.out 1).trans rfl
              have hfz65_0 := blk_frozen BK295.out 0
              have hfz65_1 := blk_frozen BK295.out 1
              have hnb66 := NB294_296.out
              have hnc66 := NB296_294.out
              have hcz67_0 : w14.cell? ⟨gb294, 0, none⟩ = some (.int .u64 a0_0) := (blk_cell BK294.out 0).trans rfl
              have hcz67_1 : w14.cell? ⟨gb294, 1, none⟩ = some (.int .i64 a0_1) := (blk_cell BK294.out 1).trans rfl
              have hfz67_0 := blk_frozen BK294.out 0
              have hfz67_1 := blk_frozen BK294.out 1
              go_wp2_with (first | ((with_reducible refine gate_callee (f := 21) rfl ?_); refine goesL_ (some 24) rfl rfl Try.func21 (by kernel_rfl) rfl #[.agg #[.int .u64 a1_0, .int .i64 a1_1], .agg #[.int .u64 a0_0, .int .i64 a0_1]] rfl (by (try simp only [List.map_toArray, List.map_cons, List.map_nil]); first | done | rfl | (simp only [List.length_drop, List.length_take]; rfl)) ?_; (with_reducible refine (ident_Compare.calls k a1_0 a1_1 a0_0 a0_1 t300 _ A15.out).mono ?_); rintro e w68 ⟨rfl, hb⟩; refine ⟨_, rfl, ?_⟩; have n0_ := Aside0.mk (blk_below (g := gb294) (o := .cells #[.int .u64 a0_0, .int .i64 a0_1] 31 (0, 0)) (by (with_reducible repeat (first | refine blk_drewN ?_ _ | refine blk_drew ?_ | refine blk_alloc ?_ _)); exact BK294.out) hb); have n1_ := Aside0.mk (blk_below (g := gb295) (o := .cells #[.int .u64 a1_0, .int .i64 a1_1] 31 (0, 0)) (by (with_reducible repeat (first | refine blk_drewN ?_ _ | refine blk_drew ?_ | refine blk_alloc ?_ _)); exact BK295.out) hb); have n2_ := Aside0.mk (blk_below (g := gb296) (o := .cells #[.int .u64 a2_0, .int .i64 a2_1] 31 (0, 0)) (by (with_reducible repeat (first | refine blk_drewN ?_ _ | refine blk_drew ?_ | refine blk_alloc ?_ _)); exact BK296.out) hb); have n3_ := Aside0.mk (below_step (by repeat (first | (with_reducible first | exact HB.out | apply below_alloc | apply pw_below_drewN | apply below_drew1 | refine below_set ?_ GE294.out | refine below_set ?_ GE295.out | refine below_set ?_ GE296.out) | exact HB.out)) hb); clear BK294; clear BK295; clear BK296; clear HB; have BK294 := n0_; have BK295 := n1_; have BK296 := n2_; have HB := n3_; clear n0_ n1_ n2_ n3_; (try clear hb); (try clear hb2); (try clear hk); (try clear hi); have hcz69_0 : w68.cell? ⟨gb294, 0, none⟩ = some (.int .u64 a0_0) := (blk_cell BK294.out 0).trans rfl; have hcz69_1 : w68.cell? ⟨gb294, 1, none⟩ = some (.int .i64 a0_1) := (blk_cell BK294.out 1).trans rfl; have hfz69_0 := blk_frozen BK294.out 0; have hfz69_1 := blk_frozen BK294.out 1; have hcz70_0 : w68.cell? ⟨gb295, 0, none⟩ = some (.int .u64 a1_0) := (blk_cell BK295.out 0).trans rfl; have hcz70_1 : w68.cell? ⟨gb295, 1, none⟩ = some (.int .i64 a1_1) := (blk_cell BK295.out 1).trans rfl; have hfz70_0 := blk_frozen BK295.out 0; have hfz70_1 := blk_frozen BK295.out 1))
              go_meet
              case rel => exact ⟨_, (false), (by first | rfl | (simp; done) | (simp [*]; done)), H', ⟨by first | omega | exact Nat.le_refl _⟩, ⟨by (with_reducible repeat (first | refine blk_drewN ?_ _ | refine blk_drew ?_ | refine blk_alloc ?_ _)); exact BK294.out⟩, ⟨by (with_reducible repeat (first | refine blk_drewN ?_ _ | refine blk_drew ?_ | refine blk_alloc ?_ _)); exact BK295.out⟩, ⟨by (with_reducible repeat (first | refine blk_drewN ?_ _ | refine blk_drew ?_ | refine blk_alloc ?_ _)); exact BK296.out⟩, ⟨by repeat (first | (with_reducible first | exact HB.out | apply below_alloc | apply pw_below_drewN | apply below_drew1 | refine below_set ?_ GE294.out | refine below_set ?_ GE295.out | refine below_set ?_ GE296.out) | exact HB.out)⟩⟩
        · rw [if_neg c26] at H
          have c26b0 : decide (t297 ≤ 0) = false := decide_eq_false c26
          clear c26
          by_cases c71 : t297 < 0
          · rw [if_pos c71] at H
            have c71b0 : decide (t297 < 0) = true := decide_eq_true c71
            clear c71
            by_cases c72 : t298 ≤ 0
            · rw [if_pos c72] at H
              have c72b0 : decide (t298 ≤ 0) = true := decide_eq_true c72
              clear c72
              have H' := Aside0.mk H
              clear H
              have hnb73 := NB295_294.out
              have hnc73 := NB294_295.out
              have hnb74 := NB295_296.out
              have hnc74 := NB296_295.out
              have hcz75_0 : w14.cell? ⟨gb295, 0, none⟩ = some (.int .u64 a1_0) := (blk_cell BK295.out 0).trans rfl
              have hcz75_1 : w14.cell? ⟨gb295, 1, none⟩ = some (.int .i64 a1_1) := (blk_cell BK295.out 1).trans rfl
              have hfz75_0 := blk_frozen BK295.out 0
              have hfz75_1 := blk_frozen BK295.out 1
              have hnb76 := NB294_296.out
              have hnc76 := NB296_294.out
              have hcz77_0 : w14.cell? ⟨gb294, 0, none⟩ = some (.int .u64 a0_0) := (blk_cell BK294.out 0).trans rfl
              have hcz77_1 : w14.cell? ⟨gb294, 1, none⟩ = some (.int .i64 a0_1) := (blk_cell BK294.out 1).trans rfl
              have hfz77_0 := blk_frozen BK294.out 0
              have hfz77_1 := blk_frozen BK294.out 1
              go_wp2_with (first | ((with_reducible refine gate_callee (f := 21) rfl ?_); refine goesL_ (some 24) rfl rfl Try.func21 (by kernel_rfl) rfl #[.agg #[.int .u64 a1_0, .int .i64 a1_1], .agg #[.int .u64 a0_0, .int .i64 a0_1]] rfl (by (try simp only [List.map_toArray, List.map_cons, List.map_nil]); first | done | rfl | (simp only [List.length_drop, List.length_take]; rfl)) ?_; (with_reducible refine (ident_Compare.calls k a1_0 a1_1 a0_0 a0_1 t300 _ A15.out).mono ?_); rintro e w78 ⟨rfl, hb⟩; refine ⟨_, rfl, ?_⟩; have n0_ := Aside0.mk (blk_below (g := gb294) (o := .cells #[.int .u64 a0_0, .int .i64 a0_1] 31 (0, 0)) (by (with_reducible repeat (first | refine blk_drewN ?_ _ | refine blk_drew ?_ | refine blk_alloc ?_ _)); exact BK294.out) hb); have n1_ := Aside0.mk (blk_below (g := gb295) (o := .cells #[.int .u64 a1_0, .int .i64 a1_1] 31 (0, 0)) (by (with_reducible repeat (first | refine blk_drewN ?_ _ | refine blk_drew ?_ | refine blk_alloc ?_ _)); exact BK295.out) hb); have n2_ := Aside0.mk (blk_below (g := gb296) (o := .cells #[.int .u64 a2_0, .int .i64 a2_1] 31 (0, 0)) (by (with_reducible repeat (first | refine blk_drewN ?_ _ | refine blk_drew ?_ | refine blk_alloc ?_ _)); exact BK296.out) hb); have n3_ := Aside0.mk (below_step (by repeat (first | (with_reducible first | exact HB.out | apply below_alloc | apply pw_below_drewN | apply below_drew1 | refine below_set ?_ GE294.out | refine below_set ?_ GE295.out | refine below_set ?_ GE296.out) | exact HB.out)) hb); clear BK294; clear BK295; clear BK296; clear HB; have BK294 := n0_; have BK295 := n1_; have BK296 := n2_; have HB := n3_; clear n0_ n1_ n2_ n3_; (try clear hb); (try clear hb2); (try clear hk); (try clear hi); have hcz79_0 : w78.cell? ⟨gb294, 0, none⟩ = some (.int .u64 a0_0) := (blk_cell BK294.out 0).trans rfl; have hcz79_1 : w78.cell? ⟨gb294, 1, none⟩ = some (.int .i64 a0_1) := (blk_cell BK294.out 1).trans rfl; have hfz79_0 := blk_frozen BK294.out 0; have hfz79_1 := blk_frozen BK294.out 1; have hcz80_0 : w78.cell? ⟨gb295, 0, none⟩ = some (.int .u64 a1_0) := (blk_cell BK295.out 0).trans rfl; have hcz80_1 : w78.cell? ⟨gb295, 1, none⟩ = some (.int .i64 a1_1) := (blk_cell BK295.out 1).trans rfl; have hfz80_0 := blk_frozen BK295.out 0; have hfz80_1 := blk_frozen BK295.out 1))
              go_meet
              case rel => exact ⟨_, (decide (t299 ≥ 0)), (by first | rfl | (simp; done) | (simp [*]; done)), H', ⟨by first | omega | exact Nat.le_refl _⟩, ⟨by (with_reducible repeat (first | refine blk_drewN ?_ _ | refine blk_drew ?_ | refine blk_alloc ?_ _)); exact BK294.out⟩, ⟨by (with_reducible repeat (first | refine blk_drewN ?_ _ | refine blk_drew ?_ | refine blk_alloc ?_ _)); exact BK295.out⟩, ⟨by (with_reducible repeat (first | refine blk_drewN ?_ _ | refine blk_drew ?_ | refine blk_alloc ?_ _)); exact BK296.out⟩, ⟨by repeat (first | (with_reducible first | exact HB.out | apply below_alloc | apply pw_below_drewN | apply below_drew1 | refine below_set ?_ GE294.out | refine below_set ?_ GE295.out | refine below_set ?_ GE296.out) | exact HB.out)⟩⟩
            · rw [if_neg c72] at H
              have c72b0 : decide (t298 ≤ 0) = false := decide_eq_false c72
              clear c72
              have H' := Aside0.mk H
              clear H
              have hnb81 := NB295_294.out
              have hnc81 := NB294_295.out
              have hnb82 := NB295_296.out
              have hnc82 := NB296_295.out
              have hcz83_0 : w14.cell? ⟨gb295, 0, none⟩ = some (.int .u64 a1_0) := (blk_cell BK295.out 0).trans rfl
              have hcz83_1 : w14.cell? ⟨gb295, 1, none⟩ = some (.int .i64 a1_1) := (blk_cell BK295.out 1).trans rfl
              have hfz83_0 := blk_frozen BK295.out 0
              have hfz83_1 := blk_frozen BK295.out 1
              have hnb84 := NB294_296.out
              have hnc84 := NB296_294.out
              have hcz85_0 : w14.cell? ⟨gb294, 0, none⟩ = some (.int .u64 a0_0) := (blk_cell BK294.out 0).trans rfl
              have hcz85_1 : w14.cell? ⟨gb294, 1, none⟩ = some (.int .i64 a0_1) := (blk_cell BK294.out 1).trans rfl
              have hfz85_0 := blk_frozen BK294.out 0
              have hfz85_1 := blk_frozen BK294.out 1
              go_wp2_with (first | ((with_reducible refine gate_callee (f := 21) rfl ?_); refine goesL_ (some 24) rfl rfl Try.func21 (by kernel_rfl) rfl #[.agg #[.int .u64 a1_0, .int .i64 a1_1], .agg #[.int .u64 a0_0, .int .i64 a0_1]] rfl (by (try simp only [List.map_toArray, List.map_cons, List.map_nil]); first | done | rfl | (simp only [List.length_drop, List.length_take]; rfl)) ?_; (with_reducible refine (ident_Compare.calls k a1_0 a1_1 a0_0 a0_1 t300 _ A15.out).mono ?_); rintro e w86 ⟨rfl, hb⟩; refine ⟨_, rfl, ?_⟩; have n0_ := Aside0.mk (blk_below (g := gb294) (o := .cells #[.int .u64 a0_0, .int .i64 a0_1] 31 (0, 0)) (by (with_reducible repeat (first | refine blk_drewN ?_ _ | refine blk_drew ?_ | refine blk_alloc ?_ _)); exact BK294.out) hb); have n1_ := Aside0.mk (blk_below (g := gb295) (o := .cells #[.int .u64 a1_0, .int .i64 a1_1] 31 (0, 0)) (by (with_reducible repeat (first | refine blk_drewN ?_ _ | refine blk_drew ?_ | refine blk_alloc ?_ _)); exact BK295.out) hb); have n2_ := Aside0.mk (blk_below (g := gb296) (o := .cells #[.int .u64 a2_0, .int .i64 a2_1] 31 (0, 0)) (by (with_reducible repeat (first | refine blk_drewN ?_ _ | refine blk_drew ?_ | refine blk_alloc ?_ _)); exact BK296.out) hb); have n3_ := Aside0.mk (below_step (by repeat (first | (with_reducible first | exact HB.out | apply below_alloc | apply pw_below_drewN | apply below_drew1 | refine below_set ?_ GE294.out | refine below_set ?_ GE295.out | refine below_set ?_ GE296.out) | exact HB.out)) hb); clear BK294; clear BK295; clear BK296; clear HB; have BK294 := n0_; have BK295 := n1_; have BK296 := n2_; have HB := n3_; clear n0_ n1_ n2_ n3_; (try clear hb); (try clear hb2); (try clear hk); (try clear hi); have hcz87_0 : w86.cell? ⟨gb294, 0, none⟩ = some (.int .u64 a0_0) := (blk_cell BK294.out 0).trans rfl; have hcz87_1 : w86.cell? ⟨gb294, 1, none⟩ = some (.int .i64 a0_1) := (blk_cell BK294.out 1).trans rfl; have hfz87_0 := blk_frozen BK294.out 0; have hfz87_1 := blk_frozen BK294.out 1; have hcz88_0 : w86.cell? ⟨gb295, 0, none⟩ = some (.int .u64 a1_0) := (blk_cell BK295.out 0).trans rfl; have hcz88_1 : w86.cell? ⟨gb295, 1, none⟩ = some (.int .i64 a1_1) := (blk_cell BK295.out 1).trans rfl; have hfz88_0 := blk_frozen BK295.out 0; have hfz88_1 := blk_frozen BK295.out 1))
              go_meet
              case rel => exact ⟨_, (false), (by first | rfl | (simp; done) | (simp [*]; done)), H', ⟨by first | omega | exact Nat.le_refl _⟩, ⟨by (with_reducible repeat (first | refine blk_drewN ?_ _ | refine blk_drew ?_ | refine blk_alloc ?_ _)); exact BK294.out⟩, ⟨by (with_reducible repeat (first | refine blk_drewN ?_ _ | refine blk_drew ?_ | refine blk_alloc ?_ _)); exact BK295.out⟩, ⟨by (with_reducible repeat (first | refine blk_drewN ?_ _ | refine blk_drew ?_ | refine blk_alloc ?_ _)); exact BK296.out⟩, ⟨by repeat (first | (with_reducible first | exact HB.out | apply below_alloc | apply pw_below_drewN | apply below_drew1 | refine below_set ?_ GE294.out | refine below_set ?_ GE295.out | refine below_set ?_ GE296.out) | exact HB.out)⟩⟩
          · rw [if_neg c71] at H
            have c71b0 : decide (t297 < 0) = false := decide_eq_false c71
            clear c71
            have H' := Aside0.mk H
            clear H
            have hnb89 := NB295_294.out
            have hnc89 := NB294_295.out
            have hnb90 := NB295_296.out
            have hnc90 := NB296_295.out
            have hcz91_0 : w14.cell? ⟨gb295, 0, none⟩ = some (.int .u64 a1_0) := (blk_cell BK295.out 0).trans rfl
            have hcz91_1 : w14.cell? ⟨gb295, 1, none⟩ = some (.int .i64 a1_1) := (blk_cell BK295.out 1).trans rfl
            have hfz91_0 := blk_frozen BK295.out 0
            have hfz91_1 := blk_frozen BK295.out 1
            have hnb92 := NB294_296.out
            have hnc92 := NB296_294.out
            have hcz93_0 : w14.cell? ⟨gb294, 0, none⟩ = some (.int .u64 a0_0) := (blk_cell BK294.out 0).trans rfl
            have hcz93_1 : w14.cell? ⟨gb294, 1, none⟩ = some (.int .i64 a0_1) := (blk_cell BK294.out 1).trans rfl
            have hfz93_0 := blk_frozen BK294.out 0
            have hfz93_1 := blk_frozen BK294.out 1
            go_wp2_with (first | ((with_reducible refine gate_callee (f := 21) rfl ?_); refine goesL_ (some 24) rfl rfl Try.func21 (by kernel_rfl) rfl #[.agg #[.int .u64 a1_0, .int .i64 a1_1], .agg #[.int .u64 a0_0, .int .i64 a0_1]] rfl (by (try simp only [List.map_toArray, List.map_cons, List.map_nil]); first | done | rfl | (simp only [List.length_drop, List.length_take]; rfl)) ?_; (with_reducible refine (ident_Compare.calls k a1_0 a1_1 a0_0 a0_1 t300 _ A15.out).mono ?_); rintro e w94 ⟨rfl, hb⟩; refine ⟨_, rfl, ?_⟩; have n0_ := Aside0.mk (blk_below (g := gb294) (o := .cells #[.int .u64 a0_0, .int .i64 a0_1] 31 (0, 0)) (by (with_reducible repeat (first | refine blk_drewN ?_ _ | refine blk_drew ?_ | refine blk_alloc ?_ _)); exact BK294.out) hb); have n1_ := Aside0.mk (blk_below (g := gb295) (o := .cells #[.int .u64 a1_0, .int .i64 a1_1] 31 (0, 0)) (by (with_reducible repeat (first | refine blk_drewN ?_ _ | refine blk_drew ?_ | refine blk_alloc ?_ _)); exact BK295.out) hb); have n2_ := Aside0.mk (blk_below (g := gb296) (o := .cells #[.int .u64 a2_0, .int .i64 a2_1] 31 (0, 0)) (by (with_reducible repeat (first | refine blk_drewN ?_ _ | refine blk_drew ?_ | refine blk_alloc ?_ _)); exact BK296.out) hb); have n3_ := Aside0.mk (below_step (by repeat (first | (with_reducible first | exact HB.out | apply below_alloc | apply pw_below_drewN | apply below_drew1 | refine below_set ?_ GE294.out | refine below_set ?_ GE295.out | refine below_set ?_ GE296.out) | exact HB.out)) hb); clear BK294; clear BK295; clear BK296; clear HB; have BK294 := n0_; have BK295 := n1_; have BK296 := n2_; have HB := n3_; clear n0_ n1_ n2_ n3_; (try clear hb); (try clear hb2); (try clear hk); (try clear hi); have hcz95_0 : w94.cell? ⟨gb294, 0, none⟩ = some (.int .u64 a0_0) := (blk_cell BK294.out 0).trans rfl; have hcz95_1 : w94.cell? ⟨gb294, 1, none⟩ = some (.int .i64 a0_1) := (blk_cell BK294.out 1).trans rfl; have hfz95_0 := blk_frozen BK294.out 0; have hfz95_1 := blk_frozen BK294.out 1; have hcz96_0 : w94.cell? ⟨gb295, 0, none⟩ = some (.int .u64 a1_0) := (blk_cell BK295.out 0).trans rfl; have hcz96_1 : w94.cell? ⟨gb295, 1, none⟩ = some (.int .i64 a1_1) := (blk_cell BK295.out 1).trans rfl; have hfz96_0 := blk_frozen BK295.out 0; have hfz96_1 := blk_frozen BK295.out 1))
            go_meet
            case rel => exact ⟨_, (false), (by first | rfl | (simp; done) | (simp [*]; done)), H', ⟨by first | omega | exact Nat.le_refl _⟩, ⟨by (with_reducible repeat (first | refine blk_drewN ?_ _ | refine blk_drew ?_ | refine blk_alloc ?_ _)); exact BK294.out⟩, ⟨by (with_reducible repeat (first | refine blk_drewN ?_ _ | refine blk_drew ?_ | refine blk_alloc ?_ _)); exact BK295.out⟩, ⟨by (with_reducible repeat (first | refine blk_drewN ?_ _ | refine blk_drew ?_ | refine blk_alloc ?_ _)); exact BK296.out⟩, ⟨by repeat (first | (with_reducible first | exact HB.out | apply below_alloc | apply pw_below_drewN | apply below_drew1 | refine below_set ?_ GE294.out | refine below_set ?_ GE295.out | refine below_set ?_ GE296.out) | exact HB.out)⟩⟩
    · rw [if_neg c16] at H
      have c16b0 : (t297 == (wrap64 (-t300))) = false := beq_eq_false_iff_ne.mpr c16
      have c16b1 : (t297 != (wrap64 (-t300))) = true := bne_iff_ne.mpr c16
      (first | rw [c16b0] | (simp only [i64_w, i32_w]; rw [c16b0]) | skip)
      have H' := Aside0.mk H
      clear H
      have hnb97 := NB295_294.out
      have hnc97 := NB294_295.out
      have hnb98 := NB295_296.out
      have hnc98 := NB296_295.out
      have hcz99_0 : w14.cell? ⟨gb295, 0, none⟩ = some (.int .u64 a1_0) := (blk_cell BK295.out 0).trans rfl
      have hcz99_1 : w14.cell? ⟨gb295, 1, none⟩ = some (.int .i64 a1_1) := (blk_cell BK295.out 1).trans rfl
      have hfz99_0 := blk_frozen BK295.out 0
      have hfz99_1 := blk_frozen BK295.out 1
      have hnb100 := NB294_296.out
      have hnc100 := NB296_294.out
      have hcz101_0 : w14.cell? ⟨gb294, 0, none⟩ = some (.int .u64 a0_0) := (blk_cell BK294.out 0).trans rfl
      have hcz101_1 : w14.cell? ⟨gb294, 1, none⟩ = some (.int .i64 a0_1) := (blk_cell BK294.out 1).trans rfl
      have hfz101_0 := blk_frozen BK294.out 0
      have hfz101_1 := blk_frozen BK294.out 1
      go_wp2_with (first | ((with_reducible refine gate_callee (f := 21) rfl ?_); refine goesL_ (some 24) rfl rfl Try.func21 (by kernel_rfl) rfl #[.agg #[.int .u64 a1_0, .int .i64 a1_1], .agg #[.int .u64 a0_0, .int .i64 a0_1]] rfl (by (try simp only [List.map_toArray, List.map_cons, List.map_nil]); first | done | rfl | (simp only [List.length_drop, List.length_take]; rfl)) ?_; (with_reducible refine (ident_Compare.calls k a1_0 a1_1 a0_0 a0_1 t300 _ A15.out).mono ?_); rintro e w102 ⟨rfl, hb⟩; refine ⟨_, rfl, ?_⟩; have n0_ := Aside0.mk (blk_below (g := gb294) (o := .cells #[.int .u64 a0_0, .int .i64 a0_1] 31 (0, 0)) (by (with_reducible repeat (first | refine blk_drewN ?_ _ | refine blk_drew ?_ | refine blk_alloc ?_ _)); exact BK294.out) hb); have n1_ := Aside0.mk (blk_below (g := gb295) (o := .cells #[.int .u64 a1_0, .int .i64 a1_1] 31 (0, 0)) (by (with_reducible repeat (first | refine blk_drewN ?_ _ | refine blk_drew ?_ | refine blk_alloc ?_ _)); exact BK295.out) hb); have n2_ := Aside0.mk (blk_below (g := gb296) (o := .cells #[.int .u64 a2_0, .int .i64 a2_1] 31 (0, 0)) (by (with_reducible repeat (first | refine blk_drewN ?_ _ | refine blk_drew ?_ | refine blk_alloc ?_ _)); exact BK296.out) hb); have n3_ := Aside0.mk (below_step (by repeat (first | (with_reducible first | exact HB.out | apply below_alloc | apply pw_below_drewN | apply below_drew1 | refine below_set ?_ GE294.out | refine below_set ?_ GE295.out | refine below_set ?_ GE296.out) | exact HB.out)) hb); clear BK294; clear BK295; clear BK296; clear HB; have BK294 := n0_; have BK295 := n1_; have BK296 := n2_; have HB := n3_; clear n0_ n1_ n2_ n3_; (try clear hb); (try clear hb2); (try clear hk); (try clear hi)))
      go_meet
      case rel => exact ⟨_, (true), (by first | rfl | (simp; done) | (simp [*]; done)), H', ⟨by first | omega | exact Nat.le_refl _⟩, ⟨by (with_reducible repeat (first | refine blk_drewN ?_ _ | refine blk_drew ?_ | refine blk_alloc ?_ _)); exact BK294.out⟩, ⟨by (with_reducible repeat (first | refine blk_drewN ?_ _ | refine blk_drew ?_ | refine blk_alloc ?_ _)); exact BK295.out⟩, ⟨by (with_reducible repeat (first | refine blk_drewN ?_ _ | refine blk_drew ?_ | refine blk_alloc ?_ _)); exact BK296.out⟩, ⟨by repeat (first | (with_reducible first | exact HB.out | apply below_alloc | apply pw_below_drewN | apply below_drew1 | refine below_set ?_ GE294.out | refine below_set ?_ GE295.out | refine below_set ?_ GE296.out) | exact HB.out)⟩⟩
  case rest =>
    clear HC7
    try clear c1
    try clear c2
    try clear p2
    try clear c3
    try clear c4
    try clear c5
    try clear c6
    try clear p6
    try clear c7
    try clear c8
    try clear c9
    try clear c10
    try clear c16
    try clear c16b0
    try clear c16b1
    try clear c17
    try clear c17b0
    try clear c17b1
    try clear c17b2
    try clear c18
    try clear c19
    try clear c21
    try clear c26
    try clear c26b0
    try clear c27
    try clear c27b0
    try clear c28
    try clear c28b0
    try clear c29
    try clear c30
    try clear c32
    try clear c37
    try clear c37b0
    try clear c38
    try clear c39
    try clear c41
    try clear c46
    try clear c47
    try clear c49
    try clear c54
    try clear c54b0
    try clear c55
    try clear c56
    try clear c58
    try clear c63
    try clear c64
    try clear p64
    try clear c66
    try clear c71
    try clear c71b0
    try clear c72
    try clear c72b0
    try clear c73
    try clear c74
    try clear c76
    try clear c81
    try clear c82
    try clear c84
    try clear c89
    try clear c90
    try clear c92
    try clear c97
    try clear c98
    try clear c100
    try clear hcz101_0
    try clear hcz101_1
    try clear hcz20_0
    try clear hcz20_1
    try clear hcz22_0
    try clear hcz22_1
    try clear hcz24_0
    try clear hcz24_1
    try clear hcz25_0
    try clear hcz25_1
    try clear hcz31_0
    try clear hcz31_1
    try clear hcz33_0
    try clear hcz33_1
    try clear hcz35_0
    try clear hcz35_1
    try clear hcz36_0
    try clear hcz36_1
    try clear hcz40_0
    try clear hcz40_1
    try clear hcz42_0
    try clear hcz42_1
    try clear hcz44_0
    try clear hcz44_1
    try clear hcz45_0
    try clear hcz45_1
    try clear hcz48_0
    try clear hcz48_1
    try clear hcz50_0
    try clear hcz50_1
    try clear hcz52_0
    try clear hcz52_1
    try clear hcz53_0
    try clear hcz53_1
    try clear hcz57_0
    try clear hcz57_1
    try clear hcz59_0
    try clear hcz59_1
    try clear hcz61_0
    try clear hcz61_1
    try clear hcz62_0
    try clear hcz62_1
    try clear hcz65_0
    try clear hcz65_1
    try clear hcz67_0
    try clear hcz67_1
    try clear hcz69_0
    try clear hcz69_1
    try clear hcz70_0
    try clear hcz70_1
    try clear hcz75_0
    try clear hcz75_1
    try clear hcz77_0
    try clear hcz77_1
    try clear hcz79_0
    try clear hcz79_1
    try clear hcz80_0
    try clear hcz80_1
    try clear hcz83_0
    try clear hcz83_1
    try clear hcz85_0
    try clear hcz85_1
    try clear hcz87_0
    try clear hcz87_1
    try clear hcz88_0
    try clear hcz88_1
    try clear hcz91_0
    try clear hcz91_1
    try clear hcz93_0
    try clear hcz93_1
    try clear hcz95_0
    try clear hcz95_1
    try clear hcz96_0
    try clear hcz96_1
    try clear hcz99_0
    try clear hcz99_1
    try clear hfz101_0
    try clear hfz101_1
    try clear hfz20_0
    try clear hfz20_1
    try clear hfz22_0
    try clear hfz22_1
    try clear hfz24_0
    try clear hfz24_1
    try clear hfz25_0
    try clear hfz25_1
    try clear hfz31_0
    try clear hfz31_1
    try clear hfz33_0
    try clear hfz33_1
    try clear hfz35_0
    try clear hfz35_1
    try clear hfz36_0
    try clear hfz36_1
    try clear hfz40_0
    try clear hfz40_1
    try clear hfz42_0
    try clear hfz42_1
    try clear hfz44_0
    try clear hfz44_1
    try clear hfz45_0
    try clear hfz45_1
    try clear hfz48_0
    try clear hfz48_1
    try clear hfz50_0
    try clear hfz50_1
    try clear hfz52_0
    try clear hfz52_1
    try clear hfz53_0
    try clear hfz53_1
    try clear hfz57_0
    try clear hfz57_1
    try clear hfz59_0
    try clear hfz59_1
    try clear hfz61_0
    try clear hfz61_1
    try clear hfz62_0
    try clear hfz62_1
    try clear hfz65_0
    try clear hfz65_1
    try clear hfz67_0
    try clear hfz67_1
    try clear hfz69_0
    try clear hfz69_1
    try clear hfz70_0
    try clear hfz70_1
    try clear hfz75_0
    try clear hfz75_1
    try clear hfz77_0
    try clear hfz77_1
    try clear hfz79_0
    try clear hfz79_1
    try clear hfz80_0
    try clear hfz80_1
    try clear hfz83_0
    try clear hfz83_1
    try clear hfz85_0
    try clear hfz85_1
    try clear hfz87_0
    try clear hfz87_1
    try clear hfz88_0
    try clear hfz88_1
    try clear hfz91_0
    try clear hfz91_1
    try clear hfz93_0
    try clear hfz93_1
    try clear hfz95_0
    try clear hfz95_1
    try clear hfz96_0
    try clear hfz96_1
    try clear hfz99_0
    try clear hfz99_1
    obtain ⟨kq, x58_6, rfl, HA, HJ6, BK294, BK295, BK296, HB⟩ := hcut
    cases kq with
    | zero => exact absurd HA.out (by simp [carillonlaw04_IdentOrder.j0])
    | succ kj6 =>
      have H := HA.out
      clear HA
      simp only [carillonlaw04_IdentOrder.j0] at H
      by_cases c103 : x58_6 = true
      · subst c103
        have H1 : (some false) = some r := by rw [if_pos rfl] at H; exact H
        clear H
        have H := H1
        clear H1
        obtain rfl := Option.some.inj H
        go_wp2
        all_goals
          go_ret
          exact ⟨by first | rfl | (simp [errW_none, errW_some] <;> rfl) | (simp [*, errW_none, errW_some] <;> rfl), by repeat (first | (with_reducible first | exact HB.out | apply below_alloc | apply pw_below_drewN | apply below_drew1 | refine below_set ?_ GE294.out | refine below_set ?_ GE295.out | refine below_set ?_ GE296.out) | exact HB.out)⟩
      · replace c103 := Bool.eq_false_iff.mpr c103
        subst c103
        have H1 : ((ident_May.f a0_0 a0_1).bind fun t301 => (if t301 = true then ((ident_May.f a1_0 a1_1).bind fun t302 => (carillonlaw04_IdentOrder.j1 kj6 t297 (!t302) a0_0 a0_1 a1_0 a1_1)) else (carillonlaw04_IdentOrder.j1 kj6 t297 true a0_0 a0_1 a1_0 a1_1))) = some r := by rw [if_neg (show ¬ (false = true) by decide)] at H; exact H
        clear H
        have H := H1
        clear H1
        have HC104 := Aside0.mk H
        clear H
        go_upto_region 4 with (fail)
        go_cut [66] (fun v66 wc => ∃ (kq : Nat) (x66_103 : Bool), v66 = .bool x66_103 ∧ Aside0 (carillonlaw04_IdentOrder.j1 kq t297 x66_103 a0_0 a0_1 a1_0 a1_1 = some r) ∧ Aside0 (kq ≤ kj6) ∧ Aside0 (wc.heap[gb294]? = some (.cells #[.int .u64 a0_0, .int .i64 a0_1] 31 (0, 0))) ∧ Aside0 (wc.heap[gb295]? = some (.cells #[.int .u64 a1_0, .int .i64 a1_1] 31 (0, 0))) ∧ Aside0 (wc.heap[gb296]? = some (.cells #[.int .u64 a2_0, .int .i64 a2_1] 31 (0, 0))) ∧ Aside0 (Below w.heap.size w wc))
        case first =>
          have H := HC104.out
          clear HC104
          replace H := Option.bind_eq_some_iff.mp H
          obtain ⟨t301, A1050, H⟩ := H
          replace H : (if t301 = true then ((ident_May.f a1_0 a1_1).bind fun t302 => (carillonlaw04_IdentOrder.j1 kj6 t297 (!t302) a0_0 a0_1 a1_0 a1_1)) else (carillonlaw04_IdentOrder.j1 kj6 t297 true a0_0 a0_1 a1_0 a1_1)) = some r := H
          have A105 := Aside0.mk A1050
          clear A1050
          by_cases c106 : t301 = true
          · subst c106
            have H1 : ((ident_May.f a1_0 a1_1).bind fun t302 => (carillonlaw04_IdentOrder.j1 kj6 t297 (!t302) a0_0 a0_1 a1_0 a1_1)) = some r := by rw [if_pos rfl] at H; exact H
            clear H
            have H := H1
            clear H1
            replace H := Option.bind_eq_some_iff.mp H
            obtain ⟨t302, A1070, H⟩ := H
            replace H : (carillonlaw04_IdentOrder.j1 kj6 t297 (!t302) a0_0 a0_1 a1_0 a1_1) = some r := H
            have A107 := Aside0.mk A1070
            clear A1070
            have H' := Aside0.mk H
            clear H
            have hnb108 := NB294_295.out
            have hnc108 := NB295_294.out
            have hnb109 := NB294_296.out
            have hnc109 := NB296_294.out
            have hcz110_0 : wc.cell? ⟨gb294, 0, none⟩ = some (.int .u64 a0_0) := (blk_cell BK294.out 0).trans rfl
            have hcz110_1 : wc.cell? ⟨gb294, 1, none⟩ = some (.int .i64 a0_1) := (blk_cell BK294.out 1).trans rfl
            have hfz110_0 := blk_frozen BK294.out 0
            have hfz110_1 := blk_frozen BK294.out 1
            go_wp2_with (first | ((with_reducible refine gate_callee (f := 19) rfl ?_); refine goesL_ (some 60) rfl rfl Try.func19 (by kernel_rfl) rfl #[.agg #[.int .u64 a0_0, .int .i64 a0_1]] rfl (by (try simp only [List.map_toArray, List.map_cons, List.map_nil]); first | done | rfl | (simp only [List.length_drop, List.length_take]; rfl)) ?_; (with_reducible refine (ident_May.calls a0_0 a0_1 true _ A105.out).mono ?_); rintro e w111 ⟨rfl, hb⟩; refine ⟨_, rfl, ?_⟩; have n0_ := Aside0.mk (blk_below (g := gb294) (o := .cells #[.int .u64 a0_0, .int .i64 a0_1] 31 (0, 0)) (by (with_reducible repeat (first | refine blk_drewN ?_ _ | refine blk_drew ?_ | refine blk_alloc ?_ _)); exact BK294.out) hb); have n1_ := Aside0.mk (blk_below (g := gb295) (o := .cells #[.int .u64 a1_0, .int .i64 a1_1] 31 (0, 0)) (by (with_reducible repeat (first | refine blk_drewN ?_ _ | refine blk_drew ?_ | refine blk_alloc ?_ _)); exact BK295.out) hb); have n2_ := Aside0.mk (blk_below (g := gb296) (o := .cells #[.int .u64 a2_0, .int .i64 a2_1] 31 (0, 0)) (by (with_reducible repeat (first | refine blk_drewN ?_ _ | refine blk_drew ?_ | refine blk_alloc ?_ _)); exact BK296.out) hb); have n3_ := Aside0.mk (below_step (by repeat (first | (with_reducible first | exact HB.out | apply below_alloc | apply pw_below_drewN | apply below_drew1 | refine below_set ?_ GE294.out | refine below_set ?_ GE295.out | refine below_set ?_ GE296.out) | exact HB.out)) hb); clear BK294; clear BK295; clear BK296; clear HB; have BK294 := n0_; have BK295 := n1_; have BK296 := n2_; have HB := n3_; clear n0_ n1_ n2_ n3_; (try clear hb); (try clear hb2); (try clear hk); (try clear hi); have hnb112 := NB295_296.out; have hnc112 := NB296_295.out; have hcz113_0 : w111.cell? ⟨gb295, 0, none⟩ = some (.int .u64 a1_0) := (blk_cell BK295.out 0).trans rfl; have hcz113_1 : w111.cell? ⟨gb295, 1, none⟩ = some (.int .i64 a1_1) := (blk_cell BK295.out 1).trans rfl; have hfz113_0 := blk_frozen BK295.out 0; have hfz113_1 := blk_frozen BK295.out 1) | (go_at_call 19; (with_reducible refine (ident_May.calls a1_0 a1_1 t302 _ A107.out).mono ?_); rintro e w114 ⟨rfl, hb⟩; have n0_ := Aside0.mk (blk_below (g := gb294) (o := .cells #[.int .u64 a0_0, .int .i64 a0_1] 31 (0, 0)) (by (with_reducible repeat (first | refine blk_drewN ?_ _ | refine blk_drew ?_ | refine blk_alloc ?_ _)); exact BK294.out) hb); have n1_ := Aside0.mk (blk_below (g := gb295) (o := .cells #[.int .u64 a1_0, .int .i64 a1_1] 31 (0, 0)) (by (with_reducible repeat (first | refine blk_drewN ?_ _ | refine blk_drew ?_ | refine blk_alloc ?_ _)); exact BK295.out) hb); have n2_ := Aside0.mk (blk_below (g := gb296) (o := .cells #[.int .u64 a2_0, .int .i64 a2_1] 31 (0, 0)) (by (with_reducible repeat (first | refine blk_drewN ?_ _ | refine blk_drew ?_ | refine blk_alloc ?_ _)); exact BK296.out) hb); have n3_ := Aside0.mk (below_step (by repeat (first | (with_reducible first | exact HB.out | apply below_alloc | apply pw_below_drewN | apply below_drew1 | refine below_set ?_ GE294.out | refine below_set ?_ GE295.out | refine below_set ?_ GE296.out) | exact HB.out)) hb); clear BK294; clear BK295; clear BK296; clear HB; have BK294 := n0_; have BK295 := n1_; have BK296 := n2_; have HB := n3_; clear n0_ n1_ n2_ n3_; (try clear hb); (try clear hb2); (try clear hk); (try clear hi)))
            go_meet
            case rel => exact ⟨_, (!t302), (by first | rfl | (simp; done) | (simp [*]; done)), H', ⟨by have := HJ6.out; first | omega | exact Nat.le_refl _⟩, ⟨by (with_reducible repeat (first | refine blk_drewN ?_ _ | refine blk_drew ?_ | refine blk_alloc ?_ _)); exact BK294.out⟩, ⟨by (with_reducible repeat (first | refine blk_drewN ?_ _ | refine blk_drew ?_ | refine blk_alloc ?_ _)); exact BK295.out⟩, ⟨by (with_reducible repeat (first | refine blk_drewN ?_ _ | refine blk_drew ?_ | refine blk_alloc ?_ _)); exact BK296.out⟩, ⟨by repeat (first | (with_reducible first | exact HB.out | apply below_alloc | apply pw_below_drewN | apply below_drew1 | refine below_set ?_ GE294.out | refine below_set ?_ GE295.out | refine below_set ?_ GE296.out) | exact HB.out)⟩⟩
          · replace c106 := Bool.eq_false_iff.mpr c106
            subst c106
            have H1 : (carillonlaw04_IdentOrder.j1 kj6 t297 true a0_0 a0_1 a1_0 a1_1) = some r := by rw [if_neg (show ¬ (false = true) by decide)] at H; exact H
            clear H
            have H := H1
            clear H1
            have H' := Aside0.mk H
            clear H
            have hnb115 := NB294_295.out
            have hnc115 := NB295_294.out
            have hnb116 := NB294_296.out
            have hnc116 := NB296_294.out
            have hcz117_0 : wc.cell? ⟨gb294, 0, none⟩ = some (.int .u64 a0_0) := (blk_cell BK294.out 0).trans rfl
            have hcz117_1 : wc.cell? ⟨gb294, 1, none⟩ = some (.int .i64 a0_1) := (blk_cell BK294.out 1).trans rfl
            have hfz117_0 := blk_frozen BK294.out 0
            have hfz117_1 := blk_frozen BK294.out 1
            go_wp2_with (first | ((with_reducible refine gate_callee (f := 19) rfl ?_); refine goesL_ (some 60) rfl rfl Try.func19 (by kernel_rfl) rfl #[.agg #[.int .u64 a0_0, .int .i64 a0_1]] rfl (by (try simp only [List.map_toArray, List.map_cons, List.map_nil]); first | done | rfl | (simp only [List.length_drop, List.length_take]; rfl)) ?_; (with_reducible refine (ident_May.calls a0_0 a0_1 false _ A105.out).mono ?_); rintro e w118 ⟨rfl, hb⟩; refine ⟨_, rfl, ?_⟩; have n0_ := Aside0.mk (blk_below (g := gb294) (o := .cells #[.int .u64 a0_0, .int .i64 a0_1] 31 (0, 0)) (by (with_reducible repeat (first | refine blk_drewN ?_ _ | refine blk_drew ?_ | refine blk_alloc ?_ _)); exact BK294.out) hb); have n1_ := Aside0.mk (blk_below (g := gb295) (o := .cells #[.int .u64 a1_0, .int .i64 a1_1] 31 (0, 0)) (by (with_reducible repeat (first | refine blk_drewN ?_ _ | refine blk_drew ?_ | refine blk_alloc ?_ _)); exact BK295.out) hb); have n2_ := Aside0.mk (blk_below (g := gb296) (o := .cells #[.int .u64 a2_0, .int .i64 a2_1] 31 (0, 0)) (by (with_reducible repeat (first | refine blk_drewN ?_ _ | refine blk_drew ?_ | refine blk_alloc ?_ _)); exact BK296.out) hb); have n3_ := Aside0.mk (below_step (by repeat (first | (with_reducible first | exact HB.out | apply below_alloc | apply pw_below_drewN | apply below_drew1 | refine below_set ?_ GE294.out | refine below_set ?_ GE295.out | refine below_set ?_ GE296.out) | exact HB.out)) hb); clear BK294; clear BK295; clear BK296; clear HB; have BK294 := n0_; have BK295 := n1_; have BK296 := n2_; have HB := n3_; clear n0_ n1_ n2_ n3_; (try clear hb); (try clear hb2); (try clear hk); (try clear hi)))
            go_meet
            case rel => exact ⟨_, (true), (by first | rfl | (simp; done) | (simp [*]; done)), H', ⟨by have := HJ6.out; first | omega | exact Nat.le_refl _⟩, ⟨by (with_reducible repeat (first | refine blk_drewN ?_ _ | refine blk_drew ?_ | refine blk_alloc ?_ _)); exact BK294.out⟩, ⟨by (with_reducible repeat (first | refine blk_drewN ?_ _ | refine blk_drew ?_ | refine blk_alloc ?_ _)); exact BK295.out⟩, ⟨by (with_reducible repeat (first | refine blk_drewN ?_ _ | refine blk_drew ?_ | refine blk_alloc ?_ _)); exact BK296.out⟩, ⟨by repeat (first | (with_reducible first | exact HB.out | apply below_alloc | apply pw_below_drewN | apply below_drew1 | refine below_set ?_ GE294.out | refine below_set ?_ GE295.out | refine below_set ?_ GE296.out) | exact HB.out)⟩⟩
        case rest =>
          clear HC104
          try clear c1
          try clear c2
          try clear p2
          try clear c3
          try clear c4
          try clear c5
          try clear c6
          try clear p6
          try clear c7
          try clear c8
          try clear c9
          try clear c10
          try clear c11
          try clear c16
          try clear c16b0
          try clear c16b1
          try clear c17
          try clear c17b0
          try clear c17b1
          try clear c17b2
          try clear c18
          try clear c19
          try clear c21
          try clear c26
          try clear c26b0
          try clear c27
          try clear c27b0
          try clear c28
          try clear c28b0
          try clear c29
          try clear c30
          try clear c32
          try clear c37
          try clear c37b0
          try clear c38
          try clear c39
          try clear c41
          try clear c46
          try clear c47
          try clear c49
          try clear c54
          try clear c54b0
          try clear c55
          try clear c56
          try clear c58
          try clear c63
          try clear c64
          try clear p64
          try clear c66
          try clear c71
          try clear c71b0
          try clear c72
          try clear c72b0
          try clear c73
          try clear c74
          try clear c76
          try clear c81
          try clear c82
          try clear c84
          try clear c89
          try clear c90
          try clear c92
          try clear c97
          try clear c98
          try clear c100
          try clear c103
          try clear c106
          try clear c108
          try clear c109
          try clear c112
          try clear c115
          try clear c116
          try clear hcz101_0
          try clear hcz101_1
          try clear hcz110_0
          try clear hcz110_1
          try clear hcz113_0
          try clear hcz113_1
          try clear hcz117_0
          try clear hcz117_1
          try clear hcz20_0
          try clear hcz20_1
          try clear hcz22_0
          try clear hcz22_1
          try clear hcz24_0
          try clear hcz24_1
          try clear hcz25_0
          try clear hcz25_1
          try clear hcz31_0
          try clear hcz31_1
          try clear hcz33_0
          try clear hcz33_1
          try clear hcz35_0
          try clear hcz35_1
          try clear hcz36_0
          try clear hcz36_1
          try clear hcz40_0
          try clear hcz40_1
          try clear hcz42_0
          try clear hcz42_1
          try clear hcz44_0
          try clear hcz44_1
          try clear hcz45_0
          try clear hcz45_1
          try clear hcz48_0
          try clear hcz48_1
          try clear hcz50_0
          try clear hcz50_1
          try clear hcz52_0
          try clear hcz52_1
          try clear hcz53_0
          try clear hcz53_1
          try clear hcz57_0
          try clear hcz57_1
          try clear hcz59_0
          try clear hcz59_1
          try clear hcz61_0
          try clear hcz61_1
          try clear hcz62_0
          try clear hcz62_1
          try clear hcz65_0
          try clear hcz65_1
          try clear hcz67_0
          try clear hcz67_1
          try clear hcz69_0
          try clear hcz69_1
          try clear hcz70_0
          try clear hcz70_1
          try clear hcz75_0
          try clear hcz75_1
          try clear hcz77_0
          try clear hcz77_1
          try clear hcz79_0
          try clear hcz79_1
          try clear hcz80_0
          try clear hcz80_1
          try clear hcz83_0
          try clear hcz83_1
          try clear hcz85_0
          try clear hcz85_1
          try clear hcz87_0
          try clear hcz87_1
          try clear hcz88_0
          try clear hcz88_1
          try clear hcz91_0
          try clear hcz91_1
          try clear hcz93_0
          try clear hcz93_1
          try clear hcz95_0
          try clear hcz95_1
          try clear hcz96_0
          try clear hcz96_1
          try clear hcz99_0
          try clear hcz99_1
          try clear hfz101_0
          try clear hfz101_1
          try clear hfz110_0
          try clear hfz110_1
          try clear hfz113_0
          try clear hfz113_1
          try clear hfz117_0
          try clear hfz117_1
          try clear hfz20_0
          try clear hfz20_1
          try clear hfz22_0
          try clear hfz22_1
          try clear hfz24_0
          try clear hfz24_1
          try clear hfz25_0
          try clear hfz25_1
          try clear hfz31_0
          try clear hfz31_1
          try clear hfz33_0
          try clear hfz33_1
          try clear hfz35_0
          try clear hfz35_1
          try clear hfz36_0
          try clear hfz36_1
          try clear hfz40_0
          try clear hfz40_1
          try clear hfz42_0
          try clear hfz42_1
          try clear hfz44_0
          try clear hfz44_1
          try clear hfz45_0
          try clear hfz45_1
          try clear hfz48_0
          try clear hfz48_1
          try clear hfz50_0
          try clear hfz50_1
          try clear hfz52_0
          try clear hfz52_1
          try clear hfz53_0
          try clear hfz53_1
          try clear hfz57_0
          try clear hfz57_1
          try clear hfz59_0
          try clear hfz59_1
          try clear hfz61_0
          try clear hfz61_1
          try clear hfz62_0
          try clear hfz62_1
          try clear hfz65_0
          try clear hfz65_1
          try clear hfz67_0
          try clear hfz67_1
          try clear hfz69_0
          try clear hfz69_1
          try clear hfz70_0
          try clear hfz70_1
          try clear hfz75_0
          try clear hfz75_1
          try clear hfz77_0
          try clear hfz77_1
          try clear hfz79_0
          try clear hfz79_1
          try clear hfz80_0
          try clear hfz80_1
          try clear hfz83_0
          try clear hfz83_1
          try clear hfz85_0
          try clear hfz85_1
          try clear hfz87_0
          try clear hfz87_1
          try clear hfz88_0
          try clear hfz88_1
          try clear hfz91_0
          try clear hfz91_1
          try clear hfz93_0
          try clear hfz93_1
          try clear hfz95_0
          try clear hfz95_1
          try clear hfz96_0
          try clear hfz96_1
          try clear hfz99_0
          try clear hfz99_1
          try clear p2
          try clear p6
          try clear p64
          obtain ⟨kq, x66_103, rfl, HA, HJ103, BK294, BK295, BK296, HB⟩ := hcut
          cases kq with
          | zero => exact absurd HA.out (by simp [carillonlaw04_IdentOrder.j1])
          | succ kj103 =>
            have H := HA.out
            clear HA
            simp only [carillonlaw04_IdentOrder.j1] at H
            by_cases c119 : x66_103 = true
            · subst c119
              have H1 : ((carillonlaw04_awake.f kj103).bind fun t303 => (some t303)) = some r := by rw [if_pos rfl] at H; exact H
              clear H
              have H := H1
              clear H1
              replace H := Option.bind_eq_some_iff.mp H
              obtain ⟨t303, A1200, H⟩ := H
              replace H : (some t303) = some r := H
              have A120 := Aside0.mk A1200
              clear A1200
              obtain rfl := Option.some.inj H
              go_wp2_with (first | ((with_reducible refine gate_callee (f := 11) rfl ?_); refine goesL_ (some 67) rfl rfl Try.func11 (by kernel_rfl) rfl #[] rfl (by (try simp only [List.map_toArray, List.map_cons, List.map_nil]); first | done | rfl | (simp only [List.length_drop, List.length_take]; rfl)) ?_; (with_reducible refine (carillonlaw04_awake.calls kj103  t303 _ A120.out).mono ?_); rintro e w121 ⟨rfl, hb⟩; refine ⟨_, rfl, ?_⟩; have n0_ := Aside0.mk (blk_below (g := gb294) (o := .cells #[.int .u64 a0_0, .int .i64 a0_1] 31 (0, 0)) (by (with_reducible repeat (first | refine blk_drewN ?_ _ | refine blk_drew ?_ | refine blk_alloc ?_ _)); exact BK294.out) hb); have n1_ := Aside0.mk (blk_below (g := gb295) (o := .cells #[.int .u64 a1_0, .int .i64 a1_1] 31 (0, 0)) (by (with_reducible repeat (first | refine blk_drewN ?_ _ | refine blk_drew ?_ | refine blk_alloc ?_ _)); exact BK295.out) hb); have n2_ := Aside0.mk (blk_below (g := gb296) (o := .cells #[.int .u64 a2_0, .int .i64 a2_1] 31 (0, 0)) (by (with_reducible repeat (first | refine blk_drewN ?_ _ | refine blk_drew ?_ | refine blk_alloc ?_ _)); exact BK296.out) hb); have n3_ := Aside0.mk (below_step (by repeat (first | (with_reducible first | exact HB.out | apply below_alloc | apply pw_below_drewN | apply below_drew1 | refine below_set ?_ GE294.out | refine below_set ?_ GE295.out | refine below_set ?_ GE296.out) | exact HB.out)) hb); clear BK294; clear BK295; clear BK296; clear HB; have BK294 := n0_; have BK295 := n1_; have BK296 := n2_; have HB := n3_; clear n0_ n1_ n2_ n3_; (try clear hb); (try clear hb2); (try clear hk); (try clear hi)))
              all_goals
                go_ret
                exact ⟨by first | rfl | (simp [errW_none, errW_some] <;> rfl) | (simp [*, errW_none, errW_some] <;> rfl), by repeat (first | (with_reducible first | exact HB.out | apply below_alloc | apply pw_below_drewN | apply below_drew1 | refine below_set ?_ GE294.out | refine below_set ?_ GE295.out | refine below_set ?_ GE296.out) | exact HB.out)⟩
            · replace c119 := Bool.eq_false_iff.mpr c119
              subst c119
              have H1 : ((ident_Put.f ([] : List Int) a0_0 a0_1).bind fun t304 => ((ident_Put.f ([] : List Int) a1_0 a1_1).bind fun t307 => (if ((Op.bytesLess ((strOfNums t304).toList) ((strOfNums t307).toList)) == (decide (t297 < 0))) = true then (if (((strOfNums t304).toList == (strOfNums t307).toList) == (t297 == 0)) = true then ((carillonlaw04_awake.f kj103).bind fun t310 => (some t310)) else (some false)) else (some false)))) = some r := by rw [if_neg (show ¬ (false = true) by decide)] at H; exact H
              clear H
              have H := H1
              clear H1
              replace H := Option.bind_eq_some_iff.mp H
              obtain ⟨t304, A1220, H⟩ := H
              replace H : ((ident_Put.f ([] : List Int) a1_0 a1_1).bind fun t307 => (if ((Op.bytesLess ((strOfNums t304).toList) ((strOfNums t307).toList)) == (decide (t297 < 0))) = true then (if (((strOfNums t304).toList == (strOfNums t307).toList) == (t297 == 0)) = true then ((carillonlaw04_awake.f kj103).bind fun t310 => (some t310)) else (some false)) else (some false))) = some r := H
              have A122 := Aside0.mk A1220
              clear A1220
              replace H := Option.bind_eq_some_iff.mp H
              obtain ⟨t307, A1230, H⟩ := H
              replace H : (if ((Op.bytesLess ((strOfNums t304).toList) ((strOfNums t307).toList)) == (decide (t297 < 0))) = true then (if (((strOfNums t304).toList == (strOfNums t307).toList) == (t297 == 0)) = true then ((carillonlaw04_awake.f kj103).bind fun t310 => (some t310)) else (some false)) else (some false)) = some r := H
              have A123 := Aside0.mk A1230
              clear A1230
              by_cases c124 : ((Op.bytesLess ((strOfNums t304).toList) ((strOfNums t307).toList)) == (decide (t297 < 0))) = true
              · rw [if_pos c124] at H
                have c124b0 : ((Op.bytesLess ((strOfNums t304).toList) ((strOfNums t307).toList)) == (decide (t297 < 0))) = true := c124
                (try (have c124b1 : decide ((Op.bytesLess ((strOfNums t304).toList) ((strOfNums t307).toList)) = (decide (t297 < 0))) = true := by simpa using c124))
                (try (have c124b2 : ((Op.bytesLess ((strOfNums t304).toList) ((strOfNums t307).toList)) == (decide (t297 < 0))) = true := by simpa using c124))
                clear c124
                by_cases c125 : (((strOfNums t304).toList == (strOfNums t307).toList) == (t297 == 0)) = true
                · rw [if_pos c125] at H
                  have c125b0 : (((strOfNums t304).toList == (strOfNums t307).toList) == (t297 == 0)) = true := c125
                  (try (have c125b1 : decide (((strOfNums t304).toList == (strOfNums t307).toList) = (t297 == 0)) = true := by simpa using c125))
                  (try (have c125b2 : (((strOfNums t304).toList == (strOfNums t307).toList) == (t297 == 0)) = true := by simpa using c125))
                  clear c125
                  replace H := Option.bind_eq_some_iff.mp H
                  obtain ⟨t310, A1260, H⟩ := H
                  replace H : (some t310) = some r := H
                  have A126 := Aside0.mk A1260
                  clear A1260
                  obtain rfl := Option.some.inj H
                  try go_wp2
                  have n0_ := Aside0.mk (blk_drew BK294.out)
                  have n1_ := Aside0.mk (blk_drew BK295.out)
                  have n2_ := Aside0.mk (blk_drew BK296.out)
                  have n3_ := Aside0.mk (below_drew1 HB.out)
                  clear BK294
                  clear BK295
                  clear BK296
                  clear HB
                  have BK294 := n0_
                  have BK295 := n1_
                  have BK296 := n2_
                  have HB := n3_
                  clear n0_ n1_ n2_ n3_
                  refine start_ (n := 8) (S := fun w' => w'.cell? ⟨gb294, 0, none⟩ = some (.int .u64 a0_0) ∧ w'.cell? ⟨gb294, 1, none⟩ = some (.int .i64 a0_1) ∧ w'.cell? ⟨gb295, 0, none⟩ = some (.int .u64 a1_0) ∧ w'.cell? ⟨gb295, 1, none⟩ = some (.int .i64 a1_1)) (ds := []) #[false, false, false, false, false, false, false, false] (by kernel_rfl) rfl rfl ⟨(blk_cell BK294.out 0).trans rfl, (blk_cell BK294.out 1).trans rfl, (blk_cell BK295.out 0).trans rfl, (blk_cell BK295.out 1).trans rfl⟩ (fun hHeld => ?_); refine with_tabW carillonlaw04_IdentOrder.tab6 carillonlaw04_IdentOrder.bits6 (fun HT_ HW_ => ?_)
                  generalize wc.drew = w127 at BK294 BK295 BK296 HB hHeld ⊢
                  refine take_ (i := 0) (N := some 68) (v := ?_) (a' := ?_) #[true, false, false, false, false, false, false, false] rfl rfl (take_ofW HT_.out HW_.out (by kernel_rfl)) (fun _ _ _ h => h) (Or.inl ⟨by rfl, ?_⟩) hHeld ?_ ?_
                  rotate_left
                  · rintro w' ⟨s0, s1, s2, s3⟩
                    go_simp
                    with_reducible rfl
                  rotate_left
                  · simp only [Act.put, List.setIfInBounds_toArray, List.set_cons_zero, List.set_cons_succ, i64_w, i32_w]
                    rfl
                  refine take_ (i := 3) (N := some 71) (v := ?_) (a' := ?_) #[true, false, false, true, false, false, false, false] rfl rfl (take_ofW HT_.out HW_.out (by kernel_rfl)) (fun _ _ _ h => h) (Or.inl ⟨by rfl, ?_⟩) hHeld ?_ ?_
                  rotate_left
                  · rintro w' ⟨s0, s1, s2, s3⟩
                    go_simp
                    with_reducible rfl
                  rotate_left
                  · simp only [Act.put, List.setIfInBounds_toArray, List.set_cons_zero, List.set_cons_succ, i64_w, i32_w]
                    rfl
                  refine one_ (i := 1) (N := some 69) #[true, true, false, true, false, false, false, false] rfl rfl (one_of HT_.out (by kernel_rfl)) (by decide) (fun K hK => ?_)
                  refine goes_ Try.func17 (by kernel_rfl) rfl #[.slice none 0 0, .agg #[.int .u64 a0_0, .int .i64 a0_1]] (by rfl) rfl rfl (by (try simp only [List.map_toArray, List.map_cons, List.map_nil]); first | done | rfl | (simp only [List.length_drop, List.length_take]; rfl)) ?_
                  refine (ident_Put.calls _ _ ([] : List Int) a0_0 a0_1 t304 _ ?side1 ?side2 A122.out).mono ?_
                  (case side1 => exact Kd.C_nil _ _)
                  (case side2 => exact Nat.le_refl _)
                  rintro e w128 ⟨v305, rfl, ho0, hb⟩
                  refine ⟨_, rfl, ?_⟩
                  have n0_ := Aside0.mk (Kd.R_lower ho0 (below_size (by repeat (first | (with_reducible first | exact HB.out | apply below_alloc | apply pw_below_drewN | apply below_drew1 | refine below_set ?_ GE294.out | refine below_set ?_ GE295.out | refine below_set ?_ GE296.out) | exact HB.out))))
                  have n1_ := Aside0.mk (blk_below (g := gb294) (o := .cells #[.int .u64 a0_0, .int .i64 a0_1] 31 (0, 0)) (by (with_reducible repeat (first | refine blk_drewN ?_ _ | refine blk_drew ?_ | refine blk_alloc ?_ _)); exact BK294.out) hb)
                  have n2_ := Aside0.mk (blk_below (g := gb295) (o := .cells #[.int .u64 a1_0, .int .i64 a1_1] 31 (0, 0)) (by (with_reducible repeat (first | refine blk_drewN ?_ _ | refine blk_drew ?_ | refine blk_alloc ?_ _)); exact BK295.out) hb)
                  have n3_ := Aside0.mk (blk_below (g := gb296) (o := .cells #[.int .u64 a2_0, .int .i64 a2_1] 31 (0, 0)) (by (with_reducible repeat (first | refine blk_drewN ?_ _ | refine blk_drew ?_ | refine blk_alloc ?_ _)); exact BK296.out) hb)
                  have n4_ := Aside0.mk (below_step (by repeat (first | (with_reducible first | exact HB.out | apply below_alloc | apply pw_below_drewN | apply below_drew1 | refine below_set ?_ GE294.out | refine below_set ?_ GE295.out | refine below_set ?_ GE296.out) | exact HB.out)) hb)
                  clear BK294
                  clear BK295
                  clear BK296
                  clear HB
                  have HO306 := n0_
                  have BK294 := n1_
                  have BK295 := n2_
                  have BK296 := n3_
                  have HB := n4_
                  clear n0_ n1_ n2_ n3_ n4_
                  (try clear hb)
                  (try clear hb2)
                  (try clear hk)
                  (try clear hi)
                  (try clear ho0)
                  refine hK.out _ _ ⟨(blk_cell BK294.out 0).trans rfl, (blk_cell BK294.out 1).trans rfl, (blk_cell BK295.out 0).trans rfl, (blk_cell BK295.out 1).trans rfl⟩ (fun hHeld => ?_)
                  clear hK K
                  refine norm_ (a' := ?_) ?_ ?_
                  rotate_left
                  · show Act.put _ (some 69) _ = _
                    simp only [Act.put, List.setIfInBounds_toArray, List.set_cons_zero, List.set_cons_succ, i64_w, i32_w]
                    rfl
                  refine join_ (σ := Value) 1 #[true, true, true, true, true, true, true, false] (fun s_ => [(70, .string (strOfNums t304)), (72, s_), (73, .string (strOfNums t307)), (10, .string (strOfNums t304))]) (fun s_ w' => (w'.cell? ⟨gb294, 0, none⟩ = some (.int .u64 a0_0) ∧ w'.cell? ⟨gb294, 1, none⟩ = some (.int .i64 a0_1) ∧ w'.cell? ⟨gb295, 0, none⟩ = some (.int .u64 a1_0) ∧ w'.cell? ⟨gb295, 1, none⟩ = some (.int .i64 a1_1)) ∧ (Kd.R (Kd.int .u8) 5 w' w.heap.size (fun k_ => some k_ ≠ (s_ : Value).ownBlock) v305 t304) ∧ (Kd.R (Kd.int .u8) 5 w' w.heap.size (fun k_ => some k_ ≠ (v305 : Value).ownBlock) s_ t307) ∧ (w'.heap[gb294]? = some (.cells #[.int .u64 a0_0, .int .i64 a0_1] 31 (0, 0))) ∧ (w'.heap[gb295]? = some (.cells #[.int .u64 a1_0, .int .i64 a1_1] 31 (0, 0))) ∧ (w'.heap[gb296]? = some (.cells #[.int .u64 a2_0, .int .i64 a2_1] 31 (0, 0))) ∧ (Below w.heap.size w w')) ?_ ?_
                  rotate_left
                  · intro hCont
                    refine two_ (i := 2) (j := 4) (Ni := some 70) (Nj := some 72) #[true, true, true, true, false, false, false, false] #[true, true, false, true, true, false, false, false] rfl rfl rfl rfl (two_of HT_.out (by kernel_rfl)) (by decide) (by decide) (fun K hK => ?_) (fun K hK => ?_)
                    · skip
                      have hcv129 := own_string (P := Try.prog) Try.underlying23 Try.underlying5 Try.underlying9 (Kd.own_of_R HO306.out)
                      refine value_ (w1 := ?_) (v := ?_) (by rfl) rfl ?_ ?_
                      rotate_left 2
                      · go_simp
                        constructor
                        · rfl
                        · rfl
                      clear hcv129
                      refine hK.out _ _ ⟨(blk_cell BK294.out 0).trans rfl, (blk_cell BK294.out 1).trans rfl, (blk_cell BK295.out 0).trans rfl, (blk_cell BK295.out 1).trans rfl⟩ (fun hHeld => ?_)
                      clear hK K
                      refine norm_ (a' := ?_) ?_ ?_
                      rotate_left
                      · show Act.put _ (some 70) _ = _
                        simp only [Act.put, List.setIfInBounds_toArray, List.set_cons_zero, List.set_cons_succ, i64_w, i32_w]
                        rfl
                      refine one_ (i := 4) (N := some 72) #[true, true, true, true, true, false, false, false] rfl rfl (one_of HT_.out (by kernel_rfl)) (by decide) (fun K hK => ?_)
                      refine goes_ Try.func17 (by kernel_rfl) rfl #[.slice none 0 0, .agg #[.int .u64 a1_0, .int .i64 a1_1]] (by rfl) rfl rfl (by (try simp only [List.map_toArray, List.map_cons, List.map_nil]); first | done | rfl | (simp only [List.length_drop, List.length_take]; rfl)) ?_
                      refine (ident_Put.calls _ _ ([] : List Int) a1_0 a1_1 t307 _ ?side1 ?side2 A123.out).mono ?_
                      (case side1 => exact Kd.C_nil _ _)
                      (case side2 => exact Nat.le_refl _)
                      rintro e w130 ⟨v308, rfl, ho0, hb⟩
                      refine ⟨_, rfl, ?_⟩
                      have n0_ := Aside0.mk (Kd.R_elder' (by (with_reducible repeat (first | apply Kd.R_alloc | apply Kd.R_drewN | apply Kd.R_drew)); exact HO306.out) (Kd.R_base ho0) hb)
                      have n1_ := Aside0.mk (Kd.R_lower (Kd.R_new' ho0 (Kd.R_lt (by (with_reducible repeat (first | apply Kd.R_alloc | apply Kd.R_drewN | apply Kd.R_drew)); exact HO306.out))) (below_size (by repeat (first | (with_reducible first | exact HB.out | apply below_alloc | apply pw_below_drewN | apply below_drew1 | refine below_set ?_ GE294.out | refine below_set ?_ GE295.out | refine below_set ?_ GE296.out) | exact HB.out))))
                      have n2_ := Aside0.mk (blk_below (g := gb294) (o := .cells #[.int .u64 a0_0, .int .i64 a0_1] 31 (0, 0)) (by (with_reducible repeat (first | refine blk_drewN ?_ _ | refine blk_drew ?_ | refine blk_alloc ?_ _)); exact BK294.out) hb)
                      have n3_ := Aside0.mk (blk_below (g := gb295) (o := .cells #[.int .u64 a1_0, .int .i64 a1_1] 31 (0, 0)) (by (with_reducible repeat (first | refine blk_drewN ?_ _ | refine blk_drew ?_ | refine blk_alloc ?_ _)); exact BK295.out) hb)
                      have n4_ := Aside0.mk (blk_below (g := gb296) (o := .cells #[.int .u64 a2_0, .int .i64 a2_1] 31 (0, 0)) (by (with_reducible repeat (first | refine blk_drewN ?_ _ | refine blk_drew ?_ | refine blk_alloc ?_ _)); exact BK296.out) hb)
                      have n5_ := Aside0.mk (below_step (by repeat (first | (with_reducible first | exact HB.out | apply below_alloc | apply pw_below_drewN | apply below_drew1 | refine below_set ?_ GE294.out | refine below_set ?_ GE295.out | refine below_set ?_ GE296.out) | exact HB.out)) hb)
                      clear HO306
                      clear BK294
                      clear BK295
                      clear BK296
                      clear HB
                      have HO306 := n0_
                      have HO309 := n1_
                      have BK294 := n2_
                      have BK295 := n3_
                      have BK296 := n4_
                      have HB := n5_
                      clear n0_ n1_ n2_ n3_ n4_ n5_
                      (try clear hb)
                      (try clear hb2)
                      (try clear hk)
                      (try clear hi)
                      (try clear ho0)
                      refine hK.out _ _ ⟨(blk_cell BK294.out 0).trans rfl, (blk_cell BK294.out 1).trans rfl, (blk_cell BK295.out 0).trans rfl, (blk_cell BK295.out 1).trans rfl⟩ (fun hHeld => ?_)
                      clear hK K
                      refine norm_ (a' := ?_) ?_ ?_
                      rotate_left
                      · show Act.put _ (some 72) _ = _
                        simp only [Act.put, List.setIfInBounds_toArray, List.set_cons_zero, List.set_cons_succ, i64_w, i32_w]
                        rfl
                      refine pure_ (i := 6) (N := some 10) (v := ?_) (a' := ?_) #[true, true, true, true, true, false, true, false] rfl rfl (any_of HT_.out (by kernel_rfl)) (fun _ _ _ h => h) (Or.inl ⟨by rfl, ?_⟩) ?_ ?_
                      rotate_left
                      · intro w'
                        go_simp
                        with_reducible rfl
                      rotate_left
                      · simp only [Act.put, List.setIfInBounds_toArray, List.set_cons_zero, List.set_cons_succ, i64_w, i32_w]
                        rfl
                      refine one_ (i := 5) (N := some 73) #[true, true, true, true, true, true, true, false] rfl rfl (one_of HT_.out (by kernel_rfl)) (by decide) (fun K hK => ?_)
                      have hcv131 := own_string (P := Try.prog) Try.underlying23 Try.underlying5 Try.underlying9 (Kd.own_of_R HO309.out)
                      refine value_ (w1 := ?_) (v := ?_) (by rfl) rfl ?_ ?_
                      rotate_left 2
                      · go_simp
                        constructor
                        · rfl
                        · rfl
                      clear hcv131
                      refine hK.out _ _ ⟨(blk_cell BK294.out 0).trans rfl, (blk_cell BK294.out 1).trans rfl, (blk_cell BK295.out 0).trans rfl, (blk_cell BK295.out 1).trans rfl⟩ (fun hHeld => ?_)
                      clear hK K
                      refine norm_ (a' := ?_) ?_ ?_
                      rotate_left
                      · show Act.put _ (some 73) _ = _
                        simp only [Act.put, List.setIfInBounds_toArray, List.set_cons_zero, List.set_cons_succ, i64_w, i32_w]
                        rfl
                      exact norm_ (by simp only [putAll, Act.put, List.setIfInBounds_toArray, List.set_cons_zero, List.set_cons_succ]) (hCont (v308) _ ⟨hHeld, (by (with_reducible repeat (first | apply Kd.R_alloc | apply Kd.R_drewN | apply Kd.R_drew)); exact Kd.R_mono HO306.out (fun _ hk => hk.2)), (by (with_reducible repeat (first | apply Kd.R_alloc | apply Kd.R_drewN | apply Kd.R_drew)); exact Kd.R_mono HO309.out (fun _ hk => hk.2)), (by (with_reducible repeat (first | refine blk_drewN ?_ _ | refine blk_drew ?_ | refine blk_alloc ?_ _)); exact BK294.out), (by (with_reducible repeat (first | refine blk_drewN ?_ _ | refine blk_drew ?_ | refine blk_alloc ?_ _)); exact BK295.out), (by (with_reducible repeat (first | refine blk_drewN ?_ _ | refine blk_drew ?_ | refine blk_alloc ?_ _)); exact BK296.out), (by repeat (first | (with_reducible first | exact HB.out | apply below_alloc | apply pw_below_drewN | apply below_drew1 | refine below_set ?_ GE294.out | refine below_set ?_ GE295.out | refine below_set ?_ GE296.out) | exact HB.out))⟩)
                    · skip
                      refine goes_ Try.func17 (by kernel_rfl) rfl #[.slice none 0 0, .agg #[.int .u64 a1_0, .int .i64 a1_1]] (by rfl) rfl rfl (by (try simp only [List.map_toArray, List.map_cons, List.map_nil]); first | done | rfl | (simp only [List.length_drop, List.length_take]; rfl)) ?_
                      refine (ident_Put.calls _ _ ([] : List Int) a1_0 a1_1 t307 _ ?side1 ?side2 A123.out).mono ?_
                      (case side1 => exact Kd.C_nil _ _)
                      (case side2 => exact Nat.le_refl _)
                      rintro e w129 ⟨v308, rfl, ho0, hb⟩
                      refine ⟨_, rfl, ?_⟩
                      have n0_ := Aside0.mk (Kd.R_elder' (by (with_reducible repeat (first | apply Kd.R_alloc | apply Kd.R_drewN | apply Kd.R_drew)); exact HO306.out) (Kd.R_base ho0) hb)
                      have n1_ := Aside0.mk (Kd.R_lower (Kd.R_new' ho0 (Kd.R_lt (by (with_reducible repeat (first | apply Kd.R_alloc | apply Kd.R_drewN | apply Kd.R_drew)); exact HO306.out))) (below_size (by repeat (first | (with_reducible first | exact HB.out | apply below_alloc | apply pw_below_drewN | apply below_drew1 | refine below_set ?_ GE294.out | refine below_set ?_ GE295.out | refine below_set ?_ GE296.out) | exact HB.out))))
                      have n2_ := Aside0.mk (blk_below (g := gb294) (o := .cells #[.int .u64 a0_0, .int .i64 a0_1] 31 (0, 0)) (by (with_reducible repeat (first | refine blk_drewN ?_ _ | refine blk_drew ?_ | refine blk_alloc ?_ _)); exact BK294.out) hb)
                      have n3_ := Aside0.mk (blk_below (g := gb295) (o := .cells #[.int .u64 a1_0, .int .i64 a1_1] 31 (0, 0)) (by (with_reducible repeat (first | refine blk_drewN ?_ _ | refine blk_drew ?_ | refine blk_alloc ?_ _)); exact BK295.out) hb)
                      have n4_ := Aside0.mk (blk_below (g := gb296) (o := .cells #[.int .u64 a2_0, .int .i64 a2_1] 31 (0, 0)) (by (with_reducible repeat (first | refine blk_drewN ?_ _ | refine blk_drew ?_ | refine blk_alloc ?_ _)); exact BK296.out) hb)
                      have n5_ := Aside0.mk (below_step (by repeat (first | (with_reducible first | exact HB.out | apply below_alloc | apply pw_below_drewN | apply below_drew1 | refine below_set ?_ GE294.out | refine below_set ?_ GE295.out | refine below_set ?_ GE296.out) | exact HB.out)) hb)
                      clear HO306
                      clear BK294
                      clear BK295
                      clear BK296
                      clear HB
                      have HO306 := n0_
                      have HO309 := n1_
                      have BK294 := n2_
                      have BK295 := n3_
                      have BK296 := n4_
                      have HB := n5_
                      clear n0_ n1_ n2_ n3_ n4_ n5_
                      (try clear hb)
                      (try clear hb2)
                      (try clear hk)
                      (try clear hi)
                      (try clear ho0)
                      refine hK.out _ _ ⟨(blk_cell BK294.out 0).trans rfl, (blk_cell BK294.out 1).trans rfl, (blk_cell BK295.out 0).trans rfl, (blk_cell BK295.out 1).trans rfl⟩ (fun hHeld => ?_)
                      clear hK K
                      refine norm_ (a' := ?_) ?_ ?_
                      rotate_left
                      · show Act.put _ (some 72) _ = _
                        simp only [Act.put, List.setIfInBounds_toArray, List.set_cons_zero, List.set_cons_succ, i64_w, i32_w]
                        rfl
                      refine two_ (i := 2) (j := 5) (Ni := some 70) (Nj := some 73) #[true, true, true, true, true, false, false, false] #[true, true, false, true, true, true, false, false] rfl rfl rfl rfl (two_of HT_.out (by kernel_rfl)) (by decide) (by decide) (fun K hK => ?_) (fun K hK => ?_)
                      · skip
                        have hcv130 := own_string (P := Try.prog) Try.underlying23 Try.underlying5 Try.underlying9 (Kd.own_of_R HO306.out)
                        refine value_ (w1 := ?_) (v := ?_) (by rfl) rfl ?_ ?_
                        rotate_left 2
                        · go_simp
                          constructor
                          · rfl
                          · rfl
                        clear hcv130
                        refine hK.out _ _ ⟨(blk_cell BK294.out 0).trans rfl, (blk_cell BK294.out 1).trans rfl, (blk_cell BK295.out 0).trans rfl, (blk_cell BK295.out 1).trans rfl⟩ (fun hHeld => ?_)
                        clear hK K
                        refine norm_ (a' := ?_) ?_ ?_
                        rotate_left
                        · show Act.put _ (some 70) _ = _
                          simp only [Act.put, List.setIfInBounds_toArray, List.set_cons_zero, List.set_cons_succ, i64_w, i32_w]
                          rfl
                        refine pure_ (i := 6) (N := some 10) (v := ?_) (a' := ?_) #[true, true, true, true, true, false, true, false] rfl rfl (any_of HT_.out (by kernel_rfl)) (fun _ _ _ h => h) (Or.inl ⟨by rfl, ?_⟩) ?_ ?_
                        rotate_left
                        · intro w'
                          go_simp
                          with_reducible rfl
                        rotate_left
                        · simp only [Act.put, List.setIfInBounds_toArray, List.set_cons_zero, List.set_cons_succ, i64_w, i32_w]
                          rfl
                        refine one_ (i := 5) (N := some 73) #[true, true, true, true, true, true, true, false] rfl rfl (one_of HT_.out (by kernel_rfl)) (by decide) (fun K hK => ?_)
                        have hcv131 := own_string (P := Try.prog) Try.underlying23 Try.underlying5 Try.underlying9 (Kd.own_of_R HO309.out)
                        refine value_ (w1 := ?_) (v := ?_) (by rfl) rfl ?_ ?_
                        rotate_left 2
                        · go_simp
                          constructor
                          · rfl
                          · rfl
                        clear hcv131
                        refine hK.out _ _ ⟨(blk_cell BK294.out 0).trans rfl, (blk_cell BK294.out 1).trans rfl, (blk_cell BK295.out 0).trans rfl, (blk_cell BK295.out 1).trans rfl⟩ (fun hHeld => ?_)
                        clear hK K
                        refine norm_ (a' := ?_) ?_ ?_
                        rotate_left
                        · show Act.put _ (some 73) _ = _
                          simp only [Act.put, List.setIfInBounds_toArray, List.set_cons_zero, List.set_cons_succ, i64_w, i32_w]
                          rfl
                        exact norm_ (by simp only [putAll, Act.put, List.setIfInBounds_toArray, List.set_cons_zero, List.set_cons_succ]) (hCont (v308) _ ⟨hHeld, (by (with_reducible repeat (first | apply Kd.R_alloc | apply Kd.R_drewN | apply Kd.R_drew)); exact Kd.R_mono HO306.out (fun _ hk => hk.2)), (by (with_reducible repeat (first | apply Kd.R_alloc | apply Kd.R_drewN | apply Kd.R_drew)); exact Kd.R_mono HO309.out (fun _ hk => hk.2)), (by (with_reducible repeat (first | refine blk_drewN ?_ _ | refine blk_drew ?_ | refine blk_alloc ?_ _)); exact BK294.out), (by (with_reducible repeat (first | refine blk_drewN ?_ _ | refine blk_drew ?_ | refine blk_alloc ?_ _)); exact BK295.out), (by (with_reducible repeat (first | refine blk_drewN ?_ _ | refine blk_drew ?_ | refine blk_alloc ?_ _)); exact BK296.out), (by repeat (first | (with_reducible first | exact HB.out | apply below_alloc | apply pw_below_drewN | apply below_drew1 | refine below_set ?_ GE294.out | refine below_set ?_ GE295.out | refine below_set ?_ GE296.out) | exact HB.out))⟩)
                      · skip
                        have hcv130 := own_string (P := Try.prog) Try.underlying23 Try.underlying5 Try.underlying9 (Kd.own_of_R HO309.out)
                        refine value_ (w1 := ?_) (v := ?_) (by rfl) rfl ?_ ?_
                        rotate_left 2
                        · go_simp
                          constructor
                          · rfl
                          · rfl
                        clear hcv130
                        refine hK.out _ _ ⟨(blk_cell BK294.out 0).trans rfl, (blk_cell BK294.out 1).trans rfl, (blk_cell BK295.out 0).trans rfl, (blk_cell BK295.out 1).trans rfl⟩ (fun hHeld => ?_)
                        clear hK K
                        refine norm_ (a' := ?_) ?_ ?_
                        rotate_left
                        · show Act.put _ (some 73) _ = _
                          simp only [Act.put, List.setIfInBounds_toArray, List.set_cons_zero, List.set_cons_succ, i64_w, i32_w]
                          rfl
                        refine one_ (i := 2) (N := some 70) #[true, true, true, true, true, true, false, false] rfl rfl (one_of HT_.out (by kernel_rfl)) (by decide) (fun K hK => ?_)
                        have hcv131 := own_string (P := Try.prog) Try.underlying23 Try.underlying5 Try.underlying9 (Kd.own_of_R HO306.out)
                        refine value_ (w1 := ?_) (v := ?_) (by rfl) rfl ?_ ?_
                        rotate_left 2
                        · go_simp
                          constructor
                          · rfl
                          · rfl
                        clear hcv131
                        refine hK.out _ _ ⟨(blk_cell BK294.out 0).trans rfl, (blk_cell BK294.out 1).trans rfl, (blk_cell BK295.out 0).trans rfl, (blk_cell BK295.out 1).trans rfl⟩ (fun hHeld => ?_)
                        clear hK K
                        refine norm_ (a' := ?_) ?_ ?_
                        rotate_left
                        · show Act.put _ (some 70) _ = _
                          simp only [Act.put, List.setIfInBounds_toArray, List.set_cons_zero, List.set_cons_succ, i64_w, i32_w]
                          rfl
                        refine pure_ (i := 6) (N := some 10) (v := ?_) (a' := ?_) #[true, true, true, true, true, true, true, false] rfl rfl (any_of HT_.out (by kernel_rfl)) (fun _ _ _ h => h) (Or.inl ⟨by rfl, ?_⟩) ?_ ?_
                        rotate_left
                        · intro w'
                          go_simp
                          with_reducible rfl
                        rotate_left
                        · simp only [Act.put, List.setIfInBounds_toArray, List.set_cons_zero, List.set_cons_succ, i64_w, i32_w]
                          rfl
                        exact norm_ (by simp only [putAll, Act.put, List.setIfInBounds_toArray, List.set_cons_zero, List.set_cons_succ]) (hCont (v308) _ ⟨hHeld, (by (with_reducible repeat (first | apply Kd.R_alloc | apply Kd.R_drewN | apply Kd.R_drew)); exact Kd.R_mono HO306.out (fun _ hk => hk.2)), (by (with_reducible repeat (first | apply Kd.R_alloc | apply Kd.R_drewN | apply Kd.R_drew)); exact Kd.R_mono HO309.out (fun _ hk => hk.2)), (by (with_reducible repeat (first | refine blk_drewN ?_ _ | refine blk_drew ?_ | refine blk_alloc ?_ _)); exact BK294.out), (by (with_reducible repeat (first | refine blk_drewN ?_ _ | refine blk_drew ?_ | refine blk_alloc ?_ _)); exact BK295.out), (by (with_reducible repeat (first | refine blk_drewN ?_ _ | refine blk_drew ?_ | refine blk_alloc ?_ _)); exact BK296.out), (by repeat (first | (with_reducible first | exact HB.out | apply below_alloc | apply pw_below_drewN | apply below_drew1 | refine below_set ?_ GE294.out | refine below_set ?_ GE295.out | refine below_set ?_ GE296.out) | exact HB.out))⟩)
                  rintro v308 w132 ⟨hS_, h0_, h1_, h2_, h3_, h4_, h5_⟩
                  have n0_ : Aside0 (Kd.R (Kd.int .u8) 5 w132 w.heap.size (fun k_ => some k_ ≠ (v308 : Value).ownBlock) v305 t304) := ⟨h0_⟩
                  have n1_ : Aside0 (Kd.R (Kd.int .u8) 5 w132 w.heap.size (fun k_ => some k_ ≠ (v305 : Value).ownBlock) v308 t307) := ⟨h1_⟩
                  have n2_ : Aside0 (w132.heap[gb294]? = some (.cells #[.int .u64 a0_0, .int .i64 a0_1] 31 (0, 0))) := ⟨h2_⟩
                  have n3_ : Aside0 (w132.heap[gb295]? = some (.cells #[.int .u64 a1_0, .int .i64 a1_1] 31 (0, 0))) := ⟨h3_⟩
                  have n4_ : Aside0 (w132.heap[gb296]? = some (.cells #[.int .u64 a2_0, .int .i64 a2_1] 31 (0, 0))) := ⟨h4_⟩
                  have n5_ : Aside0 (Below w.heap.size w w132) := ⟨h5_⟩
                  clear BK294
                  clear BK295
                  clear BK296
                  clear HB
                  clear h0_ h1_ h2_ h3_ h4_ h5_
                  have HO306 := n0_
                  have HO309 := n1_
                  have BK294 := n2_
                  have BK295 := n3_
                  have BK296 := n4_
                  have HB := n5_
                  clear n0_ n1_ n2_ n3_ n4_ n5_
                  have hHeld : w132.cell? ⟨gb294, 0, none⟩ = some (.int .u64 a0_0) ∧ w132.cell? ⟨gb294, 1, none⟩ = some (.int .i64 a0_1) ∧ w132.cell? ⟨gb295, 0, none⟩ = some (.int .u64 a1_0) ∧ w132.cell? ⟨gb295, 1, none⟩ = some (.int .i64 a1_1) := hS_
                  refine norm_ (a' := ?_) ?_ ?_
                  rotate_left
                  · simp only [putAll, Act.put, List.setIfInBounds_toArray, List.set_cons_zero, List.set_cons_succ]
                    rfl
                  refine pure_ (i := 7) (N := some 11) (v := ?_) (a' := ?_) #[true, true, true, true, true, true, true, true] rfl rfl (any_of HT_.out (by kernel_rfl)) (fun _ _ _ h => h) (Or.inl ⟨by rfl, ?_⟩) ?_ ?_
                  rotate_left
                  · intro w'
                    go_simp
                    with_reducible rfl
                  rotate_left
                  · simp only [Act.put, List.setIfInBounds_toArray, List.set_cons_zero, List.set_cons_succ, i64_w, i32_w]
                    rfl
                  refine done_ (done_of HT_.out (by kernel_rfl)) ?_
                  try go_wp2_with (first | (go_at_call 11; (with_reducible refine (carillonlaw04_awake.calls kj103  t310 _ A126.out).mono ?_); rintro e w133 ⟨rfl, hb⟩; have n0_ := Aside0.mk (Kd.R_below (by (with_reducible repeat (first | apply Kd.R_alloc | apply Kd.R_drewN | apply Kd.R_drew)); exact HO306.out) hb); have n1_ := Aside0.mk (Kd.R_below (by (with_reducible repeat (first | apply Kd.R_alloc | apply Kd.R_drewN | apply Kd.R_drew)); exact HO309.out) hb); have n2_ := Aside0.mk (blk_below (g := gb294) (o := .cells #[.int .u64 a0_0, .int .i64 a0_1] 31 (0, 0)) (by (with_reducible repeat (first | refine blk_drewN ?_ _ | refine blk_drew ?_ | refine blk_alloc ?_ _)); exact BK294.out) hb); have n3_ := Aside0.mk (blk_below (g := gb295) (o := .cells #[.int .u64 a1_0, .int .i64 a1_1] 31 (0, 0)) (by (with_reducible repeat (first | refine blk_drewN ?_ _ | refine blk_drew ?_ | refine blk_alloc ?_ _)); exact BK295.out) hb); have n4_ := Aside0.mk (blk_below (g := gb296) (o := .cells #[.int .u64 a2_0, .int .i64 a2_1] 31 (0, 0)) (by (with_reducible repeat (first | refine blk_drewN ?_ _ | refine blk_drew ?_ | refine blk_alloc ?_ _)); exact BK296.out) hb); have n5_ := Aside0.mk (below_step (by repeat (first | (with_reducible first | exact HB.out | apply below_alloc | apply pw_below_drewN | apply below_drew1 | refine below_set ?_ GE294.out | refine below_set ?_ GE295.out | refine below_set ?_ GE296.out) | exact HB.out)) hb); clear HO306; clear HO309; clear BK294; clear BK295; clear BK296; clear HB; have HO306 := n0_; have HO309 := n1_; have BK294 := n2_; have BK295 := n3_; have BK296 := n4_; have HB := n5_; clear n0_ n1_ n2_ n3_ n4_ n5_; (try clear hb); (try clear hb2); (try clear hk); (try clear hi)))
                  all_goals
                    go_ret
                    exact ⟨by first | rfl | (simp [errW_none, errW_some] <;> rfl) | (simp [*, errW_none, errW_some] <;> rfl), by repeat (first | (with_reducible first | exact HB.out | apply below_alloc | apply pw_below_drewN | apply below_drew1 | refine below_set ?_ GE294.out | refine below_set ?_ GE295.out | refine below_set ?_ GE296.out) | exact HB.out)⟩
                · rw [if_neg c125] at H
                  have c125b0 : (((strOfNums t304).toList == (strOfNums t307).toList) == (t297 == 0)) = false := by simpa using c125
                  (try (have c125b1 : decide (((strOfNums t304).toList == (strOfNums t307).toList) = (t297 == 0)) = false := by simpa using c125))
                  (try (have c125b2 : (((strOfNums t304).toList == (strOfNums t307).toList) == (t297 == 0)) = false := by simpa using c125))
                  (try (have c125b3 : ¬ (((strOfNums t304).toList == (strOfNums t307).toList) = (t297 == 0)) := by simpa using c125))
                  clear c125
                  obtain rfl := Option.some.inj H
                  try go_wp2
                  have n0_ := Aside0.mk (blk_drew BK294.out)
                  have n1_ := Aside0.mk (blk_drew BK295.out)
                  have n2_ := Aside0.mk (blk_drew BK296.out)
                  have n3_ := Aside0.mk (below_drew1 HB.out)
                  clear BK294
                  clear BK295
                  clear BK296
                  clear HB
                  have BK294 := n0_
                  have BK295 := n1_
                  have BK296 := n2_
                  have HB := n3_
                  clear n0_ n1_ n2_ n3_
                  refine start_ (n := 8) (S := fun w' => w'.cell? ⟨gb294, 0, none⟩ = some (.int .u64 a0_0) ∧ w'.cell? ⟨gb294, 1, none⟩ = some (.int .i64 a0_1) ∧ w'.cell? ⟨gb295, 0, none⟩ = some (.int .u64 a1_0) ∧ w'.cell? ⟨gb295, 1, none⟩ = some (.int .i64 a1_1)) (ds := []) #[false, false, false, false, false, false, false, false] (by kernel_rfl) rfl rfl ⟨(blk_cell BK294.out 0).trans rfl, (blk_cell BK294.out 1).trans rfl, (blk_cell BK295.out 0).trans rfl, (blk_cell BK295.out 1).trans rfl⟩ (fun hHeld => ?_); refine with_tabW carillonlaw04_IdentOrder.tab6 carillonlaw04_IdentOrder.bits6 (fun HT_ HW_ => ?_)
                  generalize wc.drew = w134 at BK294 BK295 BK296 HB hHeld ⊢
                  refine take_ (i := 0) (N := some 68) (v := ?_) (a' := ?_) #[true, false, false, false, false, false, false, false] rfl rfl (take_ofW HT_.out HW_.out (by kernel_rfl)) (fun _ _ _ h => h) (Or.inl ⟨by rfl, ?_⟩) hHeld ?_ ?_
                  rotate_left
                  · rintro w' ⟨s0, s1, s2, s3⟩
                    go_simp
                    with_reducible rfl
                  rotate_left
                  · simp only [Act.put, List.setIfInBounds_toArray, List.set_cons_zero, List.set_cons_succ, i64_w, i32_w]
                    rfl
                  refine take_ (i := 3) (N := some 71) (v := ?_) (a' := ?_) #[true, false, false, true, false, false, false, false] rfl rfl (take_ofW HT_.out HW_.out (by kernel_rfl)) (fun _ _ _ h => h) (Or.inl ⟨by rfl, ?_⟩) hHeld ?_ ?_
                  rotate_left
                  · rintro w' ⟨s0, s1, s2, s3⟩
                    go_simp
                    with_reducible rfl
                  rotate_left
                  · simp only [Act.put, List.setIfInBounds_toArray, List.set_cons_zero, List.set_cons_succ, i64_w, i32_w]
                    rfl
                  refine one_ (i := 1) (N := some 69) #[true, true, false, true, false, false, false, false] rfl rfl (one_of HT_.out (by kernel_rfl)) (by decide) (fun K hK => ?_)
                  refine goes_ Try.func17 (by kernel_rfl) rfl #[.slice none 0 0, .agg #[.int .u64 a0_0, .int .i64 a0_1]] (by rfl) rfl rfl (by (try simp only [List.map_toArray, List.map_cons, List.map_nil]); first | done | rfl | (simp only [List.length_drop, List.length_take]; rfl)) ?_
                  refine (ident_Put.calls _ _ ([] : List Int) a0_0 a0_1 t304 _ ?side1 ?side2 A122.out).mono ?_
                  (case side1 => exact Kd.C_nil _ _)
                  (case side2 => exact Nat.le_refl _)
                  rintro e w135 ⟨v305, rfl, ho0, hb⟩
                  refine ⟨_, rfl, ?_⟩
                  have n0_ := Aside0.mk (Kd.R_lower ho0 (below_size (by repeat (first | (with_reducible first | exact HB.out | apply below_alloc | apply pw_below_drewN | apply below_drew1 | refine below_set ?_ GE294.out | refine below_set ?_ GE295.out | refine below_set ?_ GE296.out) | exact HB.out))))
                  have n1_ := Aside0.mk (blk_below (g := gb294) (o := .cells #[.int .u64 a0_0, .int .i64 a0_1] 31 (0, 0)) (by (with_reducible repeat (first | refine blk_drewN ?_ _ | refine blk_drew ?_ | refine blk_alloc ?_ _)); exact BK294.out) hb)
                  have n2_ := Aside0.mk (blk_below (g := gb295) (o := .cells #[.int .u64 a1_0, .int .i64 a1_1] 31 (0, 0)) (by (with_reducible repeat (first | refine blk_drewN ?_ _ | refine blk_drew ?_ | refine blk_alloc ?_ _)); exact BK295.out) hb)
                  have n3_ := Aside0.mk (blk_below (g := gb296) (o := .cells #[.int .u64 a2_0, .int .i64 a2_1] 31 (0, 0)) (by (with_reducible repeat (first | refine blk_drewN ?_ _ | refine blk_drew ?_ | refine blk_alloc ?_ _)); exact BK296.out) hb)
                  have n4_ := Aside0.mk (below_step (by repeat (first | (with_reducible first | exact HB.out | apply below_alloc | apply pw_below_drewN | apply below_drew1 | refine below_set ?_ GE294.out | refine below_set ?_ GE295.out | refine below_set ?_ GE296.out) | exact HB.out)) hb)
                  clear BK294
                  clear BK295
                  clear BK296
                  clear HB
                  have HO306 := n0_
                  have BK294 := n1_
                  have BK295 := n2_
                  have BK296 := n3_
                  have HB := n4_
                  clear n0_ n1_ n2_ n3_ n4_
                  (try clear hb)
                  (try clear hb2)
                  (try clear hk)
                  (try clear hi)
                  (try clear ho0)
                  refine hK.out _ _ ⟨(blk_cell BK294.out 0).trans rfl, (blk_cell BK294.out 1).trans rfl, (blk_cell BK295.out 0).trans rfl, (blk_cell BK295.out 1).trans rfl⟩ (fun hHeld => ?_)
                  clear hK K
                  refine norm_ (a' := ?_) ?_ ?_
                  rotate_left
                  · show Act.put _ (some 69) _ = _
                    simp only [Act.put, List.setIfInBounds_toArray, List.set_cons_zero, List.set_cons_succ, i64_w, i32_w]
                    rfl
                  refine join_ (σ := Value) 1 #[true, true, true, true, true, true, true, false] (fun s_ => [(70, .string (strOfNums t304)), (72, s_), (73, .string (strOfNums t307)), (10, .string (strOfNums t304))]) (fun s_ w' => (w'.cell? ⟨gb294, 0, none⟩ = some (.int .u64 a0_0) ∧ w'.cell? ⟨gb294, 1, none⟩ = some (.int .i64 a0_1) ∧ w'.cell? ⟨gb295, 0, none⟩ = some (.int .u64 a1_0) ∧ w'.cell? ⟨gb295, 1, none⟩ = some (.int .i64 a1_1)) ∧ (Kd.R (Kd.int .u8) 5 w' w.heap.size (fun k_ => some k_ ≠ (s_ : Value).ownBlock) v305 t304) ∧ (Kd.R (Kd.int .u8) 5 w' w.heap.size (fun k_ => some k_ ≠ (v305 : Value).ownBlock) s_ t307) ∧ (w'.heap[gb294]? = some (.cells #[.int .u64 a0_0, .int .i64 a0_1] 31 (0, 0))) ∧ (w'.heap[gb295]? = some (.cells #[.int .u64 a1_0, .int .i64 a1_1] 31 (0, 0))) ∧ (w'.heap[gb296]? = some (.cells #[.int .u64 a2_0, .int .i64 a2_1] 31 (0, 0))) ∧ (Below w.heap.size w w')) ?_ ?_
                  rotate_left
                  · intro hCont
                    refine two_ (i := 2) (j := 4) (Ni := some 70) (Nj := some 72) #[true, true, true, true, false, false, false, false] #[true, true, false, true, true, false, false, false] rfl rfl rfl rfl (two_of HT_.out (by kernel_rfl)) (by decide) (by decide) (fun K hK => ?_) (fun K hK => ?_)
                    · skip
                      have hcv136 := own_string (P := Try.prog) Try.underlying23 Try.underlying5 Try.underlying9 (Kd.own_of_R HO306.out)
                      refine value_ (w1 := ?_) (v := ?_) (by rfl) rfl ?_ ?_
                      rotate_left 2
                      · go_simp
                        constructor
                        · rfl
                        · rfl
                      clear hcv136
                      refine hK.out _ _ ⟨(blk_cell BK294.out 0).trans rfl, (blk_cell BK294.out 1).trans rfl, (blk_cell BK295.out 0).trans rfl, (blk_cell BK295.out 1).trans rfl⟩ (fun hHeld => ?_)
                      clear hK K
                      refine norm_ (a' := ?_) ?_ ?_
                      rotate_left
                      · show Act.put _ (some 70) _ = _
                        simp only [Act.put, List.setIfInBounds_toArray, List.set_cons_zero, List.set_cons_succ, i64_w, i32_w]
                        rfl
                      refine one_ (i := 4) (N := some 72) #[true, true, true, true, true, false, false, false] rfl rfl (one_of HT_.out (by kernel_rfl)) (by decide) (fun K hK => ?_)
                      refine goes_ Try.func17 (by kernel_rfl) rfl #[.slice none 0 0, .agg #[.int .u64 a1_0, .int .i64 a1_1]] (by rfl) rfl rfl (by (try simp only [List.map_toArray, List.map_cons, List.map_nil]); first | done | rfl | (simp only [List.length_drop, List.length_take]; rfl)) ?_
                      refine (ident_Put.calls _ _ ([] : List Int) a1_0 a1_1 t307 _ ?side1 ?side2 A123.out).mono ?_
                      (case side1 => exact Kd.C_nil _ _)
                      (case side2 => exact Nat.le_refl _)
                      rintro e w137 ⟨v308, rfl, ho0, hb⟩
                      refine ⟨_, rfl, ?_⟩
                      have n0_ := Aside0.mk (Kd.R_elder' (by (with_reducible repeat (first | apply Kd.R_alloc | apply Kd.R_drewN | apply Kd.R_drew)); exact HO306.out) (Kd.R_base ho0) hb)
                      have n1_ := Aside0.mk (Kd.R_lower (Kd.R_new' ho0 (Kd.R_lt (by (with_reducible repeat (first | apply Kd.R_alloc | apply Kd.R_drewN | apply Kd.R_drew)); exact HO306.out))) (below_size (by repeat (first | (with_reducible first | exact HB.out | apply below_alloc | apply pw_below_drewN | apply below_drew1 | refine below_set ?_ GE294.out | refine below_set ?_ GE295.out | refine below_set ?_ GE296.out) | exact HB.out))))
                      have n2_ := Aside0.mk (blk_below (g := gb294) (o := .cells #[.int .u64 a0_0, .int .i64 a0_1] 31 (0, 0)) (by (with_reducible repeat (first | refine blk_drewN ?_ _ | refine blk_drew ?_ | refine blk_alloc ?_ _)); exact BK294.out) hb)
                      have n3_ := Aside0.mk (blk_below (g := gb295) (o := .cells #[.int .u64 a1_0, .int .i64 a1_1] 31 (0, 0)) (by (with_reducible repeat (first | refine blk_drewN ?_ _ | refine blk_drew ?_ | refine blk_alloc ?_ _)); exact BK295.out) hb)
                      have n4_ := Aside0.mk (blk_below (g := gb296) (o := .cells #[.int .u64 a2_0, .int .i64 a2_1] 31 (0, 0)) (by (with_reducible repeat (first | refine blk_drewN ?_ _ | refine blk_drew ?_ | refine blk_alloc ?_ _)); exact BK296.out) hb)
                      have n5_ := Aside0.mk (below_step (by repeat (first | (with_reducible first | exact HB.out | apply below_alloc | apply pw_below_drewN | apply below_drew1 | refine below_set ?_ GE294.out | refine below_set ?_ GE295.out | refine below_set ?_ GE296.out) | exact HB.out)) hb)
                      clear HO306
                      clear BK294
                      clear BK295
                      clear BK296
                      clear HB
                      have HO306 := n0_
                      have HO309 := n1_
                      have BK294 := n2_
                      have BK295 := n3_
                      have BK296 := n4_
                      have HB := n5_
                      clear n0_ n1_ n2_ n3_ n4_ n5_
                      (try clear hb)
                      (try clear hb2)
                      (try clear hk)
                      (try clear hi)
                      (try clear ho0)
                      refine hK.out _ _ ⟨(blk_cell BK294.out 0).trans rfl, (blk_cell BK294.out 1).trans rfl, (blk_cell BK295.out 0).trans rfl, (blk_cell BK295.out 1).trans rfl⟩ (fun hHeld => ?_)
                      clear hK K
                      refine norm_ (a' := ?_) ?_ ?_
                      rotate_left
                      · show Act.put _ (some 72) _ = _
                        simp only [Act.put, List.setIfInBounds_toArray, List.set_cons_zero, List.set_cons_succ, i64_w, i32_w]
                        rfl
                      refine pure_ (i := 6) (N := some 10) (v := ?_) (a' := ?_) #[true, true, true, true, true, false, true, false] rfl rfl (any_of HT_.out (by kernel_rfl)) (fun _ _ _ h => h) (Or.inl ⟨by rfl, ?_⟩) ?_ ?_
                      rotate_left
                      · intro w'
                        go_simp
                        with_reducible rfl
                      rotate_left
                      · simp only [Act.put, List.setIfInBounds_toArray, List.set_cons_zero, List.set_cons_succ, i64_w, i32_w]
                        rfl
                      refine one_ (i := 5) (N := some 73) #[true, true, true, true, true, true, true, false] rfl rfl (one_of HT_.out (by kernel_rfl)) (by decide) (fun K hK => ?_)
                      have hcv138 := own_string (P := Try.prog) Try.underlying23 Try.underlying5 Try.underlying9 (Kd.own_of_R HO309.out)
                      refine value_ (w1 := ?_) (v := ?_) (by rfl) rfl ?_ ?_
                      rotate_left 2
                      · go_simp
                        constructor
                        · rfl
                        · rfl
                      clear hcv138
                      refine hK.out _ _ ⟨(blk_cell BK294.out 0).trans rfl, (blk_cell BK294.out 1).trans rfl, (blk_cell BK295.out 0).trans rfl, (blk_cell BK295.out 1).trans rfl⟩ (fun hHeld => ?_)
                      clear hK K
                      refine norm_ (a' := ?_) ?_ ?_
                      rotate_left
                      · show Act.put _ (some 73) _ = _
                        simp only [Act.put, List.setIfInBounds_toArray, List.set_cons_zero, List.set_cons_succ, i64_w, i32_w]
                        rfl
                      exact norm_ (by simp only [putAll, Act.put, List.setIfInBounds_toArray, List.set_cons_zero, List.set_cons_succ]) (hCont (v308) _ ⟨hHeld, (by (with_reducible repeat (first | apply Kd.R_alloc | apply Kd.R_drewN | apply Kd.R_drew)); exact Kd.R_mono HO306.out (fun _ hk => hk.2)), (by (with_reducible repeat (first | apply Kd.R_alloc | apply Kd.R_drewN | apply Kd.R_drew)); exact Kd.R_mono HO309.out (fun _ hk => hk.2)), (by (with_reducible repeat (first | refine blk_drewN ?_ _ | refine blk_drew ?_ | refine blk_alloc ?_ _)); exact BK294.out), (by (with_reducible repeat (first | refine blk_drewN ?_ _ | refine blk_drew ?_ | refine blk_alloc ?_ _)); exact BK295.out), (by (with_reducible repeat (first | refine blk_drewN ?_ _ | refine blk_drew ?_ | refine blk_alloc ?_ _)); exact BK296.out), (by repeat (first | (with_reducible first | exact HB.out | apply below_alloc | apply pw_below_drewN | apply below_drew1 | refine below_set ?_ GE294.out | refine below_set ?_ GE295.out | refine below_set ?_ GE296.out) | exact HB.out))⟩)
                    · skip
                      refine goes_ Try.func17 (by kernel_rfl) rfl #[.slice none 0 0, .agg #[.int .u64 a1_0, .int .i64 a1_1]] (by rfl) rfl rfl (by (try simp only [List.map_toArray, List.map_cons, List.map_nil]); first | done | rfl | (simp only [List.length_drop, List.length_take]; rfl)) ?_
                      refine (ident_Put.calls _ _ ([] : List Int) a1_0 a1_1 t307 _ ?side1 ?side2 A123.out).mono ?_
                      (case side1 => exact Kd.C_nil _ _)
                      (case side2 => exact Nat.le_refl _)
                      rintro e w136 ⟨v308, rfl, ho0, hb⟩
                      refine ⟨_, rfl, ?_⟩
                      have n0_ := Aside0.mk (Kd.R_elder' (by (with_reducible repeat (first | apply Kd.R_alloc | apply Kd.R_drewN | apply Kd.R_drew)); exact HO306.out) (Kd.R_base ho0) hb)
                      have n1_ := Aside0.mk (Kd.R_lower (Kd.R_new' ho0 (Kd.R_lt (by (with_reducible repeat (first | apply Kd.R_alloc | apply Kd.R_drewN | apply Kd.R_drew)); exact HO306.out))) (below_size (by repeat (first | (with_reducible first | exact HB.out | apply below_alloc | apply pw_below_drewN | apply below_drew1 | refine below_set ?_ GE294.out | refine below_set ?_ GE295.out | refine below_set ?_ GE296.out) | exact HB.out))))
                      have n2_ := Aside0.mk (blk_below (g := gb294) (o := .cells #[.int .u64 a0_0, .int .i64 a0_1] 31 (0, 0)) (by (with_reducible repeat (first | refine blk_drewN ?_ _ | refine blk_drew ?_ | refine blk_alloc ?_ _)); exact BK294.out) hb)
                      have n3_ := Aside0.mk (blk_below (g := gb295) (o := .cells #[.int .u64 a1_0, .int .i64 a1_1] 31 (0, 0)) (by (with_reducible repeat (first | refine blk_drewN ?_ _ | refine blk_drew ?_ | refine blk_alloc ?_ _)); exact BK295.out) hb)
                      have n4_ := Aside0.mk (blk_below (g := gb296) (o := .cells #[.int .u64 a2_0, .int .i64 a2_1] 31 (0, 0)) (by (with_reducible repeat (first | refine blk_drewN ?_ _ | refine blk_drew ?_ | refine blk_alloc ?_ _)); exact BK296.out) hb)
                      have n5_ := Aside0.mk (below_step (by repeat (first | (with_reducible first | exact HB.out | apply below_alloc | apply pw_below_drewN | apply below_drew1 | refine below_set ?_ GE294.out | refine below_set ?_ GE295.out | refine below_set ?_ GE296.out) | exact HB.out)) hb)
                      clear HO306
                      clear BK294
                      clear BK295
                      clear BK296
                      clear HB
                      have HO306 := n0_
                      have HO309 := n1_
                      have BK294 := n2_
                      have BK295 := n3_
                      have BK296 := n4_
                      have HB := n5_
                      clear n0_ n1_ n2_ n3_ n4_ n5_
                      (try clear hb)
                      (try clear hb2)
                      (try clear hk)
                      (try clear hi)
                      (try clear ho0)
                      refine hK.out _ _ ⟨(blk_cell BK294.out 0).trans rfl, (blk_cell BK294.out 1).trans rfl, (blk_cell BK295.out 0).trans rfl, (blk_cell BK295.out 1).trans rfl⟩ (fun hHeld => ?_)
                      clear hK K
                      refine norm_ (a' := ?_) ?_ ?_
                      rotate_left
                      · show Act.put _ (some 72) _ = _
                        simp only [Act.put, List.setIfInBounds_toArray, List.set_cons_zero, List.set_cons_succ, i64_w, i32_w]
                        rfl
                      refine two_ (i := 2) (j := 5) (Ni := some 70) (Nj := some 73) #[true, true, true, true, true, false, false, false] #[true, true, false, true, true, true, false, false] rfl rfl rfl rfl (two_of HT_.out (by kernel_rfl)) (by decide) (by decide) (fun K hK => ?_) (fun K hK => ?_)
                      · skip
                        have hcv137 := own_string (P := Try.prog) Try.underlying23 Try.underlying5 Try.underlying9 (Kd.own_of_R HO306.out)
                        refine value_ (w1 := ?_) (v := ?_) (by rfl) rfl ?_ ?_
                        rotate_left 2
                        · go_simp
                          constructor
                          · rfl
                          · rfl
                        clear hcv137
                        refine hK.out _ _ ⟨(blk_cell BK294.out 0).trans rfl, (blk_cell BK294.out 1).trans rfl, (blk_cell BK295.out 0).trans rfl, (blk_cell BK295.out 1).trans rfl⟩ (fun hHeld => ?_)
                        clear hK K
                        refine norm_ (a' := ?_) ?_ ?_
                        rotate_left
                        · show Act.put _ (some 70) _ = _
                          simp only [Act.put, List.setIfInBounds_toArray, List.set_cons_zero, List.set_cons_succ, i64_w, i32_w]
                          rfl
                        refine pure_ (i := 6) (N := some 10) (v := ?_) (a' := ?_) #[true, true, true, true, true, false, true, false] rfl rfl (any_of HT_.out (by kernel_rfl)) (fun _ _ _ h => h) (Or.inl ⟨by rfl, ?_⟩) ?_ ?_
                        rotate_left
                        · intro w'
                          go_simp
                          with_reducible rfl
                        rotate_left
                        · simp only [Act.put, List.setIfInBounds_toArray, List.set_cons_zero, List.set_cons_succ, i64_w, i32_w]
                          rfl
                        refine one_ (i := 5) (N := some 73) #[true, true, true, true, true, true, true, false] rfl rfl (one_of HT_.out (by kernel_rfl)) (by decide) (fun K hK => ?_)
                        have hcv138 := own_string (P := Try.prog) Try.underlying23 Try.underlying5 Try.underlying9 (Kd.own_of_R HO309.out)
                        refine value_ (w1 := ?_) (v := ?_) (by rfl) rfl ?_ ?_
                        rotate_left 2
                        · go_simp
                          constructor
                          · rfl
                          · rfl
                        clear hcv138
                        refine hK.out _ _ ⟨(blk_cell BK294.out 0).trans rfl, (blk_cell BK294.out 1).trans rfl, (blk_cell BK295.out 0).trans rfl, (blk_cell BK295.out 1).trans rfl⟩ (fun hHeld => ?_)
                        clear hK K
                        refine norm_ (a' := ?_) ?_ ?_
                        rotate_left
                        · show Act.put _ (some 73) _ = _
                          simp only [Act.put, List.setIfInBounds_toArray, List.set_cons_zero, List.set_cons_succ, i64_w, i32_w]
                          rfl
                        exact norm_ (by simp only [putAll, Act.put, List.setIfInBounds_toArray, List.set_cons_zero, List.set_cons_succ]) (hCont (v308) _ ⟨hHeld, (by (with_reducible repeat (first | apply Kd.R_alloc | apply Kd.R_drewN | apply Kd.R_drew)); exact Kd.R_mono HO306.out (fun _ hk => hk.2)), (by (with_reducible repeat (first | apply Kd.R_alloc | apply Kd.R_drewN | apply Kd.R_drew)); exact Kd.R_mono HO309.out (fun _ hk => hk.2)), (by (with_reducible repeat (first | refine blk_drewN ?_ _ | refine blk_drew ?_ | refine blk_alloc ?_ _)); exact BK294.out), (by (with_reducible repeat (first | refine blk_drewN ?_ _ | refine blk_drew ?_ | refine blk_alloc ?_ _)); exact BK295.out), (by (with_reducible repeat (first | refine blk_drewN ?_ _ | refine blk_drew ?_ | refine blk_alloc ?_ _)); exact BK296.out), (by repeat (first | (with_reducible first | exact HB.out | apply below_alloc | apply pw_below_drewN | apply below_drew1 | refine below_set ?_ GE294.out | refine below_set ?_ GE295.out | refine below_set ?_ GE296.out) | exact HB.out))⟩)
                      · skip
                        have hcv137 := own_string (P := Try.prog) Try.underlying23 Try.underlying5 Try.underlying9 (Kd.own_of_R HO309.out)
                        refine value_ (w1 := ?_) (v := ?_) (by rfl) rfl ?_ ?_
                        rotate_left 2
                        · go_simp
                          constructor
                          · rfl
                          · rfl
                        clear hcv137
                        refine hK.out _ _ ⟨(blk_cell BK294.out 0).trans rfl, (blk_cell BK294.out 1).trans rfl, (blk_cell BK295.out 0).trans rfl, (blk_cell BK295.out 1).trans rfl⟩ (fun hHeld => ?_)
                        clear hK K
                        refine norm_ (a' := ?_) ?_ ?_
                        rotate_left
                        · show Act.put _ (some 73) _ = _
                          simp only [Act.put, List.setIfInBounds_toArray, List.set_cons_zero, List.set_cons_succ, i64_w, i32_w]
                          rfl
                        refine one_ (i := 2) (N := some 70) #[true, true, true, true, true, true, false, false] rfl rfl (one_of HT_.out (by kernel_rfl)) (by decide) (fun K hK => ?_)
                        have hcv138 := own_string (P := Try.prog) Try.underlying23 Try.underlying5 Try.underlying9 (Kd.own_of_R HO306.out)
                        refine value_ (w1 := ?_) (v := ?_) (by rfl) rfl ?_ ?_
                        rotate_left 2
                        · go_simp
                          constructor
                          · rfl
                          · rfl
                        clear hcv138
                        refine hK.out _ _ ⟨(blk_cell BK294.out 0).trans rfl, (blk_cell BK294.out 1).trans rfl, (blk_cell BK295.out 0).trans rfl, (blk_cell BK295.out 1).trans rfl⟩ (fun hHeld => ?_)
                        clear hK K
                        refine norm_ (a' := ?_) ?_ ?_
                        rotate_left
                        · show Act.put _ (some 70) _ = _
                          simp only [Act.put, List.setIfInBounds_toArray, List.set_cons_zero, List.set_cons_succ, i64_w, i32_w]
                          rfl
                        refine pure_ (i := 6) (N := some 10) (v := ?_) (a' := ?_) #[true, true, true, true, true, true, true, false] rfl rfl (any_of HT_.out (by kernel_rfl)) (fun _ _ _ h => h) (Or.inl ⟨by rfl, ?_⟩) ?_ ?_
                        rotate_left
                        · intro w'
                          go_simp
                          with_reducible rfl
                        rotate_left
                        · simp only [Act.put, List.setIfInBounds_toArray, List.set_cons_zero, List.set_cons_succ, i64_w, i32_w]
                          rfl
                        exact norm_ (by simp only [putAll, Act.put, List.setIfInBounds_toArray, List.set_cons_zero, List.set_cons_succ]) (hCont (v308) _ ⟨hHeld, (by (with_reducible repeat (first | apply Kd.R_alloc | apply Kd.R_drewN | apply Kd.R_drew)); exact Kd.R_mono HO306.out (fun _ hk => hk.2)), (by (with_reducible repeat (first | apply Kd.R_alloc | apply Kd.R_drewN | apply Kd.R_drew)); exact Kd.R_mono HO309.out (fun _ hk => hk.2)), (by (with_reducible repeat (first | refine blk_drewN ?_ _ | refine blk_drew ?_ | refine blk_alloc ?_ _)); exact BK294.out), (by (with_reducible repeat (first | refine blk_drewN ?_ _ | refine blk_drew ?_ | refine blk_alloc ?_ _)); exact BK295.out), (by (with_reducible repeat (first | refine blk_drewN ?_ _ | refine blk_drew ?_ | refine blk_alloc ?_ _)); exact BK296.out), (by repeat (first | (with_reducible first | exact HB.out | apply below_alloc | apply pw_below_drewN | apply below_drew1 | refine below_set ?_ GE294.out | refine below_set ?_ GE295.out | refine below_set ?_ GE296.out) | exact HB.out))⟩)
                  rintro v308 w139 ⟨hS_, h0_, h1_, h2_, h3_, h4_, h5_⟩
                  have n0_ : Aside0 (Kd.R (Kd.int .u8) 5 w139 w.heap.size (fun k_ => some k_ ≠ (v308 : Value).ownBlock) v305 t304) := ⟨h0_⟩
                  have n1_ : Aside0 (Kd.R (Kd.int .u8) 5 w139 w.heap.size (fun k_ => some k_ ≠ (v305 : Value).ownBlock) v308 t307) := ⟨h1_⟩
                  have n2_ : Aside0 (w139.heap[gb294]? = some (.cells #[.int .u64 a0_0, .int .i64 a0_1] 31 (0, 0))) := ⟨h2_⟩
                  have n3_ : Aside0 (w139.heap[gb295]? = some (.cells #[.int .u64 a1_0, .int .i64 a1_1] 31 (0, 0))) := ⟨h3_⟩
                  have n4_ : Aside0 (w139.heap[gb296]? = some (.cells #[.int .u64 a2_0, .int .i64 a2_1] 31 (0, 0))) := ⟨h4_⟩
                  have n5_ : Aside0 (Below w.heap.size w w139) := ⟨h5_⟩
                  clear BK294
                  clear BK295
                  clear BK296
                  clear HB
                  clear h0_ h1_ h2_ h3_ h4_ h5_
                  have HO306 := n0_
                  have HO309 := n1_
                  have BK294 := n2_
                  have BK295 := n3_
                  have BK296 := n4_
                  have HB := n5_
                  clear n0_ n1_ n2_ n3_ n4_ n5_
                  have hHeld : w139.cell? ⟨gb294, 0, none⟩ = some (.int .u64 a0_0) ∧ w139.cell? ⟨gb294, 1, none⟩ = some (.int .i64 a0_1) ∧ w139.cell? ⟨gb295, 0, none⟩ = some (.int .u64 a1_0) ∧ w139.cell? ⟨gb295, 1, none⟩ = some (.int .i64 a1_1) := hS_
                  refine norm_ (a' := ?_) ?_ ?_
                  rotate_left
                  · simp only [putAll, Act.put, List.setIfInBounds_toArray, List.set_cons_zero, List.set_cons_succ]
                    rfl
                  refine pure_ (i := 7) (N := some 11) (v := ?_) (a' := ?_) #[true, true, true, true, true, true, true, true] rfl rfl (any_of HT_.out (by kernel_rfl)) (fun _ _ _ h => h) (Or.inl ⟨by rfl, ?_⟩) ?_ ?_
                  rotate_left
                  · intro w'
                    go_simp
                    with_reducible rfl
                  rotate_left
                  · simp only [Act.put, List.setIfInBounds_toArray, List.set_cons_zero, List.set_cons_succ, i64_w, i32_w]
                    rfl
                  refine done_ (done_of HT_.out (by kernel_rfl)) ?_
                  try go_wp2
                  all_goals
                    go_ret
                    exact ⟨by first | rfl | (simp [errW_none, errW_some] <;> rfl) | (simp [*, errW_none, errW_some] <;> rfl), by repeat (first | (with_reducible first | exact HB.out | apply below_alloc | apply pw_below_drewN | apply below_drew1 | refine below_set ?_ GE294.out | refine below_set ?_ GE295.out | refine below_set ?_ GE296.out) | exact HB.out)⟩
              · rw [if_neg c124] at H
                have c124b0 : ((Op.bytesLess ((strOfNums t304).toList) ((strOfNums t307).toList)) == (decide (t297 < 0))) = false := by simpa using c124
                (try (have c124b1 : decide ((Op.bytesLess ((strOfNums t304).toList) ((strOfNums t307).toList)) = (decide (t297 < 0))) = false := by simpa using c124))
                (try (have c124b2 : ((Op.bytesLess ((strOfNums t304).toList) ((strOfNums t307).toList)) == (decide (t297 < 0))) = false := by simpa using c124))
                (try (have c124b3 : ¬ ((Op.bytesLess ((strOfNums t304).toList) ((strOfNums t307).toList)) = (decide (t297 < 0))) := by simpa using c124))
                clear c124
                obtain rfl := Option.some.inj H
                try go_wp2
                have n0_ := Aside0.mk (blk_drew BK294.out)
                have n1_ := Aside0.mk (blk_drew BK295.out)
                have n2_ := Aside0.mk (blk_drew BK296.out)
                have n3_ := Aside0.mk (below_drew1 HB.out)
                clear BK294
                clear BK295
                clear BK296
                clear HB
                have BK294 := n0_
                have BK295 := n1_
                have BK296 := n2_
                have HB := n3_
                clear n0_ n1_ n2_ n3_
                refine start_ (n := 8) (S := fun w' => w'.cell? ⟨gb294, 0, none⟩ = some (.int .u64 a0_0) ∧ w'.cell? ⟨gb294, 1, none⟩ = some (.int .i64 a0_1) ∧ w'.cell? ⟨gb295, 0, none⟩ = some (.int .u64 a1_0) ∧ w'.cell? ⟨gb295, 1, none⟩ = some (.int .i64 a1_1)) (ds := []) #[false, false, false, false, false, false, false, false] (by kernel_rfl) rfl rfl ⟨(blk_cell BK294.out 0).trans rfl, (blk_cell BK294.out 1).trans rfl, (blk_cell BK295.out 0).trans rfl, (blk_cell BK295.out 1).trans rfl⟩ (fun hHeld => ?_); refine with_tabW carillonlaw04_IdentOrder.tab6 carillonlaw04_IdentOrder.bits6 (fun HT_ HW_ => ?_)
                generalize wc.drew = w140 at BK294 BK295 BK296 HB hHeld ⊢
                refine take_ (i := 0) (N := some 68) (v := ?_) (a' := ?_) #[true, false, false, false, false, false, false, false] rfl rfl (take_ofW HT_.out HW_.out (by kernel_rfl)) (fun _ _ _ h => h) (Or.inl ⟨by rfl, ?_⟩) hHeld ?_ ?_
                rotate_left
                · rintro w' ⟨s0, s1, s2, s3⟩
                  go_simp
                  with_reducible rfl
                rotate_left
                · simp only [Act.put, List.setIfInBounds_toArray, List.set_cons_zero, List.set_cons_succ, i64_w, i32_w]
                  rfl
                refine take_ (i := 3) (N := some 71) (v := ?_) (a' := ?_) #[true, false, false, true, false, false, false, false] rfl rfl (take_ofW HT_.out HW_.out (by kernel_rfl)) (fun _ _ _ h => h) (Or.inl ⟨by rfl, ?_⟩) hHeld ?_ ?_
                rotate_left
                · rintro w' ⟨s0, s1, s2, s3⟩
                  go_simp
                  with_reducible rfl
                rotate_left
                · simp only [Act.put, List.setIfInBounds_toArray, List.set_cons_zero, List.set_cons_succ, i64_w, i32_w]
                  rfl
                refine one_ (i := 1) (N := some 69) #[true, true, false, true, false, false, false, false] rfl rfl (one_of HT_.out (by kernel_rfl)) (by decide) (fun K hK => ?_)
                refine goes_ Try.func17 (by kernel_rfl) rfl #[.slice none 0 0, .agg #[.int .u64 a0_0, .int .i64 a0_1]] (by rfl) rfl rfl (by (try simp only [List.map_toArray, List.map_cons, List.map_nil]); first | done | rfl | (simp only [List.length_drop, List.length_take]; rfl)) ?_
                refine (ident_Put.calls _ _ ([] : List Int) a0_0 a0_1 t304 _ ?side1 ?side2 A122.out).mono ?_
                (case side1 => exact Kd.C_nil _ _)
                (case side2 => exact Nat.le_refl _)
                rintro e w141 ⟨v305, rfl, ho0, hb⟩
                refine ⟨_, rfl, ?_⟩
                have n0_ := Aside0.mk (Kd.R_lower ho0 (below_size (by repeat (first | (with_reducible first | exact HB.out | apply below_alloc | apply pw_below_drewN | apply below_drew1 | refine below_set ?_ GE294.out | refine below_set ?_ GE295.out | refine below_set ?_ GE296.out) | exact HB.out))))
                have n1_ := Aside0.mk (blk_below (g := gb294) (o := .cells #[.int .u64 a0_0, .int .i64 a0_1] 31 (0, 0)) (by (with_reducible repeat (first | refine blk_drewN ?_ _ | refine blk_drew ?_ | refine blk_alloc ?_ _)); exact BK294.out) hb)
                have n2_ := Aside0.mk (blk_below (g := gb295) (o := .cells #[.int .u64 a1_0, .int .i64 a1_1] 31 (0, 0)) (by (with_reducible repeat (first | refine blk_drewN ?_ _ | refine blk_drew ?_ | refine blk_alloc ?_ _)); exact BK295.out) hb)
                have n3_ := Aside0.mk (blk_below (g := gb296) (o := .cells #[.int .u64 a2_0, .int .i64 a2_1] 31 (0, 0)) (by (with_reducible repeat (first | refine blk_drewN ?_ _ | refine blk_drew ?_ | refine blk_alloc ?_ _)); exact BK296.out) hb)
                have n4_ := Aside0.mk (below_step (by repeat (first | (with_reducible first | exact HB.out | apply below_alloc | apply pw_below_drewN | apply below_drew1 | refine below_set ?_ GE294.out | refine below_set ?_ GE295.out | refine below_set ?_ GE296.out) | exact HB.out)) hb)
                clear BK294
                clear BK295
                clear BK296
                clear HB
                have HO306 := n0_
                have BK294 := n1_
                have BK295 := n2_
                have BK296 := n3_
                have HB := n4_
                clear n0_ n1_ n2_ n3_ n4_
                (try clear hb)
                (try clear hb2)
                (try clear hk)
                (try clear hi)
                (try clear ho0)
                refine hK.out _ _ ⟨(blk_cell BK294.out 0).trans rfl, (blk_cell BK294.out 1).trans rfl, (blk_cell BK295.out 0).trans rfl, (blk_cell BK295.out 1).trans rfl⟩ (fun hHeld => ?_)
                clear hK K
                refine norm_ (a' := ?_) ?_ ?_
                rotate_left
                · show Act.put _ (some 69) _ = _
                  simp only [Act.put, List.setIfInBounds_toArray, List.set_cons_zero, List.set_cons_succ, i64_w, i32_w]
                  rfl
                refine join_ (σ := Value) 1 #[true, true, true, true, true, true, true, false] (fun s_ => [(70, .string (strOfNums t304)), (72, s_), (73, .string (strOfNums t307)), (10, .string (strOfNums t304))]) (fun s_ w' => (w'.cell? ⟨gb294, 0, none⟩ = some (.int .u64 a0_0) ∧ w'.cell? ⟨gb294, 1, none⟩ = some (.int .i64 a0_1) ∧ w'.cell? ⟨gb295, 0, none⟩ = some (.int .u64 a1_0) ∧ w'.cell? ⟨gb295, 1, none⟩ = some (.int .i64 a1_1)) ∧ (Kd.R (Kd.int .u8) 5 w' w.heap.size (fun k_ => some k_ ≠ (s_ : Value).ownBlock) v305 t304) ∧ (Kd.R (Kd.int .u8) 5 w' w.heap.size (fun k_ => some k_ ≠ (v305 : Value).ownBlock) s_ t307) ∧ (w'.heap[gb294]? = some (.cells #[.int .u64 a0_0, .int .i64 a0_1] 31 (0, 0))) ∧ (w'.heap[gb295]? = some (.cells #[.int .u64 a1_0, .int .i64 a1_1] 31 (0, 0))) ∧ (w'.heap[gb296]? = some (.cells #[.int .u64 a2_0, .int .i64 a2_1] 31 (0, 0))) ∧ (Below w.heap.size w w')) ?_ ?_
                rotate_left
                · intro hCont
                  refine two_ (i := 2) (j := 4) (Ni := some 70) (Nj := some 72) #[true, true, true, true, false, false, false, false] #[true, true, false, true, true, false, false, false] rfl rfl rfl rfl (two_of HT_.out (by kernel_rfl)) (by decide) (by decide) (fun K hK => ?_) (fun K hK => ?_)
                  · skip
                    have hcv142 := own_string (P := Try.prog) Try.underlying23 Try.underlying5 Try.underlying9 (Kd.own_of_R HO306.out)
                    refine value_ (w1 := ?_) (v := ?_) (by rfl) rfl ?_ ?_
                    rotate_left 2
                    · go_simp
                      constructor
                      · rfl
                      · rfl
                    clear hcv142
                    refine hK.out _ _ ⟨(blk_cell BK294.out 0).trans rfl, (blk_cell BK294.out 1).trans rfl, (blk_cell BK295.out 0).trans rfl, (blk_cell BK295.out 1).trans rfl⟩ (fun hHeld => ?_)
                    clear hK K
                    refine norm_ (a' := ?_) ?_ ?_
                    rotate_left
                    · show Act.put _ (some 70) _ = _
                      simp only [Act.put, List.setIfInBounds_toArray, List.set_cons_zero, List.set_cons_succ, i64_w, i32_w]
                      rfl
                    refine one_ (i := 4) (N := some 72) #[true, true, true, true, true, false, false, false] rfl rfl (one_of HT_.out (by kernel_rfl)) (by decide) (fun K hK => ?_)
                    refine goes_ Try.func17 (by kernel_rfl) rfl #[.slice none 0 0, .agg #[.int .u64 a1_0, .int .i64 a1_1]] (by rfl) rfl rfl (by (try simp only [List.map_toArray, List.map_cons, List.map_nil]); first | done | rfl | (simp only [List.length_drop, List.length_take]; rfl)) ?_
                    refine (ident_Put.calls _ _ ([] : List Int) a1_0 a1_1 t307 _ ?side1 ?side2 A123.out).mono ?_
                    (case side1 => exact Kd.C_nil _ _)
                    (case side2 => exact Nat.le_refl _)
                    rintro e w143 ⟨v308, rfl, ho0, hb⟩
                    refine ⟨_, rfl, ?_⟩
                    have n0_ := Aside0.mk (Kd.R_elder' (by (with_reducible repeat (first | apply Kd.R_alloc | apply Kd.R_drewN | apply Kd.R_drew)); exact HO306.out) (Kd.R_base ho0) hb)
                    have n1_ := Aside0.mk (Kd.R_lower (Kd.R_new' ho0 (Kd.R_lt (by (with_reducible repeat (first | apply Kd.R_alloc | apply Kd.R_drewN | apply Kd.R_drew)); exact HO306.out))) (below_size (by repeat (first | (with_reducible first | exact HB.out | apply below_alloc | apply pw_below_drewN | apply below_drew1 | refine below_set ?_ GE294.out | refine below_set ?_ GE295.out | refine below_set ?_ GE296.out) | exact HB.out))))
                    have n2_ := Aside0.mk (blk_below (g := gb294) (o := .cells #[.int .u64 a0_0, .int .i64 a0_1] 31 (0, 0)) (by (with_reducible repeat (first | refine blk_drewN ?_ _ | refine blk_drew ?_ | refine blk_alloc ?_ _)); exact BK294.out) hb)
                    have n3_ := Aside0.mk (blk_below (g := gb295) (o := .cells #[.int .u64 a1_0, .int .i64 a1_1] 31 (0, 0)) (by (with_reducible repeat (first | refine blk_drewN ?_ _ | refine blk_drew ?_ | refine blk_alloc ?_ _)); exact BK295.out) hb)
                    have n4_ := Aside0.mk (blk_below (g := gb296) (o := .cells #[.int .u64 a2_0, .int .i64 a2_1] 31 (0, 0)) (by (with_reducible repeat (first | refine blk_drewN ?_ _ | refine blk_drew ?_ | refine blk_alloc ?_ _)); exact BK296.out) hb)
                    have n5_ := Aside0.mk (below_step (by repeat (first | (with_reducible first | exact HB.out | apply below_alloc | apply pw_below_drewN | apply below_drew1 | refine below_set ?_ GE294.out | refine below_set ?_ GE295.out | refine below_set ?_ GE296.out) | exact HB.out)) hb)
                    clear HO306
                    clear BK294
                    clear BK295
                    clear BK296
                    clear HB
                    have HO306 := n0_
                    have HO309 := n1_
                    have BK294 := n2_
                    have BK295 := n3_
                    have BK296 := n4_
                    have HB := n5_
                    clear n0_ n1_ n2_ n3_ n4_ n5_
                    (try clear hb)
                    (try clear hb2)
                    (try clear hk)
                    (try clear hi)
                    (try clear ho0)
                    refine hK.out _ _ ⟨(blk_cell BK294.out 0).trans rfl, (blk_cell BK294.out 1).trans rfl, (blk_cell BK295.out 0).trans rfl, (blk_cell BK295.out 1).trans rfl⟩ (fun hHeld => ?_)
                    clear hK K
                    refine norm_ (a' := ?_) ?_ ?_
                    rotate_left
                    · show Act.put _ (some 72) _ = _
                      simp only [Act.put, List.setIfInBounds_toArray, List.set_cons_zero, List.set_cons_succ, i64_w, i32_w]
                      rfl
                    refine pure_ (i := 6) (N := some 10) (v := ?_) (a' := ?_) #[true, true, true, true, true, false, true, false] rfl rfl (any_of HT_.out (by kernel_rfl)) (fun _ _ _ h => h) (Or.inl ⟨by rfl, ?_⟩) ?_ ?_
                    rotate_left
                    · intro w'
                      go_simp
                      with_reducible rfl
                    rotate_left
                    · simp only [Act.put, List.setIfInBounds_toArray, List.set_cons_zero, List.set_cons_succ, i64_w, i32_w]
                      rfl
                    refine one_ (i := 5) (N := some 73) #[true, true, true, true, true, true, true, false] rfl rfl (one_of HT_.out (by kernel_rfl)) (by decide) (fun K hK => ?_)
                    have hcv144 := own_string (P := Try.prog) Try.underlying23 Try.underlying5 Try.underlying9 (Kd.own_of_R HO309.out)
                    refine value_ (w1 := ?_) (v := ?_) (by rfl) rfl ?_ ?_
                    rotate_left 2
                    · go_simp
                      constructor
                      · rfl
                      · rfl
                    clear hcv144
                    refine hK.out _ _ ⟨(blk_cell BK294.out 0).trans rfl, (blk_cell BK294.out 1).trans rfl, (blk_cell BK295.out 0).trans rfl, (blk_cell BK295.out 1).trans rfl⟩ (fun hHeld => ?_)
                    clear hK K
                    refine norm_ (a' := ?_) ?_ ?_
                    rotate_left
                    · show Act.put _ (some 73) _ = _
                      simp only [Act.put, List.setIfInBounds_toArray, List.set_cons_zero, List.set_cons_succ, i64_w, i32_w]
                      rfl
                    exact norm_ (by simp only [putAll, Act.put, List.setIfInBounds_toArray, List.set_cons_zero, List.set_cons_succ]) (hCont (v308) _ ⟨hHeld, (by (with_reducible repeat (first | apply Kd.R_alloc | apply Kd.R_drewN | apply Kd.R_drew)); exact Kd.R_mono HO306.out (fun _ hk => hk.2)), (by (with_reducible repeat (first | apply Kd.R_alloc | apply Kd.R_drewN | apply Kd.R_drew)); exact Kd.R_mono HO309.out (fun _ hk => hk.2)), (by (with_reducible repeat (first | refine blk_drewN ?_ _ | refine blk_drew ?_ | refine blk_alloc ?_ _)); exact BK294.out), (by (with_reducible repeat (first | refine blk_drewN ?_ _ | refine blk_drew ?_ | refine blk_alloc ?_ _)); exact BK295.out), (by (with_reducible repeat (first | refine blk_drewN ?_ _ | refine blk_drew ?_ | refine blk_alloc ?_ _)); exact BK296.out), (by repeat (first | (with_reducible first | exact HB.out | apply below_alloc | apply pw_below_drewN | apply below_drew1 | refine below_set ?_ GE294.out | refine below_set ?_ GE295.out | refine below_set ?_ GE296.out) | exact HB.out))⟩)
                  · skip
                    refine goes_ Try.func17 (by kernel_rfl) rfl #[.slice none 0 0, .agg #[.int .u64 a1_0, .int .i64 a1_1]] (by rfl) rfl rfl (by (try simp only [List.map_toArray, List.map_cons, List.map_nil]); first | done | rfl | (simp only [List.length_drop, List.length_take]; rfl)) ?_
                    refine (ident_Put.calls _ _ ([] : List Int) a1_0 a1_1 t307 _ ?side1 ?side2 A123.out).mono ?_
                    (case side1 => exact Kd.C_nil _ _)
                    (case side2 => exact Nat.le_refl _)
                    rintro e w142 ⟨v308, rfl, ho0, hb⟩
                    refine ⟨_, rfl, ?_⟩
                    have n0_ := Aside0.mk (Kd.R_elder' (by (with_reducible repeat (first | apply Kd.R_alloc | apply Kd.R_drewN | apply Kd.R_drew)); exact HO306.out) (Kd.R_base ho0) hb)
                    have n1_ := Aside0.mk (Kd.R_lower (Kd.R_new' ho0 (Kd.R_lt (by (with_reducible repeat (first | apply Kd.R_alloc | apply Kd.R_drewN | apply Kd.R_drew)); exact HO306.out))) (below_size (by repeat (first | (with_reducible first | exact HB.out | apply below_alloc | apply pw_below_drewN | apply below_drew1 | refine below_set ?_ GE294.out | refine below_set ?_ GE295.out | refine below_set ?_ GE296.out) | exact HB.out))))
                    have n2_ := Aside0.mk (blk_below (g := gb294) (o := .cells #[.int .u64 a0_0, .int .i64 a0_1] 31 (0, 0)) (by (with_reducible repeat (first | refine blk_drewN ?_ _ | refine blk_drew ?_ | refine blk_alloc ?_ _)); exact BK294.out) hb)
                    have n3_ := Aside0.mk (blk_below (g := gb295) (o := .cells #[.int .u64 a1_0, .int .i64 a1_1] 31 (0, 0)) (by (with_reducible repeat (first | refine blk_drewN ?_ _ | refine blk_drew ?_ | refine blk_alloc ?_ _)); exact BK295.out) hb)
                    have n4_ := Aside0.mk (blk_below (g := gb296) (o := .cells #[.int .u64 a2_0, .int .i64 a2_1] 31 (0, 0)) (by (with_reducible repeat (first | refine blk_drewN ?_ _ | refine blk_drew ?_ | refine blk_alloc ?_ _)); exact BK296.out) hb)
                    have n5_ := Aside0.mk (below_step (by repeat (first | (with_reducible first | exact HB.out | apply below_alloc | apply pw_below_drewN | apply below_drew1 | refine below_set ?_ GE294.out | refine below_set ?_ GE295.out | refine below_set ?_ GE296.out) | exact HB.out)) hb)
                    clear HO306
                    clear BK294
                    clear BK295
                    clear BK296
                    clear HB
                    have HO306 := n0_
                    have HO309 := n1_
                    have BK294 := n2_
                    have BK295 := n3_
                    have BK296 := n4_
                    have HB := n5_
                    clear n0_ n1_ n2_ n3_ n4_ n5_
                    (try clear hb)
                    (try clear hb2)
                    (try clear hk)
                    (try clear hi)
                    (try clear ho0)
                    refine hK.out _ _ ⟨(blk_cell BK294.out 0).trans rfl, (blk_cell BK294.out 1).trans rfl, (blk_cell BK295.out 0).trans rfl, (blk_cell BK295.out 1).trans rfl⟩ (fun hHeld => ?_)
                    clear hK K
                    refine norm_ (a' := ?_) ?_ ?_
                    rotate_left
                    · show Act.put _ (some 72) _ = _
                      simp only [Act.put, List.setIfInBounds_toArray, List.set_cons_zero, List.set_cons_succ, i64_w, i32_w]
                      rfl
                    refine two_ (i := 2) (j := 5) (Ni := some 70) (Nj := some 73) #[true, true, true, true, true, false, false, false] #[true, true, false, true, true, true, false, false] rfl rfl rfl rfl (two_of HT_.out (by kernel_rfl)) (by decide) (by decide) (fun K hK => ?_) (fun K hK => ?_)
                    · skip
                      have hcv143 := own_string (P := Try.prog) Try.underlying23 Try.underlying5 Try.underlying9 (Kd.own_of_R HO306.out)
                      refine value_ (w1 := ?_) (v := ?_) (by rfl) rfl ?_ ?_
                      rotate_left 2
                      · go_simp
                        constructor
                        · rfl
                        · rfl
                      clear hcv143
                      refine hK.out _ _ ⟨(blk_cell BK294.out 0).trans rfl, (blk_cell BK294.out 1).trans rfl, (blk_cell BK295.out 0).trans rfl, (blk_cell BK295.out 1).trans rfl⟩ (fun hHeld => ?_)
                      clear hK K
                      refine norm_ (a' := ?_) ?_ ?_
                      rotate_left
                      · show Act.put _ (some 70) _ = _
                        simp only [Act.put, List.setIfInBounds_toArray, List.set_cons_zero, List.set_cons_succ, i64_w, i32_w]
                        rfl
                      refine pure_ (i := 6) (N := some 10) (v := ?_) (a' := ?_) #[true, true, true, true, true, false, true, false] rfl rfl (any_of HT_.out (by kernel_rfl)) (fun _ _ _ h => h) (Or.inl ⟨by rfl, ?_⟩) ?_ ?_
                      rotate_left
                      · intro w'
                        go_simp
                        with_reducible rfl
                      rotate_left
                      · simp only [Act.put, List.setIfInBounds_toArray, List.set_cons_zero, List.set_cons_succ, i64_w, i32_w]
                        rfl
                      refine one_ (i := 5) (N := some 73) #[true, true, true, true, true, true, true, false] rfl rfl (one_of HT_.out (by kernel_rfl)) (by decide) (fun K hK => ?_)
                      have hcv144 := own_string (P := Try.prog) Try.underlying23 Try.underlying5 Try.underlying9 (Kd.own_of_R HO309.out)
                      refine value_ (w1 := ?_) (v := ?_) (by rfl) rfl ?_ ?_
                      rotate_left 2
                      · go_simp
                        constructor
                        · rfl
                        · rfl
                      clear hcv144
                      refine hK.out _ _ ⟨(blk_cell BK294.out 0).trans rfl, (blk_cell BK294.out 1).trans rfl, (blk_cell BK295.out 0).trans rfl, (blk_cell BK295.out 1).trans rfl⟩ (fun hHeld => ?_)
                      clear hK K
                      refine norm_ (a' := ?_) ?_ ?_
                      rotate_left
                      · show Act.put _ (some 73) _ = _
                        simp only [Act.put, List.setIfInBounds_toArray, List.set_cons_zero, List.set_cons_succ, i64_w, i32_w]
                        rfl
                      exact norm_ (by simp only [putAll, Act.put, List.setIfInBounds_toArray, List.set_cons_zero, List.set_cons_succ]) (hCont (v308) _ ⟨hHeld, (by (with_reducible repeat (first | apply Kd.R_alloc | apply Kd.R_drewN | apply Kd.R_drew)); exact Kd.R_mono HO306.out (fun _ hk => hk.2)), (by (with_reducible repeat (first | apply Kd.R_alloc | apply Kd.R_drewN | apply Kd.R_drew)); exact Kd.R_mono HO309.out (fun _ hk => hk.2)), (by (with_reducible repeat (first | refine blk_drewN ?_ _ | refine blk_drew ?_ | refine blk_alloc ?_ _)); exact BK294.out), (by (with_reducible repeat (first | refine blk_drewN ?_ _ | refine blk_drew ?_ | refine blk_alloc ?_ _)); exact BK295.out), (by (with_reducible repeat (first | refine blk_drewN ?_ _ | refine blk_drew ?_ | refine blk_alloc ?_ _)); exact BK296.out), (by repeat (first | (with_reducible first | exact HB.out | apply below_alloc | apply pw_below_drewN | apply below_drew1 | refine below_set ?_ GE294.out | refine below_set ?_ GE295.out | refine below_set ?_ GE296.out) | exact HB.out))⟩)
                    · skip
                      have hcv143 := own_string (P := Try.prog) Try.underlying23 Try.underlying5 Try.underlying9 (Kd.own_of_R HO309.out)
                      refine value_ (w1 := ?_) (v := ?_) (by rfl) rfl ?_ ?_
                      rotate_left 2
                      · go_simp
                        constructor
                        · rfl
                        · rfl
                      clear hcv143
                      refine hK.out _ _ ⟨(blk_cell BK294.out 0).trans rfl, (blk_cell BK294.out 1).trans rfl, (blk_cell BK295.out 0).trans rfl, (blk_cell BK295.out 1).trans rfl⟩ (fun hHeld => ?_)
                      clear hK K
                      refine norm_ (a' := ?_) ?_ ?_
                      rotate_left
                      · show Act.put _ (some 73) _ = _
                        simp only [Act.put, List.setIfInBounds_toArray, List.set_cons_zero, List.set_cons_succ, i64_w, i32_w]
                        rfl
                      refine one_ (i := 2) (N := some 70) #[true, true, true, true, true, true, false, false] rfl rfl (one_of HT_.out (by kernel_rfl)) (by decide) (fun K hK => ?_)
                      have hcv144 := own_string (P := Try.prog) Try.underlying23 Try.underlying5 Try.underlying9 (Kd.own_of_R HO306.out)
                      refine value_ (w1 := ?_) (v := ?_) (by rfl) rfl ?_ ?_
                      rotate_left 2
                      · go_simp
                        constructor
                        · rfl
                        · rfl
                      clear hcv144
                      refine hK.out _ _ ⟨(blk_cell BK294.out 0).trans rfl, (blk_cell BK294.out 1).trans rfl, (blk_cell BK295.out 0).trans rfl, (blk_cell BK295.out 1).trans rfl⟩ (fun hHeld => ?_)
                      clear hK K
                      refine norm_ (a' := ?_) ?_ ?_
                      rotate_left
                      · show Act.put _ (some 70) _ = _
                        simp only [Act.put, List.setIfInBounds_toArray, List.set_cons_zero, List.set_cons_succ, i64_w, i32_w]
                        rfl
                      refine pure_ (i := 6) (N := some 10) (v := ?_) (a' := ?_) #[true, true, true, true, true, true, true, false] rfl rfl (any_of HT_.out (by kernel_rfl)) (fun _ _ _ h => h) (Or.inl ⟨by rfl, ?_⟩) ?_ ?_
                      rotate_left
                      · intro w'
                        go_simp
                        with_reducible rfl
                      rotate_left
                      · simp only [Act.put, List.setIfInBounds_toArray, List.set_cons_zero, List.set_cons_succ, i64_w, i32_w]
                        rfl
                      exact norm_ (by simp only [putAll, Act.put, List.setIfInBounds_toArray, List.set_cons_zero, List.set_cons_succ]) (hCont (v308) _ ⟨hHeld, (by (with_reducible repeat (first | apply Kd.R_alloc | apply Kd.R_drewN | apply Kd.R_drew)); exact Kd.R_mono HO306.out (fun _ hk => hk.2)), (by (with_reducible repeat (first | apply Kd.R_alloc | apply Kd.R_drewN | apply Kd.R_drew)); exact Kd.R_mono HO309.out (fun _ hk => hk.2)), (by (with_reducible repeat (first | refine blk_drewN ?_ _ | refine blk_drew ?_ | refine blk_alloc ?_ _)); exact BK294.out), (by (with_reducible repeat (first | refine blk_drewN ?_ _ | refine blk_drew ?_ | refine blk_alloc ?_ _)); exact BK295.out), (by (with_reducible repeat (first | refine blk_drewN ?_ _ | refine blk_drew ?_ | refine blk_alloc ?_ _)); exact BK296.out), (by repeat (first | (with_reducible first | exact HB.out | apply below_alloc | apply pw_below_drewN | apply below_drew1 | refine below_set ?_ GE294.out | refine below_set ?_ GE295.out | refine below_set ?_ GE296.out) | exact HB.out))⟩)
                rintro v308 w145 ⟨hS_, h0_, h1_, h2_, h3_, h4_, h5_⟩
                have n0_ : Aside0 (Kd.R (Kd.int .u8) 5 w145 w.heap.size (fun k_ => some k_ ≠ (v308 : Value).ownBlock) v305 t304) := ⟨h0_⟩
                have n1_ : Aside0 (Kd.R (Kd.int .u8) 5 w145 w.heap.size (fun k_ => some k_ ≠ (v305 : Value).ownBlock) v308 t307) := ⟨h1_⟩
                have n2_ : Aside0 (w145.heap[gb294]? = some (.cells #[.int .u64 a0_0, .int .i64 a0_1] 31 (0, 0))) := ⟨h2_⟩
                have n3_ : Aside0 (w145.heap[gb295]? = some (.cells #[.int .u64 a1_0, .int .i64 a1_1] 31 (0, 0))) := ⟨h3_⟩
                have n4_ : Aside0 (w145.heap[gb296]? = some (.cells #[.int .u64 a2_0, .int .i64 a2_1] 31 (0, 0))) := ⟨h4_⟩
                have n5_ : Aside0 (Below w.heap.size w w145) := ⟨h5_⟩
                clear BK294
                clear BK295
                clear BK296
                clear HB
                clear h0_ h1_ h2_ h3_ h4_ h5_
                have HO306 := n0_
                have HO309 := n1_
                have BK294 := n2_
                have BK295 := n3_
                have BK296 := n4_
                have HB := n5_
                clear n0_ n1_ n2_ n3_ n4_ n5_
                have hHeld : w145.cell? ⟨gb294, 0, none⟩ = some (.int .u64 a0_0) ∧ w145.cell? ⟨gb294, 1, none⟩ = some (.int .i64 a0_1) ∧ w145.cell? ⟨gb295, 0, none⟩ = some (.int .u64 a1_0) ∧ w145.cell? ⟨gb295, 1, none⟩ = some (.int .i64 a1_1) := hS_
                refine norm_ (a' := ?_) ?_ ?_
                rotate_left
                · simp only [putAll, Act.put, List.setIfInBounds_toArray, List.set_cons_zero, List.set_cons_succ]
                  rfl
                refine pure_ (i := 7) (N := some 11) (v := ?_) (a' := ?_) #[true, true, true, true, true, true, true, true] rfl rfl (any_of HT_.out (by kernel_rfl)) (fun _ _ _ h => h) (Or.inl ⟨by rfl, ?_⟩) ?_ ?_
                rotate_left
                · intro w'
                  go_simp
                  with_reducible rfl
                rotate_left
                · simp only [Act.put, List.setIfInBounds_toArray, List.set_cons_zero, List.set_cons_succ, i64_w, i32_w]
                  rfl
                refine done_ (done_of HT_.out (by kernel_rfl)) ?_
                try go_wp2
                all_goals
                  go_ret
                  exact ⟨by first | rfl | (simp [errW_none, errW_some] <;> rfl) | (simp [*, errW_none, errW_some] <;> rfl), by repeat (first | (with_reducible first | exact HB.out | apply below_alloc | apply pw_below_drewN | apply below_drew1 | refine below_set ?_ GE294.out | refine below_set ?_ GE295.out | refine below_set ?_ GE296.out) | exact HB.out)⟩

/-- The one pure statement of carillonlaw04_IdentOrder. -/
def carillonlaw04_IdentOrder.Pure : Prop := ∀ (a0_0 : Int) (a0_1 : Int) (a1_0 : Int) (a1_1 : Int) (a2_0 : Int) (a2_1 : Int), (Lit.int .u64 a0_0).wf = true → (Lit.int .i64 a0_1).wf = true → (Lit.int .u64 a1_0).wf = true → (Lit.int .i64 a1_1).wf = true → (Lit.int .u64 a2_0).wf = true → (Lit.int .i64 a2_1).wf = true → ∃ k, carillonlaw04_IdentOrder.f k a0_0 a0_1 a1_0 a1_1 a2_0 a2_1 = some true
theorem carillonlaw04_IdentOrder.walk (P : carillonlaw04_IdentOrder.Pure) (a0_0 : Int) (a0_1 : Int) (a1_0 : Int) (a1_1 : Int) (a2_0 : Int) (a2_1 : Int) (w : World) (w0_0 : (Lit.int .u64 a0_0).wf = true) (w0_1 : (Lit.int .i64 a0_1).wf = true) (w1_0 : (Lit.int .u64 a1_0).wf = true) (w1_1 : (Lit.int .i64 a1_1).wf = true) (w2_0 : (Lit.int .u64 a2_0).wf = true) (w2_1 : (Lit.int .i64 a2_1).wf = true) :
    Calls Try.prog 8 #[.agg #[.int .u64 a0_0, .int .i64 a0_1], .agg #[.int .u64 a1_0, .int .i64 a1_1], .agg #[.int .u64 a2_0, .int .i64 a2_1]] w fun e w' => e = .returned (.bool true) ∧ Below w.heap.size w w' := by
  obtain ⟨k, h⟩ := P a0_0 a0_1 a1_0 a1_1 a2_0 a2_1 w0_0 w0_1 w1_0 w1_1 w2_0 w2_1
  refine (carillonlaw04_IdentOrder.calls k a0_0 a0_1 a1_0 a1_1 a2_0 a2_1 true w  h).mono ?_
  rintro e w' ⟨rfl, hd⟩
  exact ⟨rfl, hd⟩

end Go.Proofs.Ytinlfcfcpolodaa.P
