/- Functions and loops of the given program as Lean functions, and that the code comes to what they say: written by this session's own program; Lean checks it. -/
import Derived.Test.YtcflafkafbpibaaPx0
import Derived.Test.YtcflafkafbpibaaPx1
import Derived.Test.YtcflafkafbpibaaPx5
import Derived.Test.YtcflafkafbpibaaPx7
namespace Go.Proofs.Ytcflafkafbpibaa.P
open Go.RowKit Go.Proofs.YtcflafkafbpibaaW.PrintWords Go.Proofs.YtcflafkafbpibaaW.PrintLast Go.Proofs.YtcflafkafbpibaaW.PrintMore
attribute [local go_sem] max2_int min2_int max_two min_two max_three min_three max_four min_four   -- for this text's walks alone
set_option linter.unusedVariables false
set_option linter.unusedSimpArgs false

attribute [local go_sem high] eqA24
/-! ### carillonlaw06_HeaderApart: function 4 -/
def carillonlaw06_HeaderApart.j0 : Nat → List Int → List Int → Bool → Int → Int → Int → Int → Int → Int → Int → Int → Int → Int → Int → Int → Int → Int → Int → Int → Int → Int → Int → Int → Int → Int → Int → Int → Int → Int → Int → Int → Int → Int → Int → Int → Int → Int → Int → Int → Int → Int → Int → Int → Int → Int → Int → Int → Int → Int → Option (Bool)
  | 0, _, _, _, _, _, _, _, _, _, _, _, _, _, _, _, _, _, _, _, _, _, _, _, _, _, _, _, _, _, _, _, _, _, _, _, _, _, _, _, _, _, _, _, _, _, _, _, _, _ => none
  | k + 1, x5, x7, x25, x280000, x280001, x280002, x280003, x280004, x280005, x280006, x280007, x280008, x280009, x280010, x280011, x280012, x280013, x280014, x280015, x280016, x280017, x280018, x280019, x280020, x280021, x280022, x281000, x281001, x281002, x281003, x281004, x281005, x281006, x281007, x281008, x281009, x281010, x281011, x281012, x281013, x281014, x281015, x281016, x281017, x281018, x281019, x281020, x281021, x281022 => if x25 = true then ((carillonlaw06_awake.f k).bind fun t289 => (some t289)) else (if x280000 = x281000 then (if x280001 = x281001 then (if x280002 = x281002 then (if x280003 = x281003 then (if (x280004 == x281004 && (x280005 == x281005)) = true then (if x280006 = x281006 then (if (((strOfNums x5).toList == (strOfNums x7).toList) == (x280007 == x281007)) = true then ((carillonlaw06_awake.f k).bind fun t290 => (some t290)) else (some false)) else (if (((strOfNums x5).toList == (strOfNums x7).toList) == false) = true then ((carillonlaw06_awake.f k).bind fun t291 => (some t291)) else (some false))) else (if (((strOfNums x5).toList == (strOfNums x7).toList) == false) = true then ((carillonlaw06_awake.f k).bind fun t292 => (some t292)) else (some false))) else (if (((strOfNums x5).toList == (strOfNums x7).toList) == false) = true then ((carillonlaw06_awake.f k).bind fun t293 => (some t293)) else (some false))) else (if (((strOfNums x5).toList == (strOfNums x7).toList) == false) = true then ((carillonlaw06_awake.f k).bind fun t294 => (some t294)) else (some false))) else (if (((strOfNums x5).toList == (strOfNums x7).toList) == false) = true then ((carillonlaw06_awake.f k).bind fun t295 => (some t295)) else (some false))) else (if (((strOfNums x5).toList == (strOfNums x7).toList) == false) = true then ((carillonlaw06_awake.f k).bind fun t296 => (some t296)) else (some false)))
def carillonlaw06_HeaderApart.f (k : Nat) (a0_0 : Int) (a0_1 : Int) (a0_2 : Int) (a0_3 : Int) (a0_4 : Int) (a0_5 : Int) (a0_6 : Int) (a0_7 : Int) (a0_8 : Int) (a0_9 : Int) (a0_10 : Int) (a0_11 : Int) (a0_12 : Int) (a0_13 : Int) (a0_14 : Int) (a0_15 : Int) (a0_16 : Int) (a0_17 : Int) (a0_18 : Int) (a0_19 : Int) (a0_20 : Int) (a0_21 : Int) (a0_22 : Int) (a1_0 : Int) (a1_1 : Int) (a1_2 : Int) (a1_3 : Int) (a1_4 : Int) (a1_5 : Int) (a1_6 : Int) (a1_7 : Int) (a1_8 : Int) (a1_9 : Int) (a1_10 : Int) (a1_11 : Int) (a1_12 : Int) (a1_13 : Int) (a1_14 : Int) (a1_15 : Int) (a1_16 : Int) (a1_17 : Int) (a1_18 : Int) (a1_19 : Int) (a1_20 : Int) (a1_21 : Int) (a1_22 : Int) : Option (Bool) := (header_Put.f k a0_0 a0_1 a0_2 a0_3 a0_4 a0_5 a0_6 a0_7 a0_8 a0_9 a0_10 a0_11 a0_12 a0_13 a0_14 a0_15 a0_16 a0_17 a0_18 a0_19 a0_20 a0_21 a0_22 60).bind fun bt281 => ((header_Put.f k a1_0 a1_1 a1_2 a1_3 a1_4 a1_5 a1_6 a1_7 a1_8 a1_9 a1_10 a1_11 a1_12 a1_13 a1_14 a1_15 a1_16 a1_17 a1_18 a1_19 a1_20 a1_21 a1_22 60).bind fun bt285 => (if bt281.2 = true then (carillonlaw06_HeaderApart.j0 k bt281.1 bt285.1 (!bt285.2) a0_0 a0_1 a0_2 a0_3 a0_4 a0_5 a0_6 a0_7 a0_8 a0_9 a0_10 a0_11 a0_12 a0_13 a0_14 a0_15 a0_16 a0_17 a0_18 a0_19 a0_20 a0_21 a0_22 a1_0 a1_1 a1_2 a1_3 a1_4 a1_5 a1_6 a1_7 a1_8 a1_9 a1_10 a1_11 a1_12 a1_13 a1_14 a1_15 a1_16 a1_17 a1_18 a1_19 a1_20 a1_21 a1_22) else (carillonlaw06_HeaderApart.j0 k bt281.1 bt285.1 true a0_0 a0_1 a0_2 a0_3 a0_4 a0_5 a0_6 a0_7 a0_8 a0_9 a0_10 a0_11 a0_12 a0_13 a0_14 a0_15 a0_16 a0_17 a0_18 a0_19 a0_20 a0_21 a0_22 a1_0 a1_1 a1_2 a1_3 a1_4 a1_5 a1_6 a1_7 a1_8 a1_9 a1_10 a1_11 a1_12 a1_13 a1_14 a1_15 a1_16 a1_17 a1_18 a1_19 a1_20 a1_21 a1_22)))
theorem carillonlaw06_HeaderApart.mono_l : ∀ k, (∀ y0 y1 y2 y3 y4 y5 y6 y7 y8 y9 y10 y11 y12 y13 y14 y15 y16 y17 y18 y19 y20 y21 y22 y23 y24 y25 y26 y27 y28 y29 y30 y31 y32 y33 y34 y35 y36 y37 y38 y39 y40 y41 y42 y43 y44 y45 y46 y47 y48, LeO (carillonlaw06_HeaderApart.j0 k y0 y1 y2 y3 y4 y5 y6 y7 y8 y9 y10 y11 y12 y13 y14 y15 y16 y17 y18 y19 y20 y21 y22 y23 y24 y25 y26 y27 y28 y29 y30 y31 y32 y33 y34 y35 y36 y37 y38 y39 y40 y41 y42 y43 y44 y45 y46 y47 y48) (carillonlaw06_HeaderApart.j0 (k + 1) y0 y1 y2 y3 y4 y5 y6 y7 y8 y9 y10 y11 y12 y13 y14 y15 y16 y17 y18 y19 y20 y21 y22 y23 y24 y25 y26 y27 y28 y29 y30 y31 y32 y33 y34 y35 y36 y37 y38 y39 y40 y41 y42 y43 y44 y45 y46 y47 y48))
  | 0 => fun _ _ _ _ _ _ _ _ _ _ _ _ _ _ _ _ _ _ _ _ _ _ _ _ _ _ _ _ _ _ _ _ _ _ _ _ _ _ _ _ _ _ _ _ _ _ _ _ _ r h => by simp [carillonlaw06_HeaderApart.j0] at h
  | k + 1 => by
    have ih0 := carillonlaw06_HeaderApart.mono_l k
    · intro y0 y1 y2 y3 y4 y5 y6 y7 y8 y9 y10 y11 y12 y13 y14 y15 y16 y17 y18 y19 y20 y21 y22 y23 y24 y25 y26 y27 y28 y29 y30 y31 y32 y33 y34 y35 y36 y37 y38 y39 y40 y41 y42 y43 y44 y45 y46 y47 y48
      unfold carillonlaw06_HeaderApart.j0
      repeat' first
      | (with_reducible exact ih0 _ _ _ _ _ _ _ _ _ _ _ _ _ _ _ _ _ _ _ _ _ _ _ _ _ _ _ _ _ _ _ _ _ _ _ _ _ _ _ _ _ _ _ _ _ _ _ _ _)
      | (with_reducible exact carillonlaw06_awake.mono _)
      | (with_reducible exact header_Put.mono _ _ _ _ _ _ _ _ _ _ _ _ _ _ _ _ _ _ _ _ _ _ _ _ _)
      | (with_reducible exact LeO.refl _)
      | (with_reducible exact LeO.none _)
      | (with_reducible refine LeO.ite ?_ ?_)
      | (with_reducible refine LeO.bind ?_ (fun _ => ?_))
      | exact ih0 _ _ _ _ _ _ _ _ _ _ _ _ _ _ _ _ _ _ _ _ _ _ _ _ _ _ _ _ _ _ _ _ _ _ _ _ _ _ _ _ _ _ _ _ _ _ _ _ _
      | exact carillonlaw06_awake.mono _
      | exact header_Put.mono _ _ _ _ _ _ _ _ _ _ _ _ _ _ _ _ _ _ _ _ _ _ _ _ _
      | exact LeO.none _
      | refine LeO.ite ?_ ?_
      | refine LeO.bind ?_ (fun _ => ?_)
theorem carillonlaw06_HeaderApart.mono : ∀ a0 a1 a2 a3 a4 a5 a6 a7 a8 a9 a10 a11 a12 a13 a14 a15 a16 a17 a18 a19 a20 a21 a22 a23 a24 a25 a26 a27 a28 a29 a30 a31 a32 a33 a34 a35 a36 a37 a38 a39 a40 a41 a42 a43 a44 a45 k, LeO (carillonlaw06_HeaderApart.f k a0 a1 a2 a3 a4 a5 a6 a7 a8 a9 a10 a11 a12 a13 a14 a15 a16 a17 a18 a19 a20 a21 a22 a23 a24 a25 a26 a27 a28 a29 a30 a31 a32 a33 a34 a35 a36 a37 a38 a39 a40 a41 a42 a43 a44 a45) (carillonlaw06_HeaderApart.f (k + 1) a0 a1 a2 a3 a4 a5 a6 a7 a8 a9 a10 a11 a12 a13 a14 a15 a16 a17 a18 a19 a20 a21 a22 a23 a24 a25 a26 a27 a28 a29 a30 a31 a32 a33 a34 a35 a36 a37 a38 a39 a40 a41 a42 a43 a44 a45) := by
  intro a0 a1 a2 a3 a4 a5 a6 a7 a8 a9 a10 a11 a12 a13 a14 a15 a16 a17 a18 a19 a20 a21 a22 a23 a24 a25 a26 a27 a28 a29 a30 a31 a32 a33 a34 a35 a36 a37 a38 a39 a40 a41 a42 a43 a44 a45 k
  have ih0 := carillonlaw06_HeaderApart.mono_l k
  unfold carillonlaw06_HeaderApart.f
  repeat' first
      | (with_reducible exact ih0 _ _ _ _ _ _ _ _ _ _ _ _ _ _ _ _ _ _ _ _ _ _ _ _ _ _ _ _ _ _ _ _ _ _ _ _ _ _ _ _ _ _ _ _ _ _ _ _ _)
      | (with_reducible exact carillonlaw06_awake.mono _)
      | (with_reducible exact header_Put.mono _ _ _ _ _ _ _ _ _ _ _ _ _ _ _ _ _ _ _ _ _ _ _ _ _)
      | (with_reducible exact LeO.refl _)
      | (with_reducible exact LeO.none _)
      | (with_reducible refine LeO.ite ?_ ?_)
      | (with_reducible refine LeO.bind ?_ (fun _ => ?_))
      | exact ih0 _ _ _ _ _ _ _ _ _ _ _ _ _ _ _ _ _ _ _ _ _ _ _ _ _ _ _ _ _ _ _ _ _ _ _ _ _ _ _ _ _ _ _ _ _ _ _ _ _
      | exact carillonlaw06_awake.mono _
      | exact header_Put.mono _ _ _ _ _ _ _ _ _ _ _ _ _ _ _ _ _ _ _ _ _ _ _ _ _
      | exact LeO.none _
      | refine LeO.ite ?_ ?_
      | refine LeO.bind ?_ (fun _ => ?_)
set_option maxHeartbeats 8000000 in
set_option maxRecDepth 100000 in
theorem carillonlaw06_HeaderApart.calls (k : Nat) (a0_0 : Int) (a0_1 : Int) (a0_2 : Int) (a0_3 : Int) (a0_4 : Int) (a0_5 : Int) (a0_6 : Int) (a0_7 : Int) (a0_8 : Int) (a0_9 : Int) (a0_10 : Int) (a0_11 : Int) (a0_12 : Int) (a0_13 : Int) (a0_14 : Int) (a0_15 : Int) (a0_16 : Int) (a0_17 : Int) (a0_18 : Int) (a0_19 : Int) (a0_20 : Int) (a0_21 : Int) (a0_22 : Int) (a1_0 : Int) (a1_1 : Int) (a1_2 : Int) (a1_3 : Int) (a1_4 : Int) (a1_5 : Int) (a1_6 : Int) (a1_7 : Int) (a1_8 : Int) (a1_9 : Int) (a1_10 : Int) (a1_11 : Int) (a1_12 : Int) (a1_13 : Int) (a1_14 : Int) (a1_15 : Int) (a1_16 : Int) (a1_17 : Int) (a1_18 : Int) (a1_19 : Int) (a1_20 : Int) (a1_21 : Int) (a1_22 : Int) (w : World) (h : carillonlaw06_HeaderApart.f k a0_0 a0_1 a0_2 a0_3 a0_4 a0_5 a0_6 a0_7 a0_8 a0_9 a0_10 a0_11 a0_12 a0_13 a0_14 a0_15 a0_16 a0_17 a0_18 a0_19 a0_20 a0_21 a0_22 a1_0 a1_1 a1_2 a1_3 a1_4 a1_5 a1_6 a1_7 a1_8 a1_9 a1_10 a1_11 a1_12 a1_13 a1_14 a1_15 a1_16 a1_17 a1_18 a1_19 a1_20 a1_21 a1_22 = some true) :
    Calls Try.prog 4 #[.agg #[.int .i64 a0_0, .int .i64 a0_1, .int .i64 a0_2, .int .i64 a0_3, .int .u64 a0_4, .int .i64 a0_5, .int .i64 a0_6, .int .i64 a0_7, .int .i64 a0_8, .int .u64 a0_9, .int .i64 a0_10, .int .i64 a0_11, .int .i64 a0_12, .int .i64 a0_13, .int .i64 a0_14, .int .i64 a0_15, .int .i64 a0_16, .int .u64 a0_17, .int .i64 a0_18, .int .i64 a0_19, .int .i64 a0_20, .int .i64 a0_21, .int .i64 a0_22], .agg #[.int .i64 a1_0, .int .i64 a1_1, .int .i64 a1_2, .int .i64 a1_3, .int .u64 a1_4, .int .i64 a1_5, .int .i64 a1_6, .int .i64 a1_7, .int .i64 a1_8, .int .u64 a1_9, .int .i64 a1_10, .int .i64 a1_11, .int .i64 a1_12, .int .i64 a1_13, .int .i64 a1_14, .int .i64 a1_15, .int .i64 a1_16, .int .u64 a1_17, .int .i64 a1_18, .int .i64 a1_19, .int .i64 a1_20, .int .i64 a1_21, .int .i64 a1_22]] w fun e w' => e = .returned (.bool true) ∧ Below w.heap.size w w' := by
  have hu28 := Try.underlying28
  have hu24 := Try.underlying24
  have HB := Aside0.mk (Below.refl w.heap.size w)
  have H : ((header_Put.f k a0_0 a0_1 a0_2 a0_3 a0_4 a0_5 a0_6 a0_7 a0_8 a0_9 a0_10 a0_11 a0_12 a0_13 a0_14 a0_15 a0_16 a0_17 a0_18 a0_19 a0_20 a0_21 a0_22 60).bind fun bt281 => ((header_Put.f k a1_0 a1_1 a1_2 a1_3 a1_4 a1_5 a1_6 a1_7 a1_8 a1_9 a1_10 a1_11 a1_12 a1_13 a1_14 a1_15 a1_16 a1_17 a1_18 a1_19 a1_20 a1_21 a1_22 60).bind fun bt285 => (if bt281.2 = true then (carillonlaw06_HeaderApart.j0 k bt281.1 bt285.1 (!bt285.2) a0_0 a0_1 a0_2 a0_3 a0_4 a0_5 a0_6 a0_7 a0_8 a0_9 a0_10 a0_11 a0_12 a0_13 a0_14 a0_15 a0_16 a0_17 a0_18 a0_19 a0_20 a0_21 a0_22 a1_0 a1_1 a1_2 a1_3 a1_4 a1_5 a1_6 a1_7 a1_8 a1_9 a1_10 a1_11 a1_12 a1_13 a1_14 a1_15 a1_16 a1_17 a1_18 a1_19 a1_20 a1_21 a1_22) else (carillonlaw06_HeaderApart.j0 k bt281.1 bt285.1 true a0_0 a0_1 a0_2 a0_3 a0_4 a0_5 a0_6 a0_7 a0_8 a0_9 a0_10 a0_11 a0_12 a0_13 a0_14 a0_15 a0_16 a0_17 a0_18 a0_19 a0_20 a0_21 a0_22 a1_0 a1_1 a1_2 a1_3 a1_4 a1_5 a1_6 a1_7 a1_8 a1_9 a1_10 a1_11 a1_12 a1_13 a1_14 a1_15 a1_16 a1_17 a1_18 a1_19 a1_20 a1_21 a1_22)))) = some true := h
  clear h
  replace H := Option.bind_eq_some_iff.mp H
  obtain ⟨⟨t281, t284⟩, A30, H⟩ := H
  replace H : ((header_Put.f k a1_0 a1_1 a1_2 a1_3 a1_4 a1_5 a1_6 a1_7 a1_8 a1_9 a1_10 a1_11 a1_12 a1_13 a1_14 a1_15 a1_16 a1_17 a1_18 a1_19 a1_20 a1_21 a1_22 60).bind fun bt285 => (if t284 = true then (carillonlaw06_HeaderApart.j0 k t281 bt285.1 (!bt285.2) a0_0 a0_1 a0_2 a0_3 a0_4 a0_5 a0_6 a0_7 a0_8 a0_9 a0_10 a0_11 a0_12 a0_13 a0_14 a0_15 a0_16 a0_17 a0_18 a0_19 a0_20 a0_21 a0_22 a1_0 a1_1 a1_2 a1_3 a1_4 a1_5 a1_6 a1_7 a1_8 a1_9 a1_10 a1_11 a1_12 a1_13 a1_14 a1_15 a1_16 a1_17 a1_18 a1_19 a1_20 a1_21 a1_22) else (carillonlaw06_HeaderApart.j0 k t281 bt285.1 true a0_0 a0_1 a0_2 a0_3 a0_4 a0_5 a0_6 a0_7 a0_8 a0_9 a0_10 a0_11 a0_12 a0_13 a0_14 a0_15 a0_16 a0_17 a0_18 a0_19 a0_20 a0_21 a0_22 a1_0 a1_1 a1_2 a1_3 a1_4 a1_5 a1_6 a1_7 a1_8 a1_9 a1_10 a1_11 a1_12 a1_13 a1_14 a1_15 a1_16 a1_17 a1_18 a1_19 a1_20 a1_21 a1_22))) = some true := H
  have A3 := Aside0.mk A30
  clear A30
  replace H := Option.bind_eq_some_iff.mp H
  obtain ⟨⟨t285, t288⟩, A40, H⟩ := H
  replace H : (if t284 = true then (carillonlaw06_HeaderApart.j0 k t281 t285 (!t288) a0_0 a0_1 a0_2 a0_3 a0_4 a0_5 a0_6 a0_7 a0_8 a0_9 a0_10 a0_11 a0_12 a0_13 a0_14 a0_15 a0_16 a0_17 a0_18 a0_19 a0_20 a0_21 a0_22 a1_0 a1_1 a1_2 a1_3 a1_4 a1_5 a1_6 a1_7 a1_8 a1_9 a1_10 a1_11 a1_12 a1_13 a1_14 a1_15 a1_16 a1_17 a1_18 a1_19 a1_20 a1_21 a1_22) else (carillonlaw06_HeaderApart.j0 k t281 t285 true a0_0 a0_1 a0_2 a0_3 a0_4 a0_5 a0_6 a0_7 a0_8 a0_9 a0_10 a0_11 a0_12 a0_13 a0_14 a0_15 a0_16 a0_17 a0_18 a0_19 a0_20 a0_21 a0_22 a1_0 a1_1 a1_2 a1_3 a1_4 a1_5 a1_6 a1_7 a1_8 a1_9 a1_10 a1_11 a1_12 a1_13 a1_14 a1_15 a1_16 a1_17 a1_18 a1_19 a1_20 a1_21 a1_22)) = some true := H
  have A4 := Aside0.mk A40
  clear A40
  have HC5 := Aside0.mk H
  clear H
  go_enter Try.func4, Try.ntmps4
  go_upto_region 3 with (first | (refine big_load (g := gb279) (t := 28) (fr := (0, 0)) (n := 23) (cs := ?_) rfl rfl Try.underlying28 (by kernel_rfl) rfl ?lg ?ln ?_; (case lg => (with_reducible repeat (first | refine blk_drewN ?_ _ | refine blk_drew ?_ | refine blk_alloc ?_ _)); exact BK279.out); (case ln => rfl)) | (refine big_load (g := gb280) (t := 28) (fr := (0, 0)) (n := 23) (cs := ?_) rfl rfl Try.underlying28 (by kernel_rfl) rfl ?lg ?ln ?_; (case lg => (with_reducible repeat (first | refine blk_drewN ?_ _ | refine blk_drew ?_ | refine blk_alloc ?_ _)); exact BK280.out); (case ln => rfl)) | ((with_reducible refine gate_dst (N := 2) rfl ?_); refine box_event ?hg (N := 2) ?hd (cs := #[.int .i64 a0_0, .int .i64 a0_1, .int .i64 a0_2, .int .i64 a0_3, .int .u64 a0_4, .int .i64 a0_5, .int .i64 a0_6, .int .i64 a0_7, .int .i64 a0_8, .int .u64 a0_9, .int .i64 a0_10, .int .i64 a0_11, .int .i64 a0_12, .int .i64 a0_13, .int .i64 a0_14, .int .i64 a0_15, .int .i64 a0_16, .int .u64 a0_17, .int .i64 a0_18, .int .i64 a0_19, .int .i64 a0_20, .int .i64 a0_21, .int .i64 a0_22]) (t := 28) ?hr ?_; (case hd => rfl); (case hg => rfl); (case hr => first | (go_simp; done) | (go_simp; rfl)); intro gb279 hg w6 hbox hb; have n0_ := Aside0.mk (below_step (by repeat (first | (with_reducible first | exact HB.out | apply below_alloc | apply pw_below_drewN | apply below_drew1) | exact HB.out)) hb); have n1_ := Aside0.mk (hbox); have n2_ := Aside0.mk ((by rw [hg]; exact (below_size (by repeat (first | (with_reducible first | exact HB.out | apply below_alloc | apply pw_below_drewN | apply below_drew1) | exact HB.out))) : w.heap.size ≤ gb279)); have n3_ := Aside0.mk ((by rw [hg]; exact (below_size (by repeat (first | (with_reducible first | exact HB.out | apply below_alloc | apply pw_below_drewN | apply below_drew1) | exact HB.out))) : w.heap.size ≤ gb279)); clear HB; have HB := n0_; have BK279 := n1_; have GW279 := n2_; have GE279 := n3_; clear n0_ n1_ n2_ n3_; clear hb hbox hg) | ((with_reducible refine gate_dst (N := 3) rfl ?_); refine box_event ?hg (N := 3) ?hd (cs := #[.int .i64 a1_0, .int .i64 a1_1, .int .i64 a1_2, .int .i64 a1_3, .int .u64 a1_4, .int .i64 a1_5, .int .i64 a1_6, .int .i64 a1_7, .int .i64 a1_8, .int .u64 a1_9, .int .i64 a1_10, .int .i64 a1_11, .int .i64 a1_12, .int .i64 a1_13, .int .i64 a1_14, .int .i64 a1_15, .int .i64 a1_16, .int .u64 a1_17, .int .i64 a1_18, .int .i64 a1_19, .int .i64 a1_20, .int .i64 a1_21, .int .i64 a1_22]) (t := 28) ?hr ?_; (case hd => rfl); (case hg => rfl); (case hr => first | (go_simp; done) | (go_simp; rfl)); intro gb280 hg w7 hbox hb; have n0_ := Aside0.mk (blk_below (g := gb279) (o := .cells #[.int .i64 a0_0, .int .i64 a0_1, .int .i64 a0_2, .int .i64 a0_3, .int .u64 a0_4, .int .i64 a0_5, .int .i64 a0_6, .int .i64 a0_7, .int .i64 a0_8, .int .u64 a0_9, .int .i64 a0_10, .int .i64 a0_11, .int .i64 a0_12, .int .i64 a0_13, .int .i64 a0_14, .int .i64 a0_15, .int .i64 a0_16, .int .u64 a0_17, .int .i64 a0_18, .int .i64 a0_19, .int .i64 a0_20, .int .i64 a0_21, .int .i64 a0_22] 28 (0, 0)) (by (with_reducible repeat (first | refine blk_drewN ?_ _ | refine blk_drew ?_ | refine blk_alloc ?_ _)); exact BK279.out) hb); have n1_ := Aside0.mk (below_step (by repeat (first | (with_reducible first | exact HB.out | apply below_alloc | apply pw_below_drewN | apply below_drew1 | refine below_set ?_ GE279.out) | exact HB.out)) hb); have n2_ := Aside0.mk (hbox); have n3_ := Aside0.mk ((by rw [hg]; exact (below_size (by repeat (first | (with_reducible first | exact HB.out | apply below_alloc | apply pw_below_drewN | apply below_drew1 | refine below_set ?_ GE279.out) | exact HB.out))) : w.heap.size ≤ gb280)); have n4_ := Aside0.mk ((by rw [hg]; exact (below_size (by repeat (first | (with_reducible first | exact HB.out | apply below_alloc | apply pw_below_drewN | apply below_drew1 | refine below_set ?_ GE279.out) | exact HB.out))) : w.heap.size ≤ gb280)); have n5_ := Aside0.mk ((by rw [hg]; exact Nat.ne_of_lt (blk_lt (g := gb279) (o := .cells #[.int .i64 a0_0, .int .i64 a0_1, .int .i64 a0_2, .int .i64 a0_3, .int .u64 a0_4, .int .i64 a0_5, .int .i64 a0_6, .int .i64 a0_7, .int .i64 a0_8, .int .u64 a0_9, .int .i64 a0_10, .int .i64 a0_11, .int .i64 a0_12, .int .i64 a0_13, .int .i64 a0_14, .int .i64 a0_15, .int .i64 a0_16, .int .u64 a0_17, .int .i64 a0_18, .int .i64 a0_19, .int .i64 a0_20, .int .i64 a0_21, .int .i64 a0_22] 28 (0, 0)) (by (with_reducible repeat (first | refine blk_drewN ?_ _ | refine blk_drew ?_ | refine blk_alloc ?_ _)); exact BK279.out)) : gb279 ≠ gb280)); have n6_ := Aside0.mk ((by rw [hg]; exact Nat.ne_of_gt (blk_lt (g := gb279) (o := .cells #[.int .i64 a0_0, .int .i64 a0_1, .int .i64 a0_2, .int .i64 a0_3, .int .u64 a0_4, .int .i64 a0_5, .int .i64 a0_6, .int .i64 a0_7, .int .i64 a0_8, .int .u64 a0_9, .int .i64 a0_10, .int .i64 a0_11, .int .i64 a0_12, .int .i64 a0_13, .int .i64 a0_14, .int .i64 a0_15, .int .i64 a0_16, .int .u64 a0_17, .int .i64 a0_18, .int .i64 a0_19, .int .i64 a0_20, .int .i64 a0_21, .int .i64 a0_22] 28 (0, 0)) (by (with_reducible repeat (first | refine blk_drewN ?_ _ | refine blk_drew ?_ | refine blk_alloc ?_ _)); exact BK279.out)) : gb280 ≠ gb279)); clear BK279; clear HB; have BK279 := n0_; have HB := n1_; have BK280 := n2_; have GW280 := n3_; have GE280 := n4_; have NB279_280 := n5_; have NB280_279 := n6_; clear n0_ n1_ n2_ n3_ n4_ n5_ n6_; clear hb hbox hg; have hnb8 := NB279_280.out; have hnc8 := NB280_279.out; have hcz9_0 : w7.cell? ⟨gb279, 0, none⟩ = some (.int .i64 a0_0) := (blk_cell BK279.out 0).trans rfl; have hcz9_1 : w7.cell? ⟨gb279, 1, none⟩ = some (.int .i64 a0_1) := (blk_cell BK279.out 1).trans rfl; have hcz9_2 : w7.cell? ⟨gb279, 2, none⟩ = some (.int .i64 a0_2) := (blk_cell BK279.out 2).trans rfl; have hcz9_3 : w7.cell? ⟨gb279, 3, none⟩ = some (.int .i64 a0_3) := (blk_cell BK279.out 3).trans rfl; have hcz9_4 : w7.cell? ⟨gb279, 4, none⟩ = some (.int .u64 a0_4) := (blk_cell BK279.out 4).trans rfl; have hcz9_5 : w7.cell? ⟨gb279, 5, none⟩ = some (.int .i64 a0_5) := (blk_cell BK279.out 5).trans rfl; have hcz9_6 : w7.cell? ⟨gb279, 6, none⟩ = some (.int .i64 a0_6) := (blk_cell BK279.out 6).trans rfl; have hcz9_7 : w7.cell? ⟨gb279, 7, none⟩ = some (.int .i64 a0_7) := (blk_cell BK279.out 7).trans rfl; have hcz9_8 : w7.cell? ⟨gb279, 8, none⟩ = some (.int .i64 a0_8) := (blk_cell BK279.out 8).trans rfl; have hcz9_9 : w7.cell? ⟨gb279, 9, none⟩ = some (.int .u64 a0_9) := (blk_cell BK279.out 9).trans rfl; have hcz9_10 : w7.cell? ⟨gb279, 10, none⟩ = some (.int .i64 a0_10) := (blk_cell BK279.out 10).trans rfl; have hcz9_11 : w7.cell? ⟨gb279, 11, none⟩ = some (.int .i64 a0_11) := (blk_cell BK279.out 11).trans rfl; have hcz9_12 : w7.cell? ⟨gb279, 12, none⟩ = some (.int .i64 a0_12) := (blk_cell BK279.out 12).trans rfl; have hcz9_13 : w7.cell? ⟨gb279, 13, none⟩ = some (.int .i64 a0_13) := (blk_cell BK279.out 13).trans rfl; have hcz9_14 : w7.cell? ⟨gb279, 14, none⟩ = some (.int .i64 a0_14) := (blk_cell BK279.out 14).trans rfl; have hcz9_15 : w7.cell? ⟨gb279, 15, none⟩ = some (.int .i64 a0_15) := (blk_cell BK279.out 15).trans rfl; have hcz9_16 : w7.cell? ⟨gb279, 16, none⟩ = some (.int .i64 a0_16) := (blk_cell BK279.out 16).trans rfl; have hcz9_17 : w7.cell? ⟨gb279, 17, none⟩ = some (.int .u64 a0_17) := (blk_cell BK279.out 17).trans rfl; have hcz9_18 : w7.cell? ⟨gb279, 18, none⟩ = some (.int .i64 a0_18) := (blk_cell BK279.out 18).trans rfl; have hcz9_19 : w7.cell? ⟨gb279, 19, none⟩ = some (.int .i64 a0_19) := (blk_cell BK279.out 19).trans rfl; have hcz9_20 : w7.cell? ⟨gb279, 20, none⟩ = some (.int .i64 a0_20) := (blk_cell BK279.out 20).trans rfl; have hcz9_21 : w7.cell? ⟨gb279, 21, none⟩ = some (.int .i64 a0_21) := (blk_cell BK279.out 21).trans rfl; have hcz9_22 : w7.cell? ⟨gb279, 22, none⟩ = some (.int .i64 a0_22) := (blk_cell BK279.out 22).trans rfl; have hfz9_0 := blk_frozen BK279.out 0; have hfz9_1 := blk_frozen BK279.out 1; have hfz9_2 := blk_frozen BK279.out 2; have hfz9_3 := blk_frozen BK279.out 3; have hfz9_4 := blk_frozen BK279.out 4; have hfz9_5 := blk_frozen BK279.out 5; have hfz9_6 := blk_frozen BK279.out 6; have hfz9_7 := blk_frozen BK279.out 7; have hfz9_8 := blk_frozen BK279.out 8; have hfz9_9 := blk_frozen BK279.out 9; have hfz9_10 := blk_frozen BK279.out 10; have hfz9_11 := blk_frozen BK279.out 11; have hfz9_12 := blk_frozen BK279.out 12; have hfz9_13 := blk_frozen BK279.out 13; have hfz9_14 := blk_frozen BK279.out 14; have hfz9_15 := blk_frozen BK279.out 15; have hfz9_16 := blk_frozen BK279.out 16; have hfz9_17 := blk_frozen BK279.out 17; have hfz9_18 := blk_frozen BK279.out 18; have hfz9_19 := blk_frozen BK279.out 19; have hfz9_20 := blk_frozen BK279.out 20; have hfz9_21 := blk_frozen BK279.out 21; have hfz9_22 := blk_frozen BK279.out 22) | ((with_reducible refine gate_callee (f := 10) rfl ?_); refine goesL_ (some 12) rfl rfl Try.func10 (by kernel_rfl) rfl #[.agg #[.int .i64 a0_0, .int .i64 a0_1, .int .i64 a0_2, .int .i64 a0_3, .int .u64 a0_4, .int .i64 a0_5, .int .i64 a0_6, .int .i64 a0_7, .int .i64 a0_8, .int .u64 a0_9, .int .i64 a0_10, .int .i64 a0_11, .int .i64 a0_12, .int .i64 a0_13, .int .i64 a0_14, .int .i64 a0_15, .int .i64 a0_16, .int .u64 a0_17, .int .i64 a0_18, .int .i64 a0_19, .int .i64 a0_20, .int .i64 a0_21, .int .i64 a0_22], .int .i64 60] rfl (by (try simp only [List.map_toArray, List.map_cons, List.map_nil]); first | done | rfl | (simp only [List.length_drop, List.length_take]; rfl)) ?_; (with_reducible refine (header_Put.calls k a0_0 a0_1 a0_2 a0_3 a0_4 a0_5 a0_6 a0_7 a0_8 a0_9 a0_10 a0_11 a0_12 a0_13 a0_14 a0_15 a0_16 a0_17 a0_18 a0_19 a0_20 a0_21 a0_22 60 t281 t284 _ A3.out).mono ?_); rintro e w10 ⟨v282, rfl, ho0, hb⟩; refine ⟨_, rfl, ?_⟩; have n0_ := Aside0.mk (Kd.R_lower ho0 (below_size (by repeat (first | (with_reducible first | exact HB.out | apply below_alloc | apply pw_below_drewN | apply below_drew1 | refine below_set ?_ GE279.out | refine below_set ?_ GE280.out) | exact HB.out)))); have n1_ := Aside0.mk (blk_below (g := gb279) (o := .cells #[.int .i64 a0_0, .int .i64 a0_1, .int .i64 a0_2, .int .i64 a0_3, .int .u64 a0_4, .int .i64 a0_5, .int .i64 a0_6, .int .i64 a0_7, .int .i64 a0_8, .int .u64 a0_9, .int .i64 a0_10, .int .i64 a0_11, .int .i64 a0_12, .int .i64 a0_13, .int .i64 a0_14, .int .i64 a0_15, .int .i64 a0_16, .int .u64 a0_17, .int .i64 a0_18, .int .i64 a0_19, .int .i64 a0_20, .int .i64 a0_21, .int .i64 a0_22] 28 (0, 0)) (by (with_reducible repeat (first | refine blk_drewN ?_ _ | refine blk_drew ?_ | refine blk_alloc ?_ _)); exact BK279.out) hb); have n2_ := Aside0.mk (blk_below (g := gb280) (o := .cells #[.int .i64 a1_0, .int .i64 a1_1, .int .i64 a1_2, .int .i64 a1_3, .int .u64 a1_4, .int .i64 a1_5, .int .i64 a1_6, .int .i64 a1_7, .int .i64 a1_8, .int .u64 a1_9, .int .i64 a1_10, .int .i64 a1_11, .int .i64 a1_12, .int .i64 a1_13, .int .i64 a1_14, .int .i64 a1_15, .int .i64 a1_16, .int .u64 a1_17, .int .i64 a1_18, .int .i64 a1_19, .int .i64 a1_20, .int .i64 a1_21, .int .i64 a1_22] 28 (0, 0)) (by (with_reducible repeat (first | refine blk_drewN ?_ _ | refine blk_drew ?_ | refine blk_alloc ?_ _)); exact BK280.out) hb); have n3_ := Aside0.mk (below_step (by repeat (first | (with_reducible first | exact HB.out | apply below_alloc | apply pw_below_drewN | apply below_drew1 | refine below_set ?_ GE279.out | refine below_set ?_ GE280.out) | exact HB.out)) hb); clear BK279; clear BK280; clear HB; have HO283 := n0_; have BK279 := n1_; have BK280 := n2_; have HB := n3_; clear n0_ n1_ n2_ n3_; (try clear hb); (try clear hb2); (try clear hk); (try clear hi); (try clear ho0); have hcz11_0 : w10.cell? ⟨gb280, 0, none⟩ = some (.int .i64 a1_0) := (blk_cell BK280.out 0).trans rfl; have hcz11_1 : w10.cell? ⟨gb280, 1, none⟩ = some (.int .i64 a1_1) := (blk_cell BK280.out 1).trans rfl; have hcz11_2 : w10.cell? ⟨gb280, 2, none⟩ = some (.int .i64 a1_2) := (blk_cell BK280.out 2).trans rfl; have hcz11_3 : w10.cell? ⟨gb280, 3, none⟩ = some (.int .i64 a1_3) := (blk_cell BK280.out 3).trans rfl; have hcz11_4 : w10.cell? ⟨gb280, 4, none⟩ = some (.int .u64 a1_4) := (blk_cell BK280.out 4).trans rfl; have hcz11_5 : w10.cell? ⟨gb280, 5, none⟩ = some (.int .i64 a1_5) := (blk_cell BK280.out 5).trans rfl; have hcz11_6 : w10.cell? ⟨gb280, 6, none⟩ = some (.int .i64 a1_6) := (blk_cell BK280.out 6).trans rfl; have hcz11_7 : w10.cell? ⟨gb280, 7, none⟩ = some (.int .i64 a1_7) := (blk_cell BK280.out 7).trans rfl; have hcz11_8 : w10.cell? ⟨gb280, 8, none⟩ = some (.int .i64 a1_8) := (blk_cell BK280.out 8).trans rfl; have hcz11_9 : w10.cell? ⟨gb280, 9, none⟩ = some (.int .u64 a1_9) := (blk_cell BK280.out 9).trans rfl; have hcz11_10 : w10.cell? ⟨gb280, 10, none⟩ = some (.int .i64 a1_10) := (blk_cell BK280.out 10).trans rfl; have hcz11_11 : w10.cell? ⟨gb280, 11, none⟩ = some (.int .i64 a1_11) := (blk_cell BK280.out 11).trans rfl; have hcz11_12 : w10.cell? ⟨gb280, 12, none⟩ = some (.int .i64 a1_12) := (blk_cell BK280.out 12).trans rfl; have hcz11_13 : w10.cell? ⟨gb280, 13, none⟩ = some (.int .i64 a1_13) := (blk_cell BK280.out 13).trans rfl; have hcz11_14 : w10.cell? ⟨gb280, 14, none⟩ = some (.int .i64 a1_14) := (blk_cell BK280.out 14).trans rfl; have hcz11_15 : w10.cell? ⟨gb280, 15, none⟩ = some (.int .i64 a1_15) := (blk_cell BK280.out 15).trans rfl; have hcz11_16 : w10.cell? ⟨gb280, 16, none⟩ = some (.int .i64 a1_16) := (blk_cell BK280.out 16).trans rfl; have hcz11_17 : w10.cell? ⟨gb280, 17, none⟩ = some (.int .u64 a1_17) := (blk_cell BK280.out 17).trans rfl; have hcz11_18 : w10.cell? ⟨gb280, 18, none⟩ = some (.int .i64 a1_18) := (blk_cell BK280.out 18).trans rfl; have hcz11_19 : w10.cell? ⟨gb280, 19, none⟩ = some (.int .i64 a1_19) := (blk_cell BK280.out 19).trans rfl; have hcz11_20 : w10.cell? ⟨gb280, 20, none⟩ = some (.int .i64 a1_20) := (blk_cell BK280.out 20).trans rfl; have hcz11_21 : w10.cell? ⟨gb280, 21, none⟩ = some (.int .i64 a1_21) := (blk_cell BK280.out 21).trans rfl; have hcz11_22 : w10.cell? ⟨gb280, 22, none⟩ = some (.int .i64 a1_22) := (blk_cell BK280.out 22).trans rfl; have hfz11_0 := blk_frozen BK280.out 0; have hfz11_1 := blk_frozen BK280.out 1; have hfz11_2 := blk_frozen BK280.out 2; have hfz11_3 := blk_frozen BK280.out 3; have hfz11_4 := blk_frozen BK280.out 4; have hfz11_5 := blk_frozen BK280.out 5; have hfz11_6 := blk_frozen BK280.out 6; have hfz11_7 := blk_frozen BK280.out 7; have hfz11_8 := blk_frozen BK280.out 8; have hfz11_9 := blk_frozen BK280.out 9; have hfz11_10 := blk_frozen BK280.out 10; have hfz11_11 := blk_frozen BK280.out 11; have hfz11_12 := blk_frozen BK280.out 12; have hfz11_13 := blk_frozen BK280.out 13; have hfz11_14 := blk_frozen BK280.out 14; have hfz11_15 := blk_frozen BK280.out 15; have hfz11_16 := blk_frozen BK280.out 16; have hfz11_17 := blk_frozen BK280.out 17; have hfz11_18 := blk_frozen BK280.out 18; have hfz11_19 := blk_frozen BK280.out 19; have hfz11_20 := blk_frozen BK280.out 20; have hfz11_21 := blk_frozen BK280.out 21; have hfz11_22 := blk_frozen BK280.out 22) | ((with_reducible refine gate_callee (f := 10) rfl ?_); refine goesL_ (some 17) rfl rfl Try.func10 (by kernel_rfl) rfl #[.agg #[.int .i64 a1_0, .int .i64 a1_1, .int .i64 a1_2, .int .i64 a1_3, .int .u64 a1_4, .int .i64 a1_5, .int .i64 a1_6, .int .i64 a1_7, .int .i64 a1_8, .int .u64 a1_9, .int .i64 a1_10, .int .i64 a1_11, .int .i64 a1_12, .int .i64 a1_13, .int .i64 a1_14, .int .i64 a1_15, .int .i64 a1_16, .int .u64 a1_17, .int .i64 a1_18, .int .i64 a1_19, .int .i64 a1_20, .int .i64 a1_21, .int .i64 a1_22], .int .i64 60] rfl (by (try simp only [List.map_toArray, List.map_cons, List.map_nil]); first | done | rfl | (simp only [List.length_drop, List.length_take]; rfl)) ?_; (with_reducible refine (header_Put.calls k a1_0 a1_1 a1_2 a1_3 a1_4 a1_5 a1_6 a1_7 a1_8 a1_9 a1_10 a1_11 a1_12 a1_13 a1_14 a1_15 a1_16 a1_17 a1_18 a1_19 a1_20 a1_21 a1_22 60 t285 t288 _ A4.out).mono ?_); rintro e w12 ⟨v286, rfl, ho0, hb⟩; refine ⟨_, rfl, ?_⟩; have n0_ := Aside0.mk (Kd.R_elder' (by (with_reducible repeat (first | apply Kd.R_alloc | apply Kd.R_drewN | apply Kd.R_drew)); exact HO283.out) (Kd.R_base ho0) hb); have n1_ := Aside0.mk (Kd.R_lower (Kd.R_new' ho0 (Kd.R_lt (by (with_reducible repeat (first | apply Kd.R_alloc | apply Kd.R_drewN | apply Kd.R_drew)); exact HO283.out))) (below_size (by repeat (first | (with_reducible first | exact HB.out | apply below_alloc | apply pw_below_drewN | apply below_drew1 | refine below_set ?_ GE279.out | refine below_set ?_ GE280.out) | exact HB.out)))); have n2_ := Aside0.mk (blk_below (g := gb279) (o := .cells #[.int .i64 a0_0, .int .i64 a0_1, .int .i64 a0_2, .int .i64 a0_3, .int .u64 a0_4, .int .i64 a0_5, .int .i64 a0_6, .int .i64 a0_7, .int .i64 a0_8, .int .u64 a0_9, .int .i64 a0_10, .int .i64 a0_11, .int .i64 a0_12, .int .i64 a0_13, .int .i64 a0_14, .int .i64 a0_15, .int .i64 a0_16, .int .u64 a0_17, .int .i64 a0_18, .int .i64 a0_19, .int .i64 a0_20, .int .i64 a0_21, .int .i64 a0_22] 28 (0, 0)) (by (with_reducible repeat (first | refine blk_drewN ?_ _ | refine blk_drew ?_ | refine blk_alloc ?_ _)); exact BK279.out) hb); have n3_ := Aside0.mk (blk_below (g := gb280) (o := .cells #[.int .i64 a1_0, .int .i64 a1_1, .int .i64 a1_2, .int .i64 a1_3, .int .u64 a1_4, .int .i64 a1_5, .int .i64 a1_6, .int .i64 a1_7, .int .i64 a1_8, .int .u64 a1_9, .int .i64 a1_10, .int .i64 a1_11, .int .i64 a1_12, .int .i64 a1_13, .int .i64 a1_14, .int .i64 a1_15, .int .i64 a1_16, .int .u64 a1_17, .int .i64 a1_18, .int .i64 a1_19, .int .i64 a1_20, .int .i64 a1_21, .int .i64 a1_22] 28 (0, 0)) (by (with_reducible repeat (first | refine blk_drewN ?_ _ | refine blk_drew ?_ | refine blk_alloc ?_ _)); exact BK280.out) hb); have n4_ := Aside0.mk (below_step (by repeat (first | (with_reducible first | exact HB.out | apply below_alloc | apply pw_below_drewN | apply below_drew1 | refine below_set ?_ GE279.out | refine below_set ?_ GE280.out) | exact HB.out)) hb); clear HO283; clear BK279; clear BK280; clear HB; have HO283 := n0_; have HO287 := n1_; have BK279 := n2_; have BK280 := n3_; have HB := n4_; clear n0_ n1_ n2_ n3_ n4_; (try clear hb); (try clear hb2); (try clear hk); (try clear hi); (try clear ho0)))
  (try simp only [Act.put, List.setIfInBounds_toArray, List.set_cons_zero, List.set_cons_succ])
  go_cut [25] (fun v25 wc => ∃ (kq : Nat) (x25_4 : Bool), v25 = .bool x25_4 ∧ Aside0 (carillonlaw06_HeaderApart.j0 kq t281 t285 x25_4 a0_0 a0_1 a0_2 a0_3 a0_4 a0_5 a0_6 a0_7 a0_8 a0_9 a0_10 a0_11 a0_12 a0_13 a0_14 a0_15 a0_16 a0_17 a0_18 a0_19 a0_20 a0_21 a0_22 a1_0 a1_1 a1_2 a1_3 a1_4 a1_5 a1_6 a1_7 a1_8 a1_9 a1_10 a1_11 a1_12 a1_13 a1_14 a1_15 a1_16 a1_17 a1_18 a1_19 a1_20 a1_21 a1_22 = some true) ∧ Aside0 (kq ≤ k) ∧ Aside0 (Kd.R (Kd.int .u8) 5 wc w.heap.size (fun k_ => some k_ ≠ (v286 : Value).ownBlock) v282 t281) ∧ Aside0 (Kd.R (Kd.int .u8) 5 wc w.heap.size (fun k_ => some k_ ≠ (v282 : Value).ownBlock) v286 t285) ∧ Aside0 (wc.heap[gb279]? = some (.cells #[.int .i64 a0_0, .int .i64 a0_1, .int .i64 a0_2, .int .i64 a0_3, .int .u64 a0_4, .int .i64 a0_5, .int .i64 a0_6, .int .i64 a0_7, .int .i64 a0_8, .int .u64 a0_9, .int .i64 a0_10, .int .i64 a0_11, .int .i64 a0_12, .int .i64 a0_13, .int .i64 a0_14, .int .i64 a0_15, .int .i64 a0_16, .int .u64 a0_17, .int .i64 a0_18, .int .i64 a0_19, .int .i64 a0_20, .int .i64 a0_21, .int .i64 a0_22] 28 (0, 0))) ∧ Aside0 (wc.heap[gb280]? = some (.cells #[.int .i64 a1_0, .int .i64 a1_1, .int .i64 a1_2, .int .i64 a1_3, .int .u64 a1_4, .int .i64 a1_5, .int .i64 a1_6, .int .i64 a1_7, .int .i64 a1_8, .int .u64 a1_9, .int .i64 a1_10, .int .i64 a1_11, .int .i64 a1_12, .int .i64 a1_13, .int .i64 a1_14, .int .i64 a1_15, .int .i64 a1_16, .int .u64 a1_17, .int .i64 a1_18, .int .i64 a1_19, .int .i64 a1_20, .int .i64 a1_21, .int .i64 a1_22] 28 (0, 0))) ∧ Aside0 (Below w.heap.size w wc))
  case first =>
    have H := HC5.out
    clear HC5
    by_cases c13 : t284 = true
    · subst c13
      have H1 : (carillonlaw06_HeaderApart.j0 k t281 t285 (!t288) a0_0 a0_1 a0_2 a0_3 a0_4 a0_5 a0_6 a0_7 a0_8 a0_9 a0_10 a0_11 a0_12 a0_13 a0_14 a0_15 a0_16 a0_17 a0_18 a0_19 a0_20 a0_21 a0_22 a1_0 a1_1 a1_2 a1_3 a1_4 a1_5 a1_6 a1_7 a1_8 a1_9 a1_10 a1_11 a1_12 a1_13 a1_14 a1_15 a1_16 a1_17 a1_18 a1_19 a1_20 a1_21 a1_22) = some true := by rw [if_pos rfl] at H; exact H
      clear H
      have H := H1
      clear H1
      have H' := Aside0.mk H
      clear H
      go_wp2_with (first | (refine big_load (g := gb279) (t := 28) (fr := (0, 0)) (n := 23) (cs := ?_) rfl rfl Try.underlying28 (by kernel_rfl) rfl ?lg ?ln ?_; (case lg => (with_reducible repeat (first | refine blk_drewN ?_ _ | refine blk_drew ?_ | refine blk_alloc ?_ _)); exact BK279.out); (case ln => rfl)) | (refine big_load (g := gb280) (t := 28) (fr := (0, 0)) (n := 23) (cs := ?_) rfl rfl Try.underlying28 (by kernel_rfl) rfl ?lg ?ln ?_; (case lg => (with_reducible repeat (first | refine blk_drewN ?_ _ | refine blk_drew ?_ | refine blk_alloc ?_ _)); exact BK280.out); (case ln => rfl)))
      go_meet
      case rel => exact ⟨_, (!t288), (by first | rfl | (simp; done) | (simp [*]; done)), H', ⟨by first | omega | exact Nat.le_refl _⟩, ⟨by (with_reducible repeat (first | apply Kd.R_alloc | apply Kd.R_drewN | apply Kd.R_drew)); exact Kd.R_mono HO283.out (fun _ hk => hk.2)⟩, ⟨by (with_reducible repeat (first | apply Kd.R_alloc | apply Kd.R_drewN | apply Kd.R_drew)); exact Kd.R_mono HO287.out (fun _ hk => hk.2)⟩, ⟨by (with_reducible repeat (first | refine blk_drewN ?_ _ | refine blk_drew ?_ | refine blk_alloc ?_ _)); exact BK279.out⟩, ⟨by (with_reducible repeat (first | refine blk_drewN ?_ _ | refine blk_drew ?_ | refine blk_alloc ?_ _)); exact BK280.out⟩, ⟨by repeat (first | (with_reducible first | exact HB.out | apply below_alloc | apply pw_below_drewN | apply below_drew1 | refine below_set ?_ GE279.out | refine below_set ?_ GE280.out) | exact HB.out)⟩⟩
    · replace c13 := Bool.eq_false_iff.mpr c13
      subst c13
      have H1 : (carillonlaw06_HeaderApart.j0 k t281 t285 true a0_0 a0_1 a0_2 a0_3 a0_4 a0_5 a0_6 a0_7 a0_8 a0_9 a0_10 a0_11 a0_12 a0_13 a0_14 a0_15 a0_16 a0_17 a0_18 a0_19 a0_20 a0_21 a0_22 a1_0 a1_1 a1_2 a1_3 a1_4 a1_5 a1_6 a1_7 a1_8 a1_9 a1_10 a1_11 a1_12 a1_13 a1_14 a1_15 a1_16 a1_17 a1_18 a1_19 a1_20 a1_21 a1_22) = some true := by rw [if_neg (show ¬ (false = true) by decide)] at H; exact H
      clear H
      have H := H1
      clear H1
      have H' := Aside0.mk H
      clear H
      go_wp2_with (first | (refine big_load (g := gb279) (t := 28) (fr := (0, 0)) (n := 23) (cs := ?_) rfl rfl Try.underlying28 (by kernel_rfl) rfl ?lg ?ln ?_; (case lg => (with_reducible repeat (first | refine blk_drewN ?_ _ | refine blk_drew ?_ | refine blk_alloc ?_ _)); exact BK279.out); (case ln => rfl)) | (refine big_load (g := gb280) (t := 28) (fr := (0, 0)) (n := 23) (cs := ?_) rfl rfl Try.underlying28 (by kernel_rfl) rfl ?lg ?ln ?_; (case lg => (with_reducible repeat (first | refine blk_drewN ?_ _ | refine blk_drew ?_ | refine blk_alloc ?_ _)); exact BK280.out); (case ln => rfl)))
      go_meet
      case rel => exact ⟨_, (true), (by first | rfl | (simp; done) | (simp [*]; done)), H', ⟨by first | omega | exact Nat.le_refl _⟩, ⟨by (with_reducible repeat (first | apply Kd.R_alloc | apply Kd.R_drewN | apply Kd.R_drew)); exact Kd.R_mono HO283.out (fun _ hk => hk.2)⟩, ⟨by (with_reducible repeat (first | apply Kd.R_alloc | apply Kd.R_drewN | apply Kd.R_drew)); exact Kd.R_mono HO287.out (fun _ hk => hk.2)⟩, ⟨by (with_reducible repeat (first | refine blk_drewN ?_ _ | refine blk_drew ?_ | refine blk_alloc ?_ _)); exact BK279.out⟩, ⟨by (with_reducible repeat (first | refine blk_drewN ?_ _ | refine blk_drew ?_ | refine blk_alloc ?_ _)); exact BK280.out⟩, ⟨by repeat (first | (with_reducible first | exact HB.out | apply below_alloc | apply pw_below_drewN | apply below_drew1 | refine below_set ?_ GE279.out | refine below_set ?_ GE280.out) | exact HB.out)⟩⟩
  case rest =>
    clear HC5
    try clear c1
    try clear p2
    try clear c4
    try clear c8
    try clear c10
    try clear c13
    try clear hcz11_0
    try clear hcz11_1
    try clear hcz11_10
    try clear hcz11_11
    try clear hcz11_12
    try clear hcz11_13
    try clear hcz11_14
    try clear hcz11_15
    try clear hcz11_16
    try clear hcz11_17
    try clear hcz11_18
    try clear hcz11_19
    try clear hcz11_2
    try clear hcz11_20
    try clear hcz11_21
    try clear hcz11_22
    try clear hcz11_3
    try clear hcz11_4
    try clear hcz11_5
    try clear hcz11_6
    try clear hcz11_7
    try clear hcz11_8
    try clear hcz11_9
    try clear hcz9_0
    try clear hcz9_1
    try clear hcz9_10
    try clear hcz9_11
    try clear hcz9_12
    try clear hcz9_13
    try clear hcz9_14
    try clear hcz9_15
    try clear hcz9_16
    try clear hcz9_17
    try clear hcz9_18
    try clear hcz9_19
    try clear hcz9_2
    try clear hcz9_20
    try clear hcz9_21
    try clear hcz9_22
    try clear hcz9_3
    try clear hcz9_4
    try clear hcz9_5
    try clear hcz9_6
    try clear hcz9_7
    try clear hcz9_8
    try clear hcz9_9
    try clear hfz11_0
    try clear hfz11_1
    try clear hfz11_10
    try clear hfz11_11
    try clear hfz11_12
    try clear hfz11_13
    try clear hfz11_14
    try clear hfz11_15
    try clear hfz11_16
    try clear hfz11_17
    try clear hfz11_18
    try clear hfz11_19
    try clear hfz11_2
    try clear hfz11_20
    try clear hfz11_21
    try clear hfz11_22
    try clear hfz11_3
    try clear hfz11_4
    try clear hfz11_5
    try clear hfz11_6
    try clear hfz11_7
    try clear hfz11_8
    try clear hfz11_9
    try clear hfz9_0
    try clear hfz9_1
    try clear hfz9_10
    try clear hfz9_11
    try clear hfz9_12
    try clear hfz9_13
    try clear hfz9_14
    try clear hfz9_15
    try clear hfz9_16
    try clear hfz9_17
    try clear hfz9_18
    try clear hfz9_19
    try clear hfz9_2
    try clear hfz9_20
    try clear hfz9_21
    try clear hfz9_22
    try clear hfz9_3
    try clear hfz9_4
    try clear hfz9_5
    try clear hfz9_6
    try clear hfz9_7
    try clear hfz9_8
    try clear hfz9_9
    obtain ⟨kq, x25_4, rfl, HA, HJ4, HO_5, HO_7, BK279, BK280, HB⟩ := hcut
    cases kq with
    | zero => exact absurd HA.out (by simp [carillonlaw06_HeaderApart.j0])
    | succ kj4 =>
      have H := HA.out
      clear HA
      simp only [carillonlaw06_HeaderApart.j0] at H
      by_cases c14 : x25_4 = true
      · subst c14
        have H1 : ((carillonlaw06_awake.f kj4).bind fun t289 => (some t289)) = some true := by rw [if_pos rfl] at H; exact H
        clear H
        have H := H1
        clear H1
        replace H := Option.bind_eq_some_iff.mp H
        obtain ⟨t289, A150, H⟩ := H
        replace H : (some t289) = some true := H
        have A15 := Aside0.mk A150
        clear A150
        have hret_ := Aside0.mk (Option.some.inj H)
        clear H
        go_wp2_with (first | (refine big_load (g := gb279) (t := 28) (fr := (0, 0)) (n := 23) (cs := ?_) rfl rfl Try.underlying28 (by kernel_rfl) rfl ?lg ?ln ?_; (case lg => (with_reducible repeat (first | refine blk_drewN ?_ _ | refine blk_drew ?_ | refine blk_alloc ?_ _)); exact BK279.out); (case ln => rfl)) | (refine big_load (g := gb280) (t := 28) (fr := (0, 0)) (n := 23) (cs := ?_) rfl rfl Try.underlying28 (by kernel_rfl) rfl ?lg ?ln ?_; (case lg => (with_reducible repeat (first | refine blk_drewN ?_ _ | refine blk_drew ?_ | refine blk_alloc ?_ _)); exact BK280.out); (case ln => rfl)) | ((with_reducible refine gate_callee (f := 16) rfl ?_); refine goesL_ (some 26) rfl rfl Try.func16 (by kernel_rfl) rfl #[] rfl (by (try simp only [List.map_toArray, List.map_cons, List.map_nil]); first | done | rfl | (simp only [List.length_drop, List.length_take]; rfl)) ?_; (with_reducible refine (carillonlaw06_awake.calls kj4  t289 _ A15.out).mono ?_); rintro e w16 ⟨rfl, hb⟩; refine ⟨_, rfl, ?_⟩; have n0_ := Aside0.mk (Kd.R_below (by (with_reducible repeat (first | apply Kd.R_alloc | apply Kd.R_drewN | apply Kd.R_drew)); exact HO_5.out) hb); have n1_ := Aside0.mk (Kd.R_below (by (with_reducible repeat (first | apply Kd.R_alloc | apply Kd.R_drewN | apply Kd.R_drew)); exact HO_7.out) hb); have n2_ := Aside0.mk (blk_below (g := gb279) (o := .cells #[.int .i64 a0_0, .int .i64 a0_1, .int .i64 a0_2, .int .i64 a0_3, .int .u64 a0_4, .int .i64 a0_5, .int .i64 a0_6, .int .i64 a0_7, .int .i64 a0_8, .int .u64 a0_9, .int .i64 a0_10, .int .i64 a0_11, .int .i64 a0_12, .int .i64 a0_13, .int .i64 a0_14, .int .i64 a0_15, .int .i64 a0_16, .int .u64 a0_17, .int .i64 a0_18, .int .i64 a0_19, .int .i64 a0_20, .int .i64 a0_21, .int .i64 a0_22] 28 (0, 0)) (by (with_reducible repeat (first | refine blk_drewN ?_ _ | refine blk_drew ?_ | refine blk_alloc ?_ _)); exact BK279.out) hb); have n3_ := Aside0.mk (blk_below (g := gb280) (o := .cells #[.int .i64 a1_0, .int .i64 a1_1, .int .i64 a1_2, .int .i64 a1_3, .int .u64 a1_4, .int .i64 a1_5, .int .i64 a1_6, .int .i64 a1_7, .int .i64 a1_8, .int .u64 a1_9, .int .i64 a1_10, .int .i64 a1_11, .int .i64 a1_12, .int .i64 a1_13, .int .i64 a1_14, .int .i64 a1_15, .int .i64 a1_16, .int .u64 a1_17, .int .i64 a1_18, .int .i64 a1_19, .int .i64 a1_20, .int .i64 a1_21, .int .i64 a1_22] 28 (0, 0)) (by (with_reducible repeat (first | refine blk_drewN ?_ _ | refine blk_drew ?_ | refine blk_alloc ?_ _)); exact BK280.out) hb); have n4_ := Aside0.mk (below_step (by repeat (first | (with_reducible first | exact HB.out | apply below_alloc | apply pw_below_drewN | apply below_drew1 | refine below_set ?_ GE279.out | refine below_set ?_ GE280.out) | exact HB.out)) hb); clear HO_5; clear HO_7; clear BK279; clear BK280; clear HB; have HO_5 := n0_; have HO_7 := n1_; have BK279 := n2_; have BK280 := n3_; have HB := n4_; clear n0_ n1_ n2_ n3_ n4_; (try clear hb); (try clear hb2); (try clear hk); (try clear hi)))
        all_goals
          go_ret
          exact ⟨by first | exact congrArg (fun b_ => Ending.returned (.bool b_)) hret_.out | rfl | (simp [errW_none, errW_some] <;> rfl) | (simp [*, errW_none, errW_some] <;> rfl), by repeat (first | (with_reducible first | exact HB.out | apply below_alloc | apply pw_below_drewN | apply below_drew1 | refine below_set ?_ GE279.out | refine below_set ?_ GE280.out) | exact HB.out)⟩
      · replace c14 := Bool.eq_false_iff.mpr c14
        subst c14
        have H1 : (if a0_0 = a1_0 then (if a0_1 = a1_1 then (if a0_2 = a1_2 then (if a0_3 = a1_3 then (if (a0_4 == a1_4 && (a0_5 == a1_5)) = true then (if a0_6 = a1_6 then (if (((strOfNums t281).toList == (strOfNums t285).toList) == (a0_7 == a1_7)) = true then ((carillonlaw06_awake.f kj4).bind fun t290 => (some t290)) else (some false)) else (if (((strOfNums t281).toList == (strOfNums t285).toList) == false) = true then ((carillonlaw06_awake.f kj4).bind fun t291 => (some t291)) else (some false))) else (if (((strOfNums t281).toList == (strOfNums t285).toList) == false) = true then ((carillonlaw06_awake.f kj4).bind fun t292 => (some t292)) else (some false))) else (if (((strOfNums t281).toList == (strOfNums t285).toList) == false) = true then ((carillonlaw06_awake.f kj4).bind fun t293 => (some t293)) else (some false))) else (if (((strOfNums t281).toList == (strOfNums t285).toList) == false) = true then ((carillonlaw06_awake.f kj4).bind fun t294 => (some t294)) else (some false))) else (if (((strOfNums t281).toList == (strOfNums t285).toList) == false) = true then ((carillonlaw06_awake.f kj4).bind fun t295 => (some t295)) else (some false))) else (if (((strOfNums t281).toList == (strOfNums t285).toList) == false) = true then ((carillonlaw06_awake.f kj4).bind fun t296 => (some t296)) else (some false))) = some true := by rw [if_neg (show ¬ (false = true) by decide)] at H; exact H
        clear H
        have H := H1
        clear H1
        by_cases c17 : a0_0 = a1_0
        · rw [if_pos c17] at H
          have c17b0 : (a0_0 == a1_0) = true := beq_iff_eq.mpr c17
          have c17b1 : (a0_0 != a1_0) = false := bne_eq_false_iff_eq.mpr c17
          clear c17
          by_cases c18 : a0_1 = a1_1
          · rw [if_pos c18] at H
            have c18b0 : (a0_1 == a1_1) = true := beq_iff_eq.mpr c18
            have c18b1 : (a0_1 != a1_1) = false := bne_eq_false_iff_eq.mpr c18
            clear c18
            by_cases c19 : a0_2 = a1_2
            · rw [if_pos c19] at H
              have c19b0 : (a0_2 == a1_2) = true := beq_iff_eq.mpr c19
              have c19b1 : (a0_2 != a1_2) = false := bne_eq_false_iff_eq.mpr c19
              clear c19
              by_cases c20 : a0_3 = a1_3
              · rw [if_pos c20] at H
                have c20b0 : (a0_3 == a1_3) = true := beq_iff_eq.mpr c20
                have c20b1 : (a0_3 != a1_3) = false := bne_eq_false_iff_eq.mpr c20
                clear c20
                by_cases c21 : (a0_4 == a1_4 && (a0_5 == a1_5)) = true
                · rw [if_pos c21] at H
                  have c21b0 : (a0_4 == a1_4 && (a0_5 == a1_5)) = true := c21
                  (try (have c21b1 : decide (a0_4 = a1_4 && (a0_5 == a1_5)) = true := by simpa using c21))
                  (try (have c21b2 : (a0_4 == a1_4 && (a0_5 == a1_5)) = true := by simpa using c21))
                  clear c21
                  by_cases c22 : a0_6 = a1_6
                  · rw [if_pos c22] at H
                    have c22b0 : (a0_6 == a1_6) = true := beq_iff_eq.mpr c22
                    have c22b1 : (a0_6 != a1_6) = false := bne_eq_false_iff_eq.mpr c22
                    clear c22
                    by_cases c23 : (((strOfNums t281).toList == (strOfNums t285).toList) == (a0_7 == a1_7)) = true
                    · rw [if_pos c23] at H
                      have c23b0 : (((strOfNums t281).toList == (strOfNums t285).toList) == (a0_7 == a1_7)) = true := c23
                      (try (have c23b1 : decide (((strOfNums t281).toList == (strOfNums t285).toList) = (a0_7 == a1_7)) = true := by simpa using c23))
                      (try (have c23b2 : (((strOfNums t281).toList == (strOfNums t285).toList) == (a0_7 == a1_7)) = true := by simpa using c23))
                      clear c23
                      replace H := Option.bind_eq_some_iff.mp H
                      obtain ⟨t290, A240, H⟩ := H
                      replace H : (some t290) = some true := H
                      have A24 := Aside0.mk A240
                      clear A240
                      have hret_ := Aside0.mk (Option.some.inj H)
                      clear H
                      have hnb25 := NB279_280.out
                      have hnc25 := NB280_279.out
                      have hcz26_0 : wc.cell? ⟨gb279, 0, none⟩ = some (.int .i64 a0_0) := (blk_cell BK279.out 0).trans rfl
                      have hcz26_1 : wc.cell? ⟨gb279, 1, none⟩ = some (.int .i64 a0_1) := (blk_cell BK279.out 1).trans rfl
                      have hcz26_2 : wc.cell? ⟨gb279, 2, none⟩ = some (.int .i64 a0_2) := (blk_cell BK279.out 2).trans rfl
                      have hcz26_3 : wc.cell? ⟨gb279, 3, none⟩ = some (.int .i64 a0_3) := (blk_cell BK279.out 3).trans rfl
                      have hcz26_4 : wc.cell? ⟨gb279, 4, none⟩ = some (.int .u64 a0_4) := (blk_cell BK279.out 4).trans rfl
                      have hcz26_5 : wc.cell? ⟨gb279, 5, none⟩ = some (.int .i64 a0_5) := (blk_cell BK279.out 5).trans rfl
                      have hcz26_6 : wc.cell? ⟨gb279, 6, none⟩ = some (.int .i64 a0_6) := (blk_cell BK279.out 6).trans rfl
                      have hcz26_7 : wc.cell? ⟨gb279, 7, none⟩ = some (.int .i64 a0_7) := (blk_cell BK279.out 7).trans rfl
                      have hcz26_8 : wc.cell? ⟨gb279, 8, none⟩ = some (.int .i64 a0_8) := (blk_cell BK279.out 8).trans rfl
                      have hcz26_9 : wc.cell? ⟨gb279, 9, none⟩ = some (.int .u64 a0_9) := (blk_cell BK279.out 9).trans rfl
                      have hcz26_10 : wc.cell? ⟨gb279, 10, none⟩ = some (.int .i64 a0_10) := (blk_cell BK279.out 10).trans rfl
                      have hcz26_11 : wc.cell? ⟨gb279, 11, none⟩ = some (.int .i64 a0_11) := (blk_cell BK279.out 11).trans rfl
                      have hcz26_12 : wc.cell? ⟨gb279, 12, none⟩ = some (.int .i64 a0_12) := (blk_cell BK279.out 12).trans rfl
                      have hcz26_13 : wc.cell? ⟨gb279, 13, none⟩ = some (.int .i64 a0_13) := (blk_cell BK279.out 13).trans rfl
                      have hcz26_14 : wc.cell? ⟨gb279, 14, none⟩ = some (.int .i64 a0_14) := (blk_cell BK279.out 14).trans rfl
                      have hcz26_15 : wc.cell? ⟨gb279, 15, none⟩ = some (.int .i64 a0_15) := (blk_cell BK279.out 15).trans rfl
                      have hcz26_16 : wc.cell? ⟨gb279, 16, none⟩ = some (.int .i64 a0_16) := (blk_cell BK279.out 16).trans rfl
                      have hcz26_17 : wc.cell? ⟨gb279, 17, none⟩ = some (.int .u64 a0_17) := (blk_cell BK279.out 17).trans rfl
                      have hcz26_18 : wc.cell? ⟨gb279, 18, none⟩ = some (.int .i64 a0_18) := (blk_cell BK279.out 18).trans rfl
                      have hcz26_19 : wc.cell? ⟨gb279, 19, none⟩ = some (.int .i64 a0_19) := (blk_cell BK279.out 19).trans rfl
                      have hcz26_20 : wc.cell? ⟨gb279, 20, none⟩ = some (.int .i64 a0_20) := (blk_cell BK279.out 20).trans rfl
                      have hcz26_21 : wc.cell? ⟨gb279, 21, none⟩ = some (.int .i64 a0_21) := (blk_cell BK279.out 21).trans rfl
                      have hcz26_22 : wc.cell? ⟨gb279, 22, none⟩ = some (.int .i64 a0_22) := (blk_cell BK279.out 22).trans rfl
                      have hfz26_0 := blk_frozen BK279.out 0
                      have hfz26_1 := blk_frozen BK279.out 1
                      have hfz26_2 := blk_frozen BK279.out 2
                      have hfz26_3 := blk_frozen BK279.out 3
                      have hfz26_4 := blk_frozen BK279.out 4
                      have hfz26_5 := blk_frozen BK279.out 5
                      have hfz26_6 := blk_frozen BK279.out 6
                      have hfz26_7 := blk_frozen BK279.out 7
                      have hfz26_8 := blk_frozen BK279.out 8
                      have hfz26_9 := blk_frozen BK279.out 9
                      have hfz26_10 := blk_frozen BK279.out 10
                      have hfz26_11 := blk_frozen BK279.out 11
                      have hfz26_12 := blk_frozen BK279.out 12
                      have hfz26_13 := blk_frozen BK279.out 13
                      have hfz26_14 := blk_frozen BK279.out 14
                      have hfz26_15 := blk_frozen BK279.out 15
                      have hfz26_16 := blk_frozen BK279.out 16
                      have hfz26_17 := blk_frozen BK279.out 17
                      have hfz26_18 := blk_frozen BK279.out 18
                      have hfz26_19 := blk_frozen BK279.out 19
                      have hfz26_20 := blk_frozen BK279.out 20
                      have hfz26_21 := blk_frozen BK279.out 21
                      have hfz26_22 := blk_frozen BK279.out 22
                      have hcz27_0 : wc.cell? ⟨gb280, 0, none⟩ = some (.int .i64 a1_0) := (blk_cell BK280.out 0).trans rfl
                      have hcz27_1 : wc.cell? ⟨gb280, 1, none⟩ = some (.int .i64 a1_1) := (blk_cell BK280.out 1).trans rfl
                      have hcz27_2 : wc.cell? ⟨gb280, 2, none⟩ = some (.int .i64 a1_2) := (blk_cell BK280.out 2).trans rfl
                      have hcz27_3 : wc.cell? ⟨gb280, 3, none⟩ = some (.int .i64 a1_3) := (blk_cell BK280.out 3).trans rfl
                      have hcz27_4 : wc.cell? ⟨gb280, 4, none⟩ = some (.int .u64 a1_4) := (blk_cell BK280.out 4).trans rfl
                      have hcz27_5 : wc.cell? ⟨gb280, 5, none⟩ = some (.int .i64 a1_5) := (blk_cell BK280.out 5).trans rfl
                      have hcz27_6 : wc.cell? ⟨gb280, 6, none⟩ = some (.int .i64 a1_6) := (blk_cell BK280.out 6).trans rfl
                      have hcz27_7 : wc.cell? ⟨gb280, 7, none⟩ = some (.int .i64 a1_7) := (blk_cell BK280.out 7).trans rfl
                      have hcz27_8 : wc.cell? ⟨gb280, 8, none⟩ = some (.int .i64 a1_8) := (blk_cell BK280.out 8).trans rfl
                      have hcz27_9 : wc.cell? ⟨gb280, 9, none⟩ = some (.int .u64 a1_9) := (blk_cell BK280.out 9).trans rfl
                      have hcz27_10 : wc.cell? ⟨gb280, 10, none⟩ = some (.int .i64 a1_10) := (blk_cell BK280.out 10).trans rfl
                      have hcz27_11 : wc.cell? ⟨gb280, 11, none⟩ = some (.int .i64 a1_11) := (blk_cell BK280.out 11).trans rfl
                      have hcz27_12 : wc.cell? ⟨gb280, 12, none⟩ = some (.int .i64 a1_12) := (blk_cell BK280.out 12).trans rfl
                      have hcz27_13 : wc.cell? ⟨gb280, 13, none⟩ = some (.int .i64 a1_13) := (blk_cell BK280.out 13).trans rfl
                      have hcz27_14 : wc.cell? ⟨gb280, 14, none⟩ = some (.int .i64 a1_14) := (blk_cell BK280.out 14).trans rfl
                      have hcz27_15 : wc.cell? ⟨gb280, 15, none⟩ = some (.int .i64 a1_15) := (blk_cell BK280.out 15).trans rfl
                      have hcz27_16 : wc.cell? ⟨gb280, 16, none⟩ = some (.int .i64 a1_16) := (blk_cell BK280.out 16).trans rfl
                      have hcz27_17 : wc.cell? ⟨gb280, 17, none⟩ = some (.int .u64 a1_17) := (blk_cell BK280.out 17).trans rfl
                      have hcz27_18 : wc.cell? ⟨gb280, 18, none⟩ = some (.int .i64 a1_18) := (blk_cell BK280.out 18).trans rfl
                      have hcz27_19 : wc.cell? ⟨gb280, 19, none⟩ = some (.int .i64 a1_19) := (blk_cell BK280.out 19).trans rfl
                      have hcz27_20 : wc.cell? ⟨gb280, 20, none⟩ = some (.int .i64 a1_20) := (blk_cell BK280.out 20).trans rfl
                      have hcz27_21 : wc.cell? ⟨gb280, 21, none⟩ = some (.int .i64 a1_21) := (blk_cell BK280.out 21).trans rfl
                      have hcz27_22 : wc.cell? ⟨gb280, 22, none⟩ = some (.int .i64 a1_22) := (blk_cell BK280.out 22).trans rfl
                      have hfz27_0 := blk_frozen BK280.out 0
                      have hfz27_1 := blk_frozen BK280.out 1
                      have hfz27_2 := blk_frozen BK280.out 2
                      have hfz27_3 := blk_frozen BK280.out 3
                      have hfz27_4 := blk_frozen BK280.out 4
                      have hfz27_5 := blk_frozen BK280.out 5
                      have hfz27_6 := blk_frozen BK280.out 6
                      have hfz27_7 := blk_frozen BK280.out 7
                      have hfz27_8 := blk_frozen BK280.out 8
                      have hfz27_9 := blk_frozen BK280.out 9
                      have hfz27_10 := blk_frozen BK280.out 10
                      have hfz27_11 := blk_frozen BK280.out 11
                      have hfz27_12 := blk_frozen BK280.out 12
                      have hfz27_13 := blk_frozen BK280.out 13
                      have hfz27_14 := blk_frozen BK280.out 14
                      have hfz27_15 := blk_frozen BK280.out 15
                      have hfz27_16 := blk_frozen BK280.out 16
                      have hfz27_17 := blk_frozen BK280.out 17
                      have hfz27_18 := blk_frozen BK280.out 18
                      have hfz27_19 := blk_frozen BK280.out 19
                      have hfz27_20 := blk_frozen BK280.out 20
                      have hfz27_21 := blk_frozen BK280.out 21
                      have hfz27_22 := blk_frozen BK280.out 22
                      have hcv28 := own_string (P := Try.prog) Try.underlying29 Try.underlying5 Try.underlying9 (Kd.own_of_R HO_5.out)
                      have hcv29 := own_string (P := Try.prog) Try.underlying29 Try.underlying5 Try.underlying9 (Kd.own_of_R HO_7.out)
                      go_wp2_with (first | (refine big_load (g := gb279) (t := 28) (fr := (0, 0)) (n := 23) (cs := ?_) rfl rfl Try.underlying28 (by kernel_rfl) rfl ?lg ?ln ?_; (case lg => (with_reducible repeat (first | refine blk_drewN ?_ _ | refine blk_drew ?_ | refine blk_alloc ?_ _)); exact BK279.out); (case ln => rfl)) | (refine big_load (g := gb280) (t := 28) (fr := (0, 0)) (n := 23) (cs := ?_) rfl rfl Try.underlying28 (by kernel_rfl) rfl ?lg ?ln ?_; (case lg => (with_reducible repeat (first | refine blk_drewN ?_ _ | refine blk_drew ?_ | refine blk_alloc ?_ _)); exact BK280.out); (case ln => rfl)) | (go_at_call 16; (with_reducible refine (carillonlaw06_awake.calls kj4  t290 _ A24.out).mono ?_); rintro e w30 ⟨rfl, hb⟩; have n0_ := Aside0.mk (Kd.R_below (by (with_reducible repeat (first | apply Kd.R_alloc | apply Kd.R_drewN | apply Kd.R_drew)); exact HO_5.out) hb); have n1_ := Aside0.mk (Kd.R_below (by (with_reducible repeat (first | apply Kd.R_alloc | apply Kd.R_drewN | apply Kd.R_drew)); exact HO_7.out) hb); have n2_ := Aside0.mk (blk_below (g := gb279) (o := .cells #[.int .i64 a0_0, .int .i64 a0_1, .int .i64 a0_2, .int .i64 a0_3, .int .u64 a0_4, .int .i64 a0_5, .int .i64 a0_6, .int .i64 a0_7, .int .i64 a0_8, .int .u64 a0_9, .int .i64 a0_10, .int .i64 a0_11, .int .i64 a0_12, .int .i64 a0_13, .int .i64 a0_14, .int .i64 a0_15, .int .i64 a0_16, .int .u64 a0_17, .int .i64 a0_18, .int .i64 a0_19, .int .i64 a0_20, .int .i64 a0_21, .int .i64 a0_22] 28 (0, 0)) (by (with_reducible repeat (first | refine blk_drewN ?_ _ | refine blk_drew ?_ | refine blk_alloc ?_ _)); exact BK279.out) hb); have n3_ := Aside0.mk (blk_below (g := gb280) (o := .cells #[.int .i64 a1_0, .int .i64 a1_1, .int .i64 a1_2, .int .i64 a1_3, .int .u64 a1_4, .int .i64 a1_5, .int .i64 a1_6, .int .i64 a1_7, .int .i64 a1_8, .int .u64 a1_9, .int .i64 a1_10, .int .i64 a1_11, .int .i64 a1_12, .int .i64 a1_13, .int .i64 a1_14, .int .i64 a1_15, .int .i64 a1_16, .int .u64 a1_17, .int .i64 a1_18, .int .i64 a1_19, .int .i64 a1_20, .int .i64 a1_21, .int .i64 a1_22] 28 (0, 0)) (by (with_reducible repeat (first | refine blk_drewN ?_ _ | refine blk_drew ?_ | refine blk_alloc ?_ _)); exact BK280.out) hb); have n4_ := Aside0.mk (below_step (by repeat (first | (with_reducible first | exact HB.out | apply below_alloc | apply pw_below_drewN | apply below_drew1 | refine below_set ?_ GE279.out | refine below_set ?_ GE280.out) | exact HB.out)) hb); clear HO_5; clear HO_7; clear BK279; clear BK280; clear HB; have HO_5 := n0_; have HO_7 := n1_; have BK279 := n2_; have BK280 := n3_; have HB := n4_; clear n0_ n1_ n2_ n3_ n4_; (try clear hb); (try clear hb2); (try clear hk); (try clear hi)))
                      all_goals
                        go_ret
                        exact ⟨by first | exact congrArg (fun b_ => Ending.returned (.bool b_)) hret_.out | rfl | (simp [errW_none, errW_some] <;> rfl) | (simp [*, errW_none, errW_some] <;> rfl), by repeat (first | (with_reducible first | exact HB.out | apply below_alloc | apply pw_below_drewN | apply below_drew1 | refine below_set ?_ GE279.out | refine below_set ?_ GE280.out) | exact HB.out)⟩
                    · rw [if_neg c23] at H
                      have c23b0 : (((strOfNums t281).toList == (strOfNums t285).toList) == (a0_7 == a1_7)) = false := by simpa using c23
                      (try (have c23b1 : decide (((strOfNums t281).toList == (strOfNums t285).toList) = (a0_7 == a1_7)) = false := by simpa using c23))
                      (try (have c23b2 : (((strOfNums t281).toList == (strOfNums t285).toList) == (a0_7 == a1_7)) = false := by simpa using c23))
                      (try (have c23b3 : ¬ (((strOfNums t281).toList == (strOfNums t285).toList) = (a0_7 == a1_7)) := by simpa using c23))
                      clear c23
                      exact absurd H (by simp)
                  · rw [if_neg c22] at H
                    have c22b0 : (a0_6 == a1_6) = false := beq_eq_false_iff_ne.mpr c22
                    have c22b1 : (a0_6 != a1_6) = true := bne_iff_ne.mpr c22
                    by_cases c31 : (((strOfNums t281).toList == (strOfNums t285).toList) == false) = true
                    · rw [if_pos c31] at H
                      have c31b0 : (((strOfNums t281).toList == (strOfNums t285).toList) == false) = true := c31
                      (try (have c31b1 : decide (((strOfNums t281).toList == (strOfNums t285).toList) = false) = true := by simpa using c31))
                      (try (have c31b2 : (((strOfNums t281).toList == (strOfNums t285).toList) == false) = true := by simpa using c31))
                      clear c31
                      replace H := Option.bind_eq_some_iff.mp H
                      obtain ⟨t291, A320, H⟩ := H
                      replace H : (some t291) = some true := H
                      have A32 := Aside0.mk A320
                      clear A320
                      have hret_ := Aside0.mk (Option.some.inj H)
                      clear H
                      have hnb33 := NB279_280.out
                      have hnc33 := NB280_279.out
                      have hcz34_0 : wc.cell? ⟨gb279, 0, none⟩ = some (.int .i64 a0_0) := (blk_cell BK279.out 0).trans rfl
                      have hcz34_1 : wc.cell? ⟨gb279, 1, none⟩ = some (.int .i64 a0_1) := (blk_cell BK279.out 1).trans rfl
                      have hcz34_2 : wc.cell? ⟨gb279, 2, none⟩ = some (.int .i64 a0_2) := (blk_cell BK279.out 2).trans rfl
                      have hcz34_3 : wc.cell? ⟨gb279, 3, none⟩ = some (.int .i64 a0_3) := (blk_cell BK279.out 3).trans rfl
                      have hcz34_4 : wc.cell? ⟨gb279, 4, none⟩ = some (.int .u64 a0_4) := (blk_cell BK279.out 4).trans rfl
                      have hcz34_5 : wc.cell? ⟨gb279, 5, none⟩ = some (.int .i64 a0_5) := (blk_cell BK279.out 5).trans rfl
                      have hcz34_6 : wc.cell? ⟨gb279, 6, none⟩ = some (.int .i64 a0_6) := (blk_cell BK279.out 6).trans rfl
                      have hcz34_7 : wc.cell? ⟨gb279, 7, none⟩ = some (.int .i64 a0_7) := (blk_cell BK279.out 7).trans rfl
                      have hcz34_8 : wc.cell? ⟨gb279, 8, none⟩ = some (.int .i64 a0_8) := (blk_cell BK279.out 8).trans rfl
                      have hcz34_9 : wc.cell? ⟨gb279, 9, none⟩ = some (.int .u64 a0_9) := (blk_cell BK279.out 9).trans rfl
                      have hcz34_10 : wc.cell? ⟨gb279, 10, none⟩ = some (.int .i64 a0_10) := (blk_cell BK279.out 10).trans rfl
                      have hcz34_11 : wc.cell? ⟨gb279, 11, none⟩ = some (.int .i64 a0_11) := (blk_cell BK279.out 11).trans rfl
                      have hcz34_12 : wc.cell? ⟨gb279, 12, none⟩ = some (.int .i64 a0_12) := (blk_cell BK279.out 12).trans rfl
                      have hcz34_13 : wc.cell? ⟨gb279, 13, none⟩ = some (.int .i64 a0_13) := (blk_cell BK279.out 13).trans rfl
                      have hcz34_14 : wc.cell? ⟨gb279, 14, none⟩ = some (.int .i64 a0_14) := (blk_cell BK279.out 14).trans rfl
                      have hcz34_15 : wc.cell? ⟨gb279, 15, none⟩ = some (.int .i64 a0_15) := (blk_cell BK279.out 15).trans rfl
                      have hcz34_16 : wc.cell? ⟨gb279, 16, none⟩ = some (.int .i64 a0_16) := (blk_cell BK279.out 16).trans rfl
                      have hcz34_17 : wc.cell? ⟨gb279, 17, none⟩ = some (.int .u64 a0_17) := (blk_cell BK279.out 17).trans rfl
                      have hcz34_18 : wc.cell? ⟨gb279, 18, none⟩ = some (.int .i64 a0_18) := (blk_cell BK279.out 18).trans rfl
                      have hcz34_19 : wc.cell? ⟨gb279, 19, none⟩ = some (.int .i64 a0_19) := (blk_cell BK279.out 19).trans rfl
                      have hcz34_20 : wc.cell? ⟨gb279, 20, none⟩ = some (.int .i64 a0_20) := (blk_cell BK279.out 20).trans rfl
                      have hcz34_21 : wc.cell? ⟨gb279, 21, none⟩ = some (.int .i64 a0_21) := (blk_cell BK279.out 21).trans rfl
                      have hcz34_22 : wc.cell? ⟨gb279, 22, none⟩ = some (.int .i64 a0_22) := (blk_cell BK279.out 22).trans rfl
                      have hfz34_0 := blk_frozen BK279.out 0
                      have hfz34_1 := blk_frozen BK279.out 1
                      have hfz34_2 := blk_frozen BK279.out 2
                      have hfz34_3 := blk_frozen BK279.out 3
                      have hfz34_4 := blk_frozen BK279.out 4
                      have hfz34_5 := blk_frozen BK279.out 5
                      have hfz34_6 := blk_frozen BK279.out 6
                      have hfz34_7 := blk_frozen BK279.out 7
                      have hfz34_8 := blk_frozen BK279.out 8
                      have hfz34_9 := blk_frozen BK279.out 9
                      have hfz34_10 := blk_frozen BK279.out 10
                      have hfz34_11 := blk_frozen BK279.out 11
                      have hfz34_12 := blk_frozen BK279.out 12
                      have hfz34_13 := blk_frozen BK279.out 13
                      have hfz34_14 := blk_frozen BK279.out 14
                      have hfz34_15 := blk_frozen BK279.out 15
                      have hfz34_16 := blk_frozen BK279.out 16
                      have hfz34_17 := blk_frozen BK279.out 17
                      have hfz34_18 := blk_frozen BK279.out 18
                      have hfz34_19 := blk_frozen BK279.out 19
                      have hfz34_20 := blk_frozen BK279.out 20
                      have hfz34_21 := blk_frozen BK279.out 21
                      have hfz34_22 := blk_frozen BK279.out 22
                      have hcz35_0 : wc.cell? ⟨gb280, 0, none⟩ = some (.int .i64 a1_0) := (blk_cell BK280.out 0).trans rfl
                      have hcz35_1 : wc.cell? ⟨gb280, 1, none⟩ = some (.int .i64 a1_1) := (blk_cell BK280.out 1).trans rfl
                      have hcz35_2 : wc.cell? ⟨gb280, 2, none⟩ = some (.int .i64 a1_2) := (blk_cell BK280.out 2).trans rfl
                      have hcz35_3 : wc.cell? ⟨gb280, 3, none⟩ = some (.int .i64 a1_3) := (blk_cell BK280.out 3).trans rfl
                      have hcz35_4 : wc.cell? ⟨gb280, 4, none⟩ = some (.int .u64 a1_4) := (blk_cell BK280.out 4).trans rfl
                      have hcz35_5 : wc.cell? ⟨gb280, 5, none⟩ = some (.int .i64 a1_5) := (blk_cell BK280.out 5).trans rfl
                      have hcz35_6 : wc.cell? ⟨gb280, 6, none⟩ = some (.int .i64 a1_6) := (blk_cell BK280.out 6).trans rfl
                      have hcz35_7 : wc.cell? ⟨gb280, 7, none⟩ = some (.int .i64 a1_7) := (blk_cell BK280.out 7).trans rfl
                      have hcz35_8 : wc.cell? ⟨gb280, 8, none⟩ = some (.int .i64 a1_8) := (blk_cell BK280.out 8).trans rfl
                      have hcz35_9 : wc.cell? ⟨gb280, 9, none⟩ = some (.int .u64 a1_9) := (blk_cell BK280.out 9).trans rfl
                      have hcz35_10 : wc.cell? ⟨gb280, 10, none⟩ = some (.int .i64 a1_10) := (blk_cell BK280.out 10).trans rfl
                      have hcz35_11 : wc.cell? ⟨gb280, 11, none⟩ = some (.int .i64 a1_11) := (blk_cell BK280.out 11).trans rfl
                      have hcz35_12 : wc.cell? ⟨gb280, 12, none⟩ = some (.int .i64 a1_12) := (blk_cell BK280.out 12).trans rfl
                      have hcz35_13 : wc.cell? ⟨gb280, 13, none⟩ = some (.int .i64 a1_13) := (blk_cell BK280.out 13).trans rfl
                      have hcz35_14 : wc.cell? ⟨gb280, 14, none⟩ = some (.int .i64 a1_14) := (blk_cell BK280.out 14).trans rfl
                      have hcz35_15 : wc.cell? ⟨gb280, 15, none⟩ = some (.int .i64 a1_15) := (blk_cell BK280.out 15).trans rfl
                      have hcz35_16 : wc.cell? ⟨gb280, 16, none⟩ = some (.int .i64 a1_16) := (blk_cell BK280.out 16).trans rfl
                      have hcz35_17 : wc.cell? ⟨gb280, 17, none⟩ = some (.int .u64 a1_17) := (blk_cell BK280.out 17).trans rfl
                      have hcz35_18 : wc.cell? ⟨gb280, 18, none⟩ = some (.int .i64 a1_18) := (blk_cell BK280.out 18).trans rfl
                      have hcz35_19 : wc.cell? ⟨gb280, 19, none⟩ = some (.int .i64 a1_19) := (blk_cell BK280.out 19).trans rfl
                      have hcz35_20 : wc.cell? ⟨gb280, 20, none⟩ = some (.int .i64 a1_20) := (blk_cell BK280.out 20).trans rfl
                      have hcz35_21 : wc.cell? ⟨gb280, 21, none⟩ = some (.int .i64 a1_21) := (blk_cell BK280.out 21).trans rfl
                      have hcz35_22 : wc.cell? ⟨gb280, 22, none⟩ = some (.int .i64 a1_22) := (blk_cell BK280.out 22).trans rfl
                      have hfz35_0 := blk_frozen BK280.out 0
                      have hfz35_1 := blk_frozen BK280.out 1
                      have hfz35_2 := blk_frozen BK280.out 2
                      have hfz35_3 := blk_frozen BK280.out 3
                      have hfz35_4 := blk_frozen BK280.out 4
                      have hfz35_5 := blk_frozen BK280.out 5
                      have hfz35_6 := blk_frozen BK280.out 6
                      have hfz35_7 := blk_frozen BK280.out 7
                      have hfz35_8 := blk_frozen BK280.out 8
                      have hfz35_9 := blk_frozen BK280.out 9
                      have hfz35_10 := blk_frozen BK280.out 10
                      have hfz35_11 := blk_frozen BK280.out 11
                      have hfz35_12 := blk_frozen BK280.out 12
                      have hfz35_13 := blk_frozen BK280.out 13
                      have hfz35_14 := blk_frozen BK280.out 14
                      have hfz35_15 := blk_frozen BK280.out 15
                      have hfz35_16 := blk_frozen BK280.out 16
                      have hfz35_17 := blk_frozen BK280.out 17
                      have hfz35_18 := blk_frozen BK280.out 18
                      have hfz35_19 := blk_frozen BK280.out 19
                      have hfz35_20 := blk_frozen BK280.out 20
                      have hfz35_21 := blk_frozen BK280.out 21
                      have hfz35_22 := blk_frozen BK280.out 22
                      have hcv36 := own_string (P := Try.prog) Try.underlying29 Try.underlying5 Try.underlying9 (Kd.own_of_R HO_5.out)
                      have hcv37 := own_string (P := Try.prog) Try.underlying29 Try.underlying5 Try.underlying9 (Kd.own_of_R HO_7.out)
                      go_wp2_with (first | (refine big_load (g := gb279) (t := 28) (fr := (0, 0)) (n := 23) (cs := ?_) rfl rfl Try.underlying28 (by kernel_rfl) rfl ?lg ?ln ?_; (case lg => (with_reducible repeat (first | refine blk_drewN ?_ _ | refine blk_drew ?_ | refine blk_alloc ?_ _)); exact BK279.out); (case ln => rfl)) | (refine big_load (g := gb280) (t := 28) (fr := (0, 0)) (n := 23) (cs := ?_) rfl rfl Try.underlying28 (by kernel_rfl) rfl ?lg ?ln ?_; (case lg => (with_reducible repeat (first | refine blk_drewN ?_ _ | refine blk_drew ?_ | refine blk_alloc ?_ _)); exact BK280.out); (case ln => rfl)) | (go_at_call 16; (with_reducible refine (carillonlaw06_awake.calls kj4  t291 _ A32.out).mono ?_); rintro e w38 ⟨rfl, hb⟩; have n0_ := Aside0.mk (Kd.R_below (by (with_reducible repeat (first | apply Kd.R_alloc | apply Kd.R_drewN | apply Kd.R_drew)); exact HO_5.out) hb); have n1_ := Aside0.mk (Kd.R_below (by (with_reducible repeat (first | apply Kd.R_alloc | apply Kd.R_drewN | apply Kd.R_drew)); exact HO_7.out) hb); have n2_ := Aside0.mk (blk_below (g := gb279) (o := .cells #[.int .i64 a0_0, .int .i64 a0_1, .int .i64 a0_2, .int .i64 a0_3, .int .u64 a0_4, .int .i64 a0_5, .int .i64 a0_6, .int .i64 a0_7, .int .i64 a0_8, .int .u64 a0_9, .int .i64 a0_10, .int .i64 a0_11, .int .i64 a0_12, .int .i64 a0_13, .int .i64 a0_14, .int .i64 a0_15, .int .i64 a0_16, .int .u64 a0_17, .int .i64 a0_18, .int .i64 a0_19, .int .i64 a0_20, .int .i64 a0_21, .int .i64 a0_22] 28 (0, 0)) (by (with_reducible repeat (first | refine blk_drewN ?_ _ | refine blk_drew ?_ | refine blk_alloc ?_ _)); exact BK279.out) hb); have n3_ := Aside0.mk (blk_below (g := gb280) (o := .cells #[.int .i64 a1_0, .int .i64 a1_1, .int .i64 a1_2, .int .i64 a1_3, .int .u64 a1_4, .int .i64 a1_5, .int .i64 a1_6, .int .i64 a1_7, .int .i64 a1_8, .int .u64 a1_9, .int .i64 a1_10, .int .i64 a1_11, .int .i64 a1_12, .int .i64 a1_13, .int .i64 a1_14, .int .i64 a1_15, .int .i64 a1_16, .int .u64 a1_17, .int .i64 a1_18, .int .i64 a1_19, .int .i64 a1_20, .int .i64 a1_21, .int .i64 a1_22] 28 (0, 0)) (by (with_reducible repeat (first | refine blk_drewN ?_ _ | refine blk_drew ?_ | refine blk_alloc ?_ _)); exact BK280.out) hb); have n4_ := Aside0.mk (below_step (by repeat (first | (with_reducible first | exact HB.out | apply below_alloc | apply pw_below_drewN | apply below_drew1 | refine below_set ?_ GE279.out | refine below_set ?_ GE280.out) | exact HB.out)) hb); clear HO_5; clear HO_7; clear BK279; clear BK280; clear HB; have HO_5 := n0_; have HO_7 := n1_; have BK279 := n2_; have BK280 := n3_; have HB := n4_; clear n0_ n1_ n2_ n3_ n4_; (try clear hb); (try clear hb2); (try clear hk); (try clear hi)))
                      all_goals
                        go_ret
                        exact ⟨by first | exact congrArg (fun b_ => Ending.returned (.bool b_)) hret_.out | rfl | (simp [errW_none, errW_some] <;> rfl) | (simp [*, errW_none, errW_some] <;> rfl), by repeat (first | (with_reducible first | exact HB.out | apply below_alloc | apply pw_below_drewN | apply below_drew1 | refine below_set ?_ GE279.out | refine below_set ?_ GE280.out) | exact HB.out)⟩
                    · rw [if_neg c31] at H
                      have c31b0 : (((strOfNums t281).toList == (strOfNums t285).toList) == false) = false := by simpa using c31
                      (try (have c31b1 : decide (((strOfNums t281).toList == (strOfNums t285).toList) = false) = false := by simpa using c31))
                      (try (have c31b2 : (((strOfNums t281).toList == (strOfNums t285).toList) == false) = false := by simpa using c31))
                      (try (have c31b3 : ¬ (((strOfNums t281).toList == (strOfNums t285).toList) = false) := by simpa using c31))
                      clear c31
                      exact absurd H (by simp)
                · rw [if_neg c21] at H
                  have c21b0 : (a0_4 == a1_4 && (a0_5 == a1_5)) = false := by simpa using c21
                  (try (have c21b1 : decide (a0_4 = a1_4 && (a0_5 == a1_5)) = false := by simpa using c21))
                  (try (have c21b2 : (a0_4 == a1_4 && (a0_5 == a1_5)) = false := by simpa using c21))
                  (try (have c21b3 : ¬ (a0_4 = a1_4 && (a0_5 == a1_5)) := by simpa using c21))
                  clear c21
                  by_cases c39 : (((strOfNums t281).toList == (strOfNums t285).toList) == false) = true
                  · rw [if_pos c39] at H
                    have c39b0 : (((strOfNums t281).toList == (strOfNums t285).toList) == false) = true := c39
                    (try (have c39b1 : decide (((strOfNums t281).toList == (strOfNums t285).toList) = false) = true := by simpa using c39))
                    (try (have c39b2 : (((strOfNums t281).toList == (strOfNums t285).toList) == false) = true := by simpa using c39))
                    clear c39
                    replace H := Option.bind_eq_some_iff.mp H
                    obtain ⟨t292, A400, H⟩ := H
                    replace H : (some t292) = some true := H
                    have A40 := Aside0.mk A400
                    clear A400
                    have hret_ := Aside0.mk (Option.some.inj H)
                    clear H
                    have hnb41 := NB279_280.out
                    have hnc41 := NB280_279.out
                    have hcz42_0 : wc.cell? ⟨gb279, 0, none⟩ = some (.int .i64 a0_0) := (blk_cell BK279.out 0).trans rfl
                    have hcz42_1 : wc.cell? ⟨gb279, 1, none⟩ = some (.int .i64 a0_1) := (blk_cell BK279.out 1).trans rfl
                    have hcz42_2 : wc.cell? ⟨gb279, 2, none⟩ = some (.int .i64 a0_2) := (blk_cell BK279.out 2).trans rfl
                    have hcz42_3 : wc.cell? ⟨gb279, 3, none⟩ = some (.int .i64 a0_3) := (blk_cell BK279.out 3).trans rfl
                    have hcz42_4 : wc.cell? ⟨gb279, 4, none⟩ = some (.int .u64 a0_4) := (blk_cell BK279.out 4).trans rfl
                    have hcz42_5 : wc.cell? ⟨gb279, 5, none⟩ = some (.int .i64 a0_5) := (blk_cell BK279.out 5).trans rfl
                    have hcz42_6 : wc.cell? ⟨gb279, 6, none⟩ = some (.int .i64 a0_6) := (blk_cell BK279.out 6).trans rfl
                    have hcz42_7 : wc.cell? ⟨gb279, 7, none⟩ = some (.int .i64 a0_7) := (blk_cell BK279.out 7).trans rfl
                    have hcz42_8 : wc.cell? ⟨gb279, 8, none⟩ = some (.int .i64 a0_8) := (blk_cell BK279.out 8).trans rfl
                    have hcz42_9 : wc.cell? ⟨gb279, 9, none⟩ = some (.int .u64 a0_9) := (blk_cell BK279.out 9).trans rfl
                    have hcz42_10 : wc.cell? ⟨gb279, 10, none⟩ = some (.int .i64 a0_10) := (blk_cell BK279.out 10).trans rfl
                    have hcz42_11 : wc.cell? ⟨gb279, 11, none⟩ = some (.int .i64 a0_11) := (blk_cell BK279.out 11).trans rfl
                    have hcz42_12 : wc.cell? ⟨gb279, 12, none⟩ = some (.int .i64 a0_12) := (blk_cell BK279.out 12).trans rfl
                    have hcz42_13 : wc.cell? ⟨gb279, 13, none⟩ = some (.int .i64 a0_13) := (blk_cell BK279.out 13).trans rfl
                    have hcz42_14 : wc.cell? ⟨gb279, 14, none⟩ = some (.int .i64 a0_14) := (blk_cell BK279.out 14).trans rfl
                    have hcz42_15 : wc.cell? ⟨gb279, 15, none⟩ = some (.int .i64 a0_15) := (blk_cell BK279.out 15).trans rfl
                    have hcz42_16 : wc.cell? ⟨gb279, 16, none⟩ = some (.int .i64 a0_16) := (blk_cell BK279.out 16).trans rfl
                    have hcz42_17 : wc.cell? ⟨gb279, 17, none⟩ = some (.int .u64 a0_17) := (blk_cell BK279.out 17).trans rfl
                    have hcz42_18 : wc.cell? ⟨gb279, 18, none⟩ = some (.int .i64 a0_18) := (blk_cell BK279.out 18).trans rfl
                    have hcz42_19 : wc.cell? ⟨gb279, 19, none⟩ = some (.int .i64 a0_19) := (blk_cell BK279.out 19).trans rfl
                    have hcz42_20 : wc.cell? ⟨gb279, 20, none⟩ = some (.int .i64 a0_20) := (blk_cell BK279.out 20).trans rfl
                    have hcz42_21 : wc.cell? ⟨gb279, 21, none⟩ = some (.int .i64 a0_21) := (blk_cell BK279.out 21).trans rfl
                    have hcz42_22 : wc.cell? ⟨gb279, 22, none⟩ = some (.int .i64 a0_22) := (blk_cell BK279.out 22).trans rfl
                    have hfz42_0 := blk_frozen BK279.out 0
                    have hfz42_1 := blk_frozen BK279.out 1
                    have hfz42_2 := blk_frozen BK279.out 2
                    have hfz42_3 := blk_frozen BK279.out 3
                    have hfz42_4 := blk_frozen BK279.out 4
                    have hfz42_5 := blk_frozen BK279.out 5
                    have hfz42_6 := blk_frozen BK279.out 6
                    have hfz42_7 := blk_frozen BK279.out 7
                    have hfz42_8 := blk_frozen BK279.out 8
                    have hfz42_9 := blk_frozen BK279.out 9
                    have hfz42_10 := blk_frozen BK279.out 10
                    have hfz42_11 := blk_frozen BK279.out 11
                    have hfz42_12 := blk_frozen BK279.out 12
                    have hfz42_13 := blk_frozen BK279.out 13
                    have hfz42_14 := blk_frozen BK279.out 14
                    have hfz42_15 := blk_frozen BK279.out 15
                    have hfz42_16 := blk_frozen BK279.out 16
                    have hfz42_17 := blk_frozen BK279.out 17
                    have hfz42_18 := blk_frozen BK279.out 18
                    have hfz42_19 := blk_frozen BK279.out 19
                    have hfz42_20 := blk_frozen BK279.out 20
                    have hfz42_21 := blk_frozen BK279.out 21
                    have hfz42_22 := blk_frozen BK279.out 22
                    have hcz43_0 : wc.cell? ⟨gb280, 0, none⟩ = some (.int .i64 a1_0) := (blk_cell BK280.out 0).trans rfl
                    have hcz43_1 : wc.cell? ⟨gb280, 1, none⟩ = some (.int .i64 a1_1) := (blk_cell BK280.out 1).trans rfl
                    have hcz43_2 : wc.cell? ⟨gb280, 2, none⟩ = some (.int .i64 a1_2) := (blk_cell BK280.out 2).trans rfl
                    have hcz43_3 : wc.cell? ⟨gb280, 3, none⟩ = some (.int .i64 a1_3) := (blk_cell BK280.out 3).trans rfl
                    have hcz43_4 : wc.cell? ⟨gb280, 4, none⟩ = some (.int .u64 a1_4) := (blk_cell BK280.out 4).trans rfl
                    have hcz43_5 : wc.cell? ⟨gb280, 5, none⟩ = some (.int .i64 a1_5) := (blk_cell BK280.out 5).trans rfl
                    have hcz43_6 : wc.cell? ⟨gb280, 6, none⟩ = some (.int .i64 a1_6) := (blk_cell BK280.out 6).trans rfl
                    have hcz43_7 : wc.cell? ⟨gb280, 7, none⟩ = some (.int .i64 a1_7) := (blk_cell BK280.out 7).trans rfl
                    have hcz43_8 : wc.cell? ⟨gb280, 8, none⟩ = some (.int .i64 a1_8) := (blk_cell BK280.out 8).trans rfl
                    have hcz43_9 : wc.cell? ⟨gb280, 9, none⟩ = some (.int .u64 a1_9) := (blk_cell BK280.out 9).trans rfl
                    have hcz43_10 : wc.cell? ⟨gb280, 10, none⟩ = some (.int .i64 a1_10) := (blk_cell BK280.out 10).trans rfl
                    have hcz43_11 : wc.cell? ⟨gb280, 11, none⟩ = some (.int .i64 a1_11) := (blk_cell BK280.out 11).trans rfl
                    have hcz43_12 : wc.cell? ⟨gb280, 12, none⟩ = some (.int .i64 a1_12) := (blk_cell BK280.out 12).trans rfl
                    have hcz43_13 : wc.cell? ⟨gb280, 13, none⟩ = some (.int .i64 a1_13) := (blk_cell BK280.out 13).trans rfl
                    have hcz43_14 : wc.cell? ⟨gb280, 14, none⟩ = some (.int .i64 a1_14) := (blk_cell BK280.out 14).trans rfl
                    have hcz43_15 : wc.cell? ⟨gb280, 15, none⟩ = some (.int .i64 a1_15) := (blk_cell BK280.out 15).trans rfl
                    have hcz43_16 : wc.cell? ⟨gb280, 16, none⟩ = some (.int .i64 a1_16) := (blk_cell BK280.out 16).trans rfl
                    have hcz43_17 : wc.cell? ⟨gb280, 17, none⟩ = some (.int .u64 a1_17) := (blk_cell BK280.out 17).trans rfl
                    have hcz43_18 : wc.cell? ⟨gb280, 18, none⟩ = some (.int .i64 a1_18) := (blk_cell BK280.out 18).trans rfl
                    have hcz43_19 : wc.cell? ⟨gb280, 19, none⟩ = some (.int .i64 a1_19) := (blk_cell BK280.out 19).trans rfl
                    have hcz43_20 : wc.cell? ⟨gb280, 20, none⟩ = some (.int .i64 a1_20) := (blk_cell BK280.out 20).trans rfl
                    have hcz43_21 : wc.cell? ⟨gb280, 21, none⟩ = some (.int .i64 a1_21) := (blk_cell BK280.out 21).trans rfl
                    have hcz43_22 : wc.cell? ⟨gb280, 22, none⟩ = some (.int .i64 a1_22) := (blk_cell BK280.out 22).trans rfl
                    have hfz43_0 := blk_frozen BK280.out 0
                    have hfz43_1 := blk_frozen BK280.out 1
                    have hfz43_2 := blk_frozen BK280.out 2
                    have hfz43_3 := blk_frozen BK280.out 3
                    have hfz43_4 := blk_frozen BK280.out 4
                    have hfz43_5 := blk_frozen BK280.out 5
                    have hfz43_6 := blk_frozen BK280.out 6
                    have hfz43_7 := blk_frozen BK280.out 7
                    have hfz43_8 := blk_frozen BK280.out 8
                    have hfz43_9 := blk_frozen BK280.out 9
                    have hfz43_10 := blk_frozen BK280.out 10
                    have hfz43_11 := blk_frozen BK280.out 11
                    have hfz43_12 := blk_frozen BK280.out 12
                    have hfz43_13 := blk_frozen BK280.out 13
                    have hfz43_14 := blk_frozen BK280.out 14
                    have hfz43_15 := blk_frozen BK280.out 15
                    have hfz43_16 := blk_frozen BK280.out 16
                    have hfz43_17 := blk_frozen BK280.out 17
                    have hfz43_18 := blk_frozen BK280.out 18
                    have hfz43_19 := blk_frozen BK280.out 19
                    have hfz43_20 := blk_frozen BK280.out 20
                    have hfz43_21 := blk_frozen BK280.out 21
                    have hfz43_22 := blk_frozen BK280.out 22
                    have hcv44 := own_string (P := Try.prog) Try.underlying29 Try.underlying5 Try.underlying9 (Kd.own_of_R HO_5.out)
                    have hcv45 := own_string (P := Try.prog) Try.underlying29 Try.underlying5 Try.underlying9 (Kd.own_of_R HO_7.out)
                    go_wp2_with (first | (refine big_load (g := gb279) (t := 28) (fr := (0, 0)) (n := 23) (cs := ?_) rfl rfl Try.underlying28 (by kernel_rfl) rfl ?lg ?ln ?_; (case lg => (with_reducible repeat (first | refine blk_drewN ?_ _ | refine blk_drew ?_ | refine blk_alloc ?_ _)); exact BK279.out); (case ln => rfl)) | (refine big_load (g := gb280) (t := 28) (fr := (0, 0)) (n := 23) (cs := ?_) rfl rfl Try.underlying28 (by kernel_rfl) rfl ?lg ?ln ?_; (case lg => (with_reducible repeat (first | refine blk_drewN ?_ _ | refine blk_drew ?_ | refine blk_alloc ?_ _)); exact BK280.out); (case ln => rfl)) | (go_at_call 16; (with_reducible refine (carillonlaw06_awake.calls kj4  t292 _ A40.out).mono ?_); rintro e w46 ⟨rfl, hb⟩; have n0_ := Aside0.mk (Kd.R_below (by (with_reducible repeat (first | apply Kd.R_alloc | apply Kd.R_drewN | apply Kd.R_drew)); exact HO_5.out) hb); have n1_ := Aside0.mk (Kd.R_below (by (with_reducible repeat (first | apply Kd.R_alloc | apply Kd.R_drewN | apply Kd.R_drew)); exact HO_7.out) hb); have n2_ := Aside0.mk (blk_below (g := gb279) (o := .cells #[.int .i64 a0_0, .int .i64 a0_1, .int .i64 a0_2, .int .i64 a0_3, .int .u64 a0_4, .int .i64 a0_5, .int .i64 a0_6, .int .i64 a0_7, .int .i64 a0_8, .int .u64 a0_9, .int .i64 a0_10, .int .i64 a0_11, .int .i64 a0_12, .int .i64 a0_13, .int .i64 a0_14, .int .i64 a0_15, .int .i64 a0_16, .int .u64 a0_17, .int .i64 a0_18, .int .i64 a0_19, .int .i64 a0_20, .int .i64 a0_21, .int .i64 a0_22] 28 (0, 0)) (by (with_reducible repeat (first | refine blk_drewN ?_ _ | refine blk_drew ?_ | refine blk_alloc ?_ _)); exact BK279.out) hb); have n3_ := Aside0.mk (blk_below (g := gb280) (o := .cells #[.int .i64 a1_0, .int .i64 a1_1, .int .i64 a1_2, .int .i64 a1_3, .int .u64 a1_4, .int .i64 a1_5, .int .i64 a1_6, .int .i64 a1_7, .int .i64 a1_8, .int .u64 a1_9, .int .i64 a1_10, .int .i64 a1_11, .int .i64 a1_12, .int .i64 a1_13, .int .i64 a1_14, .int .i64 a1_15, .int .i64 a1_16, .int .u64 a1_17, .int .i64 a1_18, .int .i64 a1_19, .int .i64 a1_20, .int .i64 a1_21, .int .i64 a1_22] 28 (0, 0)) (by (with_reducible repeat (first | refine blk_drewN ?_ _ | refine blk_drew ?_ | refine blk_alloc ?_ _)); exact BK280.out) hb); have n4_ := Aside0.mk (below_step (by repeat (first | (with_reducible first | exact HB.out | apply below_alloc | apply pw_below_drewN | apply below_drew1 | refine below_set ?_ GE279.out | refine below_set ?_ GE280.out) | exact HB.out)) hb); clear HO_5; clear HO_7; clear BK279; clear BK280; clear HB; have HO_5 := n0_; have HO_7 := n1_; have BK279 := n2_; have BK280 := n3_; have HB := n4_; clear n0_ n1_ n2_ n3_ n4_; (try clear hb); (try clear hb2); (try clear hk); (try clear hi)))
                    all_goals
                      go_ret
                      exact ⟨by first | exact congrArg (fun b_ => Ending.returned (.bool b_)) hret_.out | rfl | (simp [errW_none, errW_some] <;> rfl) | (simp [*, errW_none, errW_some] <;> rfl), by repeat (first | (with_reducible first | exact HB.out | apply below_alloc | apply pw_below_drewN | apply below_drew1 | refine below_set ?_ GE279.out | refine below_set ?_ GE280.out) | exact HB.out)⟩
                  · rw [if_neg c39] at H
                    have c39b0 : (((strOfNums t281).toList == (strOfNums t285).toList) == false) = false := by simpa using c39
                    (try (have c39b1 : decide (((strOfNums t281).toList == (strOfNums t285).toList) = false) = false := by simpa using c39))
                    (try (have c39b2 : (((strOfNums t281).toList == (strOfNums t285).toList) == false) = false := by simpa using c39))
                    (try (have c39b3 : ¬ (((strOfNums t281).toList == (strOfNums t285).toList) = false) := by simpa using c39))
                    clear c39
                    exact absurd H (by simp)
              · rw [if_neg c20] at H
                have c20b0 : (a0_3 == a1_3) = false := beq_eq_false_iff_ne.mpr c20
                have c20b1 : (a0_3 != a1_3) = true := bne_iff_ne.mpr c20
                by_cases c47 : (((strOfNums t281).toList == (strOfNums t285).toList) == false) = true
                · rw [if_pos c47] at H
                  have c47b0 : (((strOfNums t281).toList == (strOfNums t285).toList) == false) = true := c47
                  (try (have c47b1 : decide (((strOfNums t281).toList == (strOfNums t285).toList) = false) = true := by simpa using c47))
                  (try (have c47b2 : (((strOfNums t281).toList == (strOfNums t285).toList) == false) = true := by simpa using c47))
                  clear c47
                  replace H := Option.bind_eq_some_iff.mp H
                  obtain ⟨t293, A480, H⟩ := H
                  replace H : (some t293) = some true := H
                  have A48 := Aside0.mk A480
                  clear A480
                  have hret_ := Aside0.mk (Option.some.inj H)
                  clear H
                  have hnb49 := NB279_280.out
                  have hnc49 := NB280_279.out
                  have hcz50_0 : wc.cell? ⟨gb279, 0, none⟩ = some (.int .i64 a0_0) := (blk_cell BK279.out 0).trans rfl
                  have hcz50_1 : wc.cell? ⟨gb279, 1, none⟩ = some (.int .i64 a0_1) := (blk_cell BK279.out 1).trans rfl
                  have hcz50_2 : wc.cell? ⟨gb279, 2, none⟩ = some (.int .i64 a0_2) := (blk_cell BK279.out 2).trans rfl
                  have hcz50_3 : wc.cell? ⟨gb279, 3, none⟩ = some (.int .i64 a0_3) := (blk_cell BK279.out 3).trans rfl
                  have hcz50_4 : wc.cell? ⟨gb279, 4, none⟩ = some (.int .u64 a0_4) := (blk_cell BK279.out 4).trans rfl
                  have hcz50_5 : wc.cell? ⟨gb279, 5, none⟩ = some (.int .i64 a0_5) := (blk_cell BK279.out 5).trans rfl
                  have hcz50_6 : wc.cell? ⟨gb279, 6, none⟩ = some (.int .i64 a0_6) := (blk_cell BK279.out 6).trans rfl
                  have hcz50_7 : wc.cell? ⟨gb279, 7, none⟩ = some (.int .i64 a0_7) := (blk_cell BK279.out 7).trans rfl
                  have hcz50_8 : wc.cell? ⟨gb279, 8, none⟩ = some (.int .i64 a0_8) := (blk_cell BK279.out 8).trans rfl
                  have hcz50_9 : wc.cell? ⟨gb279, 9, none⟩ = some (.int .u64 a0_9) := (blk_cell BK279.out 9).trans rfl
                  have hcz50_10 : wc.cell? ⟨gb279, 10, none⟩ = some (.int .i64 a0_10) := (blk_cell BK279.out 10).trans rfl
                  have hcz50_11 : wc.cell? ⟨gb279, 11, none⟩ = some (.int .i64 a0_11) := (blk_cell BK279.out 11).trans rfl
                  have hcz50_12 : wc.cell? ⟨gb279, 12, none⟩ = some (.int .i64 a0_12) := (blk_cell BK279.out 12).trans rfl
                  have hcz50_13 : wc.cell? ⟨gb279, 13, none⟩ = some (.int .i64 a0_13) := (blk_cell BK279.out 13).trans rfl
                  have hcz50_14 : wc.cell? ⟨gb279, 14, none⟩ = some (.int .i64 a0_14) := (blk_cell BK279.out 14).trans rfl
                  have hcz50_15 : wc.cell? ⟨gb279, 15, none⟩ = some (.int .i64 a0_15) := (blk_cell BK279.out 15).trans rfl
                  have hcz50_16 : wc.cell? ⟨gb279, 16, none⟩ = some (.int .i64 a0_16) := (blk_cell BK279.out 16).trans rfl
                  have hcz50_17 : wc.cell? ⟨gb279, 17, none⟩ = some (.int .u64 a0_17) := (blk_cell BK279.out 17).trans rfl
                  have hcz50_18 : wc.cell? ⟨gb279, 18, none⟩ = some (.int .i64 a0_18) := (blk_cell BK279.out 18).trans rfl
                  have hcz50_19 : wc.cell? ⟨gb279, 19, none⟩ = some (.int .i64 a0_19) := (blk_cell BK279.out 19).trans rfl
                  have hcz50_20 : wc.cell? ⟨gb279, 20, none⟩ = some (.int .i64 a0_20) := (blk_cell BK279.out 20).trans rfl
                  have hcz50_21 : wc.cell? ⟨gb279, 21, none⟩ = some (.int .i64 a0_21) := (blk_cell BK279.out 21).trans rfl
                  have hcz50_22 : wc.cell? ⟨gb279, 22, none⟩ = some (.int .i64 a0_22) := (blk_cell BK279.out 22).trans rfl
                  have hfz50_0 := blk_frozen BK279.out 0
                  have hfz50_1 := blk_frozen BK279.out 1
                  have hfz50_2 := blk_frozen BK279.out 2
                  have hfz50_3 := blk_frozen BK279.out 3
                  have hfz50_4 := blk_frozen BK279.out 4
                  have hfz50_5 := blk_frozen BK279.out 5
                  have hfz50_6 := blk_frozen BK279.out 6
                  have hfz50_7 := blk_frozen BK279.out 7
                  have hfz50_8 := blk_frozen BK279.out 8
                  have hfz50_9 := blk_frozen BK279.out 9
                  have hfz50_10 := blk_frozen BK279.out 10
                  have hfz50_11 := blk_frozen BK279.out 11
                  have hfz50_12 := blk_frozen BK279.out 12
                  have hfz50_13 := blk_frozen BK279.out 13
                  have hfz50_14 := blk_frozen BK279.out 14
                  have hfz50_15 := blk_frozen BK279.out 15
                  have hfz50_16 := blk_frozen BK279.out 16
                  have hfz50_17 := blk_frozen BK279.out 17
                  have hfz50_18 := blk_frozen BK279.out 18
                  have hfz50_19 := blk_frozen BK279.out 19
                  have hfz50_20 := blk_frozen BK279.out 20
                  have hfz50_21 := blk_frozen BK279.out 21
                  have hfz50_22 := blk_frozen BK279.out 22
                  have hcz51_0 : wc.cell? ⟨gb280, 0, none⟩ = some (.int .i64 a1_0) := (blk_cell BK280.out 0).trans rfl
                  have hcz51_1 : wc.cell? ⟨gb280, 1, none⟩ = some (.int .i64 a1_1) := (blk_cell BK280.out 1).trans rfl
                  have hcz51_2 : wc.cell? ⟨gb280, 2, none⟩ = some (.int .i64 a1_2) := (blk_cell BK280.out 2).trans rfl
                  have hcz51_3 : wc.cell? ⟨gb280, 3, none⟩ = some (.int .i64 a1_3) := (blk_cell BK280.out 3).trans rfl
                  have hcz51_4 : wc.cell? ⟨gb280, 4, none⟩ = some (.int .u64 a1_4) := (blk_cell BK280.out 4).trans rfl
                  have hcz51_5 : wc.cell? ⟨gb280, 5, none⟩ = some (.int .i64 a1_5) := (blk_cell BK280.out 5).trans rfl
                  have hcz51_6 : wc.cell? ⟨gb280, 6, none⟩ = some (.int .i64 a1_6) := (blk_cell BK280.out 6).trans rfl
                  have hcz51_7 : wc.cell? ⟨gb280, 7, none⟩ = some (.int .i64 a1_7) := (blk_cell BK280.out 7).trans rfl
                  have hcz51_8 : wc.cell? ⟨gb280, 8, none⟩ = some (.int .i64 a1_8) := (blk_cell BK280.out 8).trans rfl
                  have hcz51_9 : wc.cell? ⟨gb280, 9, none⟩ = some (.int .u64 a1_9) := (blk_cell BK280.out 9).trans rfl
                  have hcz51_10 : wc.cell? ⟨gb280, 10, none⟩ = some (.int .i64 a1_10) := (blk_cell BK280.out 10).trans rfl
                  have hcz51_11 : wc.cell? ⟨gb280, 11, none⟩ = some (.int .i64 a1_11) := (blk_cell BK280.out 11).trans rfl
                  have hcz51_12 : wc.cell? ⟨gb280, 12, none⟩ = some (.int .i64 a1_12) := (blk_cell BK280.out 12).trans rfl
                  have hcz51_13 : wc.cell? ⟨gb280, 13, none⟩ = some (.int .i64 a1_13) := (blk_cell BK280.out 13).trans rfl
                  have hcz51_14 : wc.cell? ⟨gb280, 14, none⟩ = some (.int .i64 a1_14) := (blk_cell BK280.out 14).trans rfl
                  have hcz51_15 : wc.cell? ⟨gb280, 15, none⟩ = some (.int .i64 a1_15) := (blk_cell BK280.out 15).trans rfl
                  have hcz51_16 : wc.cell? ⟨gb280, 16, none⟩ = some (.int .i64 a1_16) := (blk_cell BK280.out 16).trans rfl
                  have hcz51_17 : wc.cell? ⟨gb280, 17, none⟩ = some (.int .u64 a1_17) := (blk_cell BK280.out 17).trans rfl
                  have hcz51_18 : wc.cell? ⟨gb280, 18, none⟩ = some (.int .i64 a1_18) := (blk_cell BK280.out 18).trans rfl
                  have hcz51_19 : wc.cell? ⟨gb280, 19, none⟩ = some (.int .i64 a1_19) := (blk_cell BK280.out 19).trans rfl
                  have hcz51_20 : wc.cell? ⟨gb280, 20, none⟩ = some (.int .i64 a1_20) := (blk_cell BK280.out 20).trans rfl
                  have hcz51_21 : wc.cell? ⟨gb280, 21, none⟩ = some (.int .i64 a1_21) := (blk_cell BK280.out 21).trans rfl
                  have hcz51_22 : wc.cell? ⟨gb280, 22, none⟩ = some (.int .i64 a1_22) := (blk_cell BK280.out 22).trans rfl
                  have hfz51_0 := blk_frozen BK280.out 0
                  have hfz51_1 := blk_frozen BK280.out 1
                  have hfz51_2 := blk_frozen BK280.out 2
                  have hfz51_3 := blk_frozen BK280.out 3
                  have hfz51_4 := blk_frozen BK280.out 4
                  have hfz51_5 := blk_frozen BK280.out 5
                  have hfz51_6 := blk_frozen BK280.out 6
                  have hfz51_7 := blk_frozen BK280.out 7
                  have hfz51_8 := blk_frozen BK280.out 8
                  have hfz51_9 := blk_frozen BK280.out 9
                  have hfz51_10 := blk_frozen BK280.out 10
                  have hfz51_11 := blk_frozen BK280.out 11
                  have hfz51_12 := blk_frozen BK280.out 12
                  have hfz51_13 := blk_frozen BK280.out 13
                  have hfz51_14 := blk_frozen BK280.out 14
                  have hfz51_15 := blk_frozen BK280.out 15
                  have hfz51_16 := blk_frozen BK280.out 16
                  have hfz51_17 := blk_frozen BK280.out 17
                  have hfz51_18 := blk_frozen BK280.out 18
                  have hfz51_19 := blk_frozen BK280.out 19
                  have hfz51_20 := blk_frozen BK280.out 20
                  have hfz51_21 := blk_frozen BK280.out 21
                  have hfz51_22 := blk_frozen BK280.out 22
                  have hcv52 := own_string (P := Try.prog) Try.underlying29 Try.underlying5 Try.underlying9 (Kd.own_of_R HO_5.out)
                  have hcv53 := own_string (P := Try.prog) Try.underlying29 Try.underlying5 Try.underlying9 (Kd.own_of_R HO_7.out)
                  go_wp2_with (first | (refine big_load (g := gb279) (t := 28) (fr := (0, 0)) (n := 23) (cs := ?_) rfl rfl Try.underlying28 (by kernel_rfl) rfl ?lg ?ln ?_; (case lg => (with_reducible repeat (first | refine blk_drewN ?_ _ | refine blk_drew ?_ | refine blk_alloc ?_ _)); exact BK279.out); (case ln => rfl)) | (refine big_load (g := gb280) (t := 28) (fr := (0, 0)) (n := 23) (cs := ?_) rfl rfl Try.underlying28 (by kernel_rfl) rfl ?lg ?ln ?_; (case lg => (with_reducible repeat (first | refine blk_drewN ?_ _ | refine blk_drew ?_ | refine blk_alloc ?_ _)); exact BK280.out); (case ln => rfl)) | (go_at_call 16; (with_reducible refine (carillonlaw06_awake.calls kj4  t293 _ A48.out).mono ?_); rintro e w54 ⟨rfl, hb⟩; have n0_ := Aside0.mk (Kd.R_below (by (with_reducible repeat (first | apply Kd.R_alloc | apply Kd.R_drewN | apply Kd.R_drew)); exact HO_5.out) hb); have n1_ := Aside0.mk (Kd.R_below (by (with_reducible repeat (first | apply Kd.R_alloc | apply Kd.R_drewN | apply Kd.R_drew)); exact HO_7.out) hb); have n2_ := Aside0.mk (blk_below (g := gb279) (o := .cells #[.int .i64 a0_0, .int .i64 a0_1, .int .i64 a0_2, .int .i64 a0_3, .int .u64 a0_4, .int .i64 a0_5, .int .i64 a0_6, .int .i64 a0_7, .int .i64 a0_8, .int .u64 a0_9, .int .i64 a0_10, .int .i64 a0_11, .int .i64 a0_12, .int .i64 a0_13, .int .i64 a0_14, .int .i64 a0_15, .int .i64 a0_16, .int .u64 a0_17, .int .i64 a0_18, .int .i64 a0_19, .int .i64 a0_20, .int .i64 a0_21, .int .i64 a0_22] 28 (0, 0)) (by (with_reducible repeat (first | refine blk_drewN ?_ _ | refine blk_drew ?_ | refine blk_alloc ?_ _)); exact BK279.out) hb); have n3_ := Aside0.mk (blk_below (g := gb280) (o := .cells #[.int .i64 a1_0, .int .i64 a1_1, .int .i64 a1_2, .int .i64 a1_3, .int .u64 a1_4, .int .i64 a1_5, .int .i64 a1_6, .int .i64 a1_7, .int .i64 a1_8, .int .u64 a1_9, .int .i64 a1_10, .int .i64 a1_11, .int .i64 a1_12, .int .i64 a1_13, .int .i64 a1_14, .int .i64 a1_15, .int .i64 a1_16, .int .u64 a1_17, .int .i64 a1_18, .int .i64 a1_19, .int .i64 a1_20, .int .i64 a1_21, .int .i64 a1_22] 28 (0, 0)) (by (with_reducible repeat (first | refine blk_drewN ?_ _ | refine blk_drew ?_ | refine blk_alloc ?_ _)); exact BK280.out) hb); have n4_ := Aside0.mk (below_step (by repeat (first | (with_reducible first | exact HB.out | apply below_alloc | apply pw_below_drewN | apply below_drew1 | refine below_set ?_ GE279.out | refine below_set ?_ GE280.out) | exact HB.out)) hb); clear HO_5; clear HO_7; clear BK279; clear BK280; clear HB; have HO_5 := n0_; have HO_7 := n1_; have BK279 := n2_; have BK280 := n3_; have HB := n4_; clear n0_ n1_ n2_ n3_ n4_; (try clear hb); (try clear hb2); (try clear hk); (try clear hi)))
                  all_goals
                    go_ret
                    exact ⟨by first | exact congrArg (fun b_ => Ending.returned (.bool b_)) hret_.out | rfl | (simp [errW_none, errW_some] <;> rfl) | (simp [*, errW_none, errW_some] <;> rfl), by repeat (first | (with_reducible first | exact HB.out | apply below_alloc | apply pw_below_drewN | apply below_drew1 | refine below_set ?_ GE279.out | refine below_set ?_ GE280.out) | exact HB.out)⟩
                · rw [if_neg c47] at H
                  have c47b0 : (((strOfNums t281).toList == (strOfNums t285).toList) == false) = false := by simpa using c47
                  (try (have c47b1 : decide (((strOfNums t281).toList == (strOfNums t285).toList) = false) = false := by simpa using c47))
                  (try (have c47b2 : (((strOfNums t281).toList == (strOfNums t285).toList) == false) = false := by simpa using c47))
                  (try (have c47b3 : ¬ (((strOfNums t281).toList == (strOfNums t285).toList) = false) := by simpa using c47))
                  clear c47
                  exact absurd H (by simp)
            · rw [if_neg c19] at H
              have c19b0 : (a0_2 == a1_2) = false := beq_eq_false_iff_ne.mpr c19
              have c19b1 : (a0_2 != a1_2) = true := bne_iff_ne.mpr c19
              by_cases c55 : (((strOfNums t281).toList == (strOfNums t285).toList) == false) = true
              · rw [if_pos c55] at H
                have c55b0 : (((strOfNums t281).toList == (strOfNums t285).toList) == false) = true := c55
                (try (have c55b1 : decide (((strOfNums t281).toList == (strOfNums t285).toList) = false) = true := by simpa using c55))
                (try (have c55b2 : (((strOfNums t281).toList == (strOfNums t285).toList) == false) = true := by simpa using c55))
                clear c55
                replace H := Option.bind_eq_some_iff.mp H
                obtain ⟨t294, A560, H⟩ := H
                replace H : (some t294) = some true := H
                have A56 := Aside0.mk A560
                clear A560
                have hret_ := Aside0.mk (Option.some.inj H)
                clear H
                have hnb57 := NB279_280.out
                have hnc57 := NB280_279.out
                have hcz58_0 : wc.cell? ⟨gb279, 0, none⟩ = some (.int .i64 a0_0) := (blk_cell BK279.out 0).trans rfl
                have hcz58_1 : wc.cell? ⟨gb279, 1, none⟩ = some (.int .i64 a0_1) := (blk_cell BK279.out 1).trans rfl
                have hcz58_2 : wc.cell? ⟨gb279, 2, none⟩ = some (.int .i64 a0_2) := (blk_cell BK279.out 2).trans rfl
                have hcz58_3 : wc.cell? ⟨gb279, 3, none⟩ = some (.int .i64 a0_3) := (blk_cell BK279.out 3).trans rfl
                have hcz58_4 : wc.cell? ⟨gb279, 4, none⟩ = some (.int .u64 a0_4) := (blk_cell BK279.out 4).trans rfl
                have hcz58_5 : wc.cell? ⟨gb279, 5, none⟩ = some (.int .i64 a0_5) := (blk_cell BK279.out 5).trans rfl
                have hcz58_6 : wc.cell? ⟨gb279, 6, none⟩ = some (.int .i64 a0_6) := (blk_cell BK279.out 6).trans rfl
                have hcz58_7 : wc.cell? ⟨gb279, 7, none⟩ = some (.int .i64 a0_7) := (blk_cell BK279.out 7).trans rfl
                have hcz58_8 : wc.cell? ⟨gb279, 8, none⟩ = some (.int .i64 a0_8) := (blk_cell BK279.out 8).trans rfl
                have hcz58_9 : wc.cell? ⟨gb279, 9, none⟩ = some (.int .u64 a0_9) := (blk_cell BK279.out 9).trans rfl
                have hcz58_10 : wc.cell? ⟨gb279, 10, none⟩ = some (.int .i64 a0_10) := (blk_cell BK279.out 10).trans rfl
                have hcz58_11 : wc.cell? ⟨gb279, 11, none⟩ = some (.int .i64 a0_11) := (blk_cell BK279.out 11).trans rfl
                have hcz58_12 : wc.cell? ⟨gb279, 12, none⟩ = some (.int .i64 a0_12) := (blk_cell BK279.out 12).trans rfl
                have hcz58_13 : wc.cell? ⟨gb279, 13, none⟩ = some (.int .i64 a0_13) := (blk_cell BK279.out 13).trans rfl
                have hcz58_14 : wc.cell? ⟨gb279, 14, none⟩ = some (.int .i64 a0_14) := (blk_cell BK279.out 14).trans rfl
                have hcz58_15 : wc.cell? ⟨gb279, 15, none⟩ = some (.int .i64 a0_15) := (blk_cell BK279.out 15).trans rfl
                have hcz58_16 : wc.cell? ⟨gb279, 16, none⟩ = some (.int .i64 a0_16) := (blk_cell BK279.out 16).trans rfl
                have hcz58_17 : wc.cell? ⟨gb279, 17, none⟩ = some (.int .u64 a0_17) := (blk_cell BK279.out 17).trans rfl
                have hcz58_18 : wc.cell? ⟨gb279, 18, none⟩ = some (.int .i64 a0_18) := (blk_cell BK279.out 18).trans rfl
                have hcz58_19 : wc.cell? ⟨gb279, 19, none⟩ = some (.int .i64 a0_19) := (blk_cell BK279.out 19).trans rfl
                have hcz58_20 : wc.cell? ⟨gb279, 20, none⟩ = some (.int .i64 a0_20) := (blk_cell BK279.out 20).trans rfl
                have hcz58_21 : wc.cell? ⟨gb279, 21, none⟩ = some (.int .i64 a0_21) := (blk_cell BK279.out 21).trans rfl
                have hcz58_22 : wc.cell? ⟨gb279, 22, none⟩ = some (.int .i64 a0_22) := (blk_cell BK279.out 22).trans rfl
                have hfz58_0 := blk_frozen BK279.out 0
                have hfz58_1 := blk_frozen BK279.out 1
                have hfz58_2 := blk_frozen BK279.out 2
                have hfz58_3 := blk_frozen BK279.out 3
                have hfz58_4 := blk_frozen BK279.out 4
                have hfz58_5 := blk_frozen BK279.out 5
                have hfz58_6 := blk_frozen BK279.out 6
                have hfz58_7 := blk_frozen BK279.out 7
                have hfz58_8 := blk_frozen BK279.out 8
                have hfz58_9 := blk_frozen BK279.out 9
                have hfz58_10 := blk_frozen BK279.out 10
                have hfz58_11 := blk_frozen BK279.out 11
                have hfz58_12 := blk_frozen BK279.out 12
                have hfz58_13 := blk_frozen BK279.out 13
                have hfz58_14 := blk_frozen BK279.out 14
                have hfz58_15 := blk_frozen BK279.out 15
                have hfz58_16 := blk_frozen BK279.out 16
                have hfz58_17 := blk_frozen BK279.out 17
                have hfz58_18 := blk_frozen BK279.out 18
                have hfz58_19 := blk_frozen BK279.out 19
                have hfz58_20 := blk_frozen BK279.out 20
                have hfz58_21 := blk_frozen BK279.out 21
                have hfz58_22 := blk_frozen BK279.out 22
                have hcz59_0 : wc.cell? ⟨gb280, 0, none⟩ = some (.int .i64 a1_0) := (blk_cell BK280.out 0).trans rfl
                have hcz59_1 : wc.cell? ⟨gb280, 1, none⟩ = some (.int .i64 a1_1) := (blk_cell BK280.out 1).trans rfl
                have hcz59_2 : wc.cell? ⟨gb280, 2, none⟩ = some (.int .i64 a1_2) := (blk_cell BK280.out 2).trans rfl
                have hcz59_3 : wc.cell? ⟨gb280, 3, none⟩ = some (.int .i64 a1_3) := (blk_cell BK280.out 3).trans rfl
                have hcz59_4 : wc.cell? ⟨gb280, 4, none⟩ = some (.int .u64 a1_4) := (blk_cell BK280.out 4).trans rfl
                have hcz59_5 : wc.cell? ⟨gb280, 5, none⟩ = some (.int .i64 a1_5) := (blk_cell BK280.out 5).trans rfl
                have hcz59_6 : wc.cell? ⟨gb280, 6, none⟩ = some (.int .i64 a1_6) := (blk_cell BK280.out 6).trans rfl
                have hcz59_7 : wc.cell? ⟨gb280, 7, none⟩ = some (.int .i64 a1_7) := (blk_cell BK280.out 7).trans rfl
                have hcz59_8 : wc.cell? ⟨gb280, 8, none⟩ = some (.int .i64 a1_8) := (blk_cell BK280.out 8).trans rfl
                have hcz59_9 : wc.cell? ⟨gb280, 9, none⟩ = some (.int .u64 a1_9) := (blk_cell BK280.out 9).trans rfl
                have hcz59_10 : wc.cell? ⟨gb280, 10, none⟩ = some (.int .i64 a1_10) := (blk_cell BK280.out 10).trans rfl
                have hcz59_11 : wc.cell? ⟨gb280, 11, none⟩ = some (.int .i64 a1_11) := (blk_cell BK280.out 11).trans rfl
                have hcz59_12 : wc.cell? ⟨gb280, 12, none⟩ = some (.int .i64 a1_12) := (blk_cell BK280.out 12).trans rfl
                have hcz59_13 : wc.cell? ⟨gb280, 13, none⟩ = some (.int .i64 a1_13) := (blk_cell BK280.out 13).trans rfl
                have hcz59_14 : wc.cell? ⟨gb280, 14, none⟩ = some (.int .i64 a1_14) := (blk_cell BK280.out 14).trans rfl
                have hcz59_15 : wc.cell? ⟨gb280, 15, none⟩ = some (.int .i64 a1_15) := (blk_cell BK280.out 15).trans rfl
                have hcz59_16 : wc.cell? ⟨gb280, 16, none⟩ = some (.int .i64 a1_16) := (blk_cell BK280.out 16).trans rfl
                have hcz59_17 : wc.cell? ⟨gb280, 17, none⟩ = some (.int .u64 a1_17) := (blk_cell BK280.out 17).trans rfl
                have hcz59_18 : wc.cell? ⟨gb280, 18, none⟩ = some (.int .i64 a1_18) := (blk_cell BK280.out 18).trans rfl
                have hcz59_19 : wc.cell? ⟨gb280, 19, none⟩ = some (.int .i64 a1_19) := (blk_cell BK280.out 19).trans rfl
                have hcz59_20 : wc.cell? ⟨gb280, 20, none⟩ = some (.int .i64 a1_20) := (blk_cell BK280.out 20).trans rfl
                have hcz59_21 : wc.cell? ⟨gb280, 21, none⟩ = some (.int .i64 a1_21) := (blk_cell BK280.out 21).trans rfl
                have hcz59_22 : wc.cell? ⟨gb280, 22, none⟩ = some (.int .i64 a1_22) := (blk_cell BK280.out 22).trans rfl
                have hfz59_0 := blk_frozen BK280.out 0
                have hfz59_1 := blk_frozen BK280.out 1
                have hfz59_2 := blk_frozen BK280.out 2
                have hfz59_3 := blk_frozen BK280.out 3
                have hfz59_4 := blk_frozen BK280.out 4
                have hfz59_5 := blk_frozen BK280.out 5
                have hfz59_6 := blk_frozen BK280.out 6
                have hfz59_7 := blk_frozen BK280.out 7
                have hfz59_8 := blk_frozen BK280.out 8
                have hfz59_9 := blk_frozen BK280.out 9
                have hfz59_10 := blk_frozen BK280.out 10
                have hfz59_11 := blk_frozen BK280.out 11
                have hfz59_12 := blk_frozen BK280.out 12
                have hfz59_13 := blk_frozen BK280.out 13
                have hfz59_14 := blk_frozen BK280.out 14
                have hfz59_15 := blk_frozen BK280.out 15
                have hfz59_16 := blk_frozen BK280.out 16
                have hfz59_17 := blk_frozen BK280.out 17
                have hfz59_18 := blk_frozen BK280.out 18
                have hfz59_19 := blk_frozen BK280.out 19
                have hfz59_20 := blk_frozen BK280.out 20
                have hfz59_21 := blk_frozen BK280.out 21
                have hfz59_22 := blk_frozen BK280.out 22
                have hcv60 := own_string (P := Try.prog) Try.underlying29 Try.underlying5 Try.underlying9 (Kd.own_of_R HO_5.out)
                have hcv61 := own_string (P := Try.prog) Try.underlying29 Try.underlying5 Try.underlying9 (Kd.own_of_R HO_7.out)
                go_wp2_with (first | (refine big_load (g := gb279) (t := 28) (fr := (0, 0)) (n := 23) (cs := ?_) rfl rfl Try.underlying28 (by kernel_rfl) rfl ?lg ?ln ?_; (case lg => (with_reducible repeat (first | refine blk_drewN ?_ _ | refine blk_drew ?_ | refine blk_alloc ?_ _)); exact BK279.out); (case ln => rfl)) | (refine big_load (g := gb280) (t := 28) (fr := (0, 0)) (n := 23) (cs := ?_) rfl rfl Try.underlying28 (by kernel_rfl) rfl ?lg ?ln ?_; (case lg => (with_reducible repeat (first | refine blk_drewN ?_ _ | refine blk_drew ?_ | refine blk_alloc ?_ _)); exact BK280.out); (case ln => rfl)) | (go_at_call 16; (with_reducible refine (carillonlaw06_awake.calls kj4  t294 _ A56.out).mono ?_); rintro e w62 ⟨rfl, hb⟩; have n0_ := Aside0.mk (Kd.R_below (by (with_reducible repeat (first | apply Kd.R_alloc | apply Kd.R_drewN | apply Kd.R_drew)); exact HO_5.out) hb); have n1_ := Aside0.mk (Kd.R_below (by (with_reducible repeat (first | apply Kd.R_alloc | apply Kd.R_drewN | apply Kd.R_drew)); exact HO_7.out) hb); have n2_ := Aside0.mk (blk_below (g := gb279) (o := .cells #[.int .i64 a0_0, .int .i64 a0_1, .int .i64 a0_2, .int .i64 a0_3, .int .u64 a0_4, .int .i64 a0_5, .int .i64 a0_6, .int .i64 a0_7, .int .i64 a0_8, .int .u64 a0_9, .int .i64 a0_10, .int .i64 a0_11, .int .i64 a0_12, .int .i64 a0_13, .int .i64 a0_14, .int .i64 a0_15, .int .i64 a0_16, .int .u64 a0_17, .int .i64 a0_18, .int .i64 a0_19, .int .i64 a0_20, .int .i64 a0_21, .int .i64 a0_22] 28 (0, 0)) (by (with_reducible repeat (first | refine blk_drewN ?_ _ | refine blk_drew ?_ | refine blk_alloc ?_ _)); exact BK279.out) hb); have n3_ := Aside0.mk (blk_below (g := gb280) (o := .cells #[.int .i64 a1_0, .int .i64 a1_1, .int .i64 a1_2, .int .i64 a1_3, .int .u64 a1_4, .int .i64 a1_5, .int .i64 a1_6, .int .i64 a1_7, .int .i64 a1_8, .int .u64 a1_9, .int .i64 a1_10, .int .i64 a1_11, .int .i64 a1_12, .int .i64 a1_13, .int .i64 a1_14, .int .i64 a1_15, .int .i64 a1_16, .int .u64 a1_17, .int .i64 a1_18, .int .i64 a1_19, .int .i64 a1_20, .int .i64 a1_21, .int .i64 a1_22] 28 (0, 0)) (by (with_reducible repeat (first | refine blk_drewN ?_ _ | refine blk_drew ?_ | refine blk_alloc ?_ _)); exact BK280.out) hb); have n4_ := Aside0.mk (below_step (by repeat (first | (with_reducible first | exact HB.out | apply below_alloc | apply pw_below_drewN | apply below_drew1 | refine below_set ?_ GE279.out | refine below_set ?_ GE280.out) | exact HB.out)) hb); clear HO_5; clear HO_7; clear BK279; clear BK280; clear HB; have HO_5 := n0_; have HO_7 := n1_; have BK279 := n2_; have BK280 := n3_; have HB := n4_; clear n0_ n1_ n2_ n3_ n4_; (try clear hb); (try clear hb2); (try clear hk); (try clear hi)))
                all_goals
                  go_ret
                  exact ⟨by first | exact congrArg (fun b_ => Ending.returned (.bool b_)) hret_.out | rfl | (simp [errW_none, errW_some] <;> rfl) | (simp [*, errW_none, errW_some] <;> rfl), by repeat (first | (with_reducible first | exact HB.out | apply below_alloc | apply pw_below_drewN | apply below_drew1 | refine below_set ?_ GE279.out | refine below_set ?_ GE280.out) | exact HB.out)⟩
              · rw [if_neg c55] at H
                have c55b0 : (((strOfNums t281).toList == (strOfNums t285).toList) == false) = false := by simpa using c55
                (try (have c55b1 : decide (((strOfNums t281).toList == (strOfNums t285).toList) = false) = false := by simpa using c55))
                (try (have c55b2 : (((strOfNums t281).toList == (strOfNums t285).toList) == false) = false := by simpa using c55))
                (try (have c55b3 : ¬ (((strOfNums t281).toList == (strOfNums t285).toList) = false) := by simpa using c55))
                clear c55
                exact absurd H (by simp)
          · rw [if_neg c18] at H
            have c18b0 : (a0_1 == a1_1) = false := beq_eq_false_iff_ne.mpr c18
            have c18b1 : (a0_1 != a1_1) = true := bne_iff_ne.mpr c18
            by_cases c63 : (((strOfNums t281).toList == (strOfNums t285).toList) == false) = true
            · rw [if_pos c63] at H
              have c63b0 : (((strOfNums t281).toList == (strOfNums t285).toList) == false) = true := c63
              (try (have c63b1 : decide (((strOfNums t281).toList == (strOfNums t285).toList) = false) = true := by simpa using c63))
              (try (have c63b2 : (((strOfNums t281).toList == (strOfNums t285).toList) == false) = true := by simpa using c63))
              clear c63
              replace H := Option.bind_eq_some_iff.mp H
              obtain ⟨t295, A640, H⟩ := H
              replace H : (some t295) = some true := H
              have A64 := Aside0.mk A640
              clear A640
              have hret_ := Aside0.mk (Option.some.inj H)
              clear H
              have hnb65 := NB279_280.out
              have hnc65 := NB280_279.out
              have hcz66_0 : wc.cell? ⟨gb279, 0, none⟩ = some (.int .i64 a0_0) := (blk_cell BK279.out 0).trans rfl
              have hcz66_1 : wc.cell? ⟨gb279, 1, none⟩ = some (.int .i64 a0_1) := (blk_cell BK279.out 1).trans rfl
              have hcz66_2 : wc.cell? ⟨gb279, 2, none⟩ = some (.int .i64 a0_2) := (blk_cell BK279.out 2).trans rfl
              have hcz66_3 : wc.cell? ⟨gb279, 3, none⟩ = some (.int .i64 a0_3) := (blk_cell BK279.out 3).trans rfl
              have hcz66_4 : wc.cell? ⟨gb279, 4, none⟩ = some (.int .u64 a0_4) := (blk_cell BK279.out 4).trans rfl
              have hcz66_5 : wc.cell? ⟨gb279, 5, none⟩ = some (.int .i64 a0_5) := (blk_cell BK279.out 5).trans rfl
              have hcz66_6 : wc.cell? ⟨gb279, 6, none⟩ = some (.int .i64 a0_6) := (blk_cell BK279.out 6).trans rfl
              have hcz66_7 : wc.cell? ⟨gb279, 7, none⟩ = some (.int .i64 a0_7) := (blk_cell BK279.out 7).trans rfl
              have hcz66_8 : wc.cell? ⟨gb279, 8, none⟩ = some (.int .i64 a0_8) := (blk_cell BK279.out 8).trans rfl
              have hcz66_9 : wc.cell? ⟨gb279, 9, none⟩ = some (.int .u64 a0_9) := (blk_cell BK279.out 9).trans rfl
              have hcz66_10 : wc.cell? ⟨gb279, 10, none⟩ = some (.int .i64 a0_10) := (blk_cell BK279.out 10).trans rfl
              have hcz66_11 : wc.cell? ⟨gb279, 11, none⟩ = some (.int .i64 a0_11) := (blk_cell BK279.out 11).trans rfl
              have hcz66_12 : wc.cell? ⟨gb279, 12, none⟩ = some (.int .i64 a0_12) := (blk_cell BK279.out 12).trans rfl
              have hcz66_13 : wc.cell? ⟨gb279, 13, none⟩ = some (.int .i64 a0_13) := (blk_cell BK279.out 13).trans rfl
              have hcz66_14 : wc.cell? ⟨gb279, 14, none⟩ = some (.int .i64 a0_14) := (blk_cell BK279.out 14).trans rfl
              have hcz66_15 : wc.cell? ⟨gb279, 15, none⟩ = some (.int .i64 a0_15) := (blk_cell BK279.out 15).trans rfl
              have hcz66_16 : wc.cell? ⟨gb279, 16, none⟩ = some (.int .i64 a0_16) := (blk_cell BK279.out 16).trans rfl
              have hcz66_17 : wc.cell? ⟨gb279, 17, none⟩ = some (.int .u64 a0_17) := (blk_cell BK279.out 17).trans rfl
              have hcz66_18 : wc.cell? ⟨gb279, 18, none⟩ = some (.int .i64 a0_18) := (blk_cell BK279.out 18).trans rfl
              have hcz66_19 : wc.cell? ⟨gb279, 19, none⟩ = some (.int .i64 a0_19) := (blk_cell BK279.out 19).trans rfl
              have hcz66_20 : wc.cell? ⟨gb279, 20, none⟩ = some (.int .i64 a0_20) := (blk_cell BK279.out 20).trans rfl
              have hcz66_21 : wc.cell? ⟨gb279, 21, none⟩ = some (.int .i64 a0_21) := (blk_cell BK279.out 21).trans rfl
              have hcz66_22 : wc.cell? ⟨gb279, 22, none⟩ = some (.int .i64 a0_22) := (blk_cell BK279.out 22).trans rfl
              have hfz66_0 := blk_frozen BK279.out 0
              have hfz66_1 := blk_frozen BK279.out 1
              have hfz66_2 := blk_frozen BK279.out 2
              have hfz66_3 := blk_frozen BK279.out 3
              have hfz66_4 := blk_frozen BK279.out 4
              have hfz66_5 := blk_frozen BK279.out 5
              have hfz66_6 := blk_frozen BK279.out 6
              have hfz66_7 := blk_frozen BK279.out 7
              have hfz66_8 := blk_frozen BK279.out 8
              have hfz66_9 := blk_frozen BK279.out 9
              have hfz66_10 := blk_frozen BK279.out 10
              have hfz66_11 := blk_frozen BK279.out 11
              have hfz66_12 := blk_frozen BK279.out 12
              have hfz66_13 := blk_frozen BK279.out 13
              have hfz66_14 := blk_frozen BK279.out 14
              have hfz66_15 := blk_frozen BK279.out 15
              have hfz66_16 := blk_frozen BK279.out 16
              have hfz66_17 := blk_frozen BK279.out 17
              have hfz66_18 := blk_frozen BK279.out 18
              have hfz66_19 := blk_frozen BK279.out 19
              have hfz66_20 := blk_frozen BK279.out 20
              have hfz66_21 := blk_frozen BK279.out 21
              have hfz66_22 := blk_frozen BK279.out 22
              have hcz67_0 : wc.cell? ⟨gb280, 0, none⟩ = some (.int .i64 a1_0) := (blk_cell BK280.out 0).trans rfl
              have hcz67_1 : wc.cell? ⟨gb280, 1, none⟩ = some (.int .i64 a1_1) := (blk_cell BK280.out 1).trans rfl
              have hcz67_2 : wc.cell? ⟨gb280, 2, none⟩ = some (.int .i64 a1_2) := (blk_cell BK280.out 2).trans rfl
              have hcz67_3 : wc.cell? ⟨gb280, 3, none⟩ = some (.int .i64 a1_3) := (blk_cell BK280.out 3).trans rfl
              have hcz67_4 : wc.cell? ⟨gb280, 4, none⟩ = some (.int .u64 a1_4) := (blk_cell BK280.out 4).trans rfl
              have hcz67_5 : wc.cell? ⟨gb280, 5, none⟩ = some (.int .i64 a1_5) := (blk_cell BK280.out 5).trans rfl
              have hcz67_6 : wc.cell? ⟨gb280, 6, none⟩ = some (.int .i64 a1_6) := (blk_cell BK280.out 6).trans rfl
              have hcz67_7 : wc.cell? ⟨gb280, 7, none⟩ = some (.int .i64 a1_7) := (blk_cell BK280.out 7).trans rfl
              have hcz67_8 : wc.cell? ⟨gb280, 8, none⟩ = some (.int .i64 a1_8) := (blk_cell BK280.out 8).trans rfl
              have hcz67_9 : wc.cell? ⟨gb280, 9, none⟩ = some (.int .u64 a1_9) := (blk_cell BK280.out 9).trans rfl
              have hcz67_10 : wc.cell? ⟨gb280, 10, none⟩ = some (.int .i64 a1_10) := (blk_cell BK280.out 10).trans rfl
              have hcz67_11 : wc.cell? ⟨gb280, 11, none⟩ = some (.int .i64 a1_11) := (blk_cell BK280.out 11).trans rfl
              have hcz67_12 : wc.cell? ⟨gb280, 12, none⟩ = some (.int .i64 a1_12) := (blk_cell BK280.out 12).trans rfl
              have hcz67_13 : wc.cell? ⟨gb280, 13, none⟩ = some (.int .i64 a1_13) := (blk_cell BK280.out 13).trans rfl
              have hcz67_14 : wc.cell? ⟨gb280, 14, none⟩ = some (.int .i64 a1_14) := (blk_cell BK280.out 14).trans rfl
              have hcz67_15 : wc.cell? ⟨gb280, 15, none⟩ = some (.int .i64 a1_15) := (blk_cell BK280.out 15).trans rfl
              have hcz67_16 : wc.cell? ⟨gb280, 16, none⟩ = some (.int .i64 a1_16) := (blk_cell BK280.out 16).trans rfl
              have hcz67_17 : wc.cell? ⟨gb280, 17, none⟩ = some (.int .u64 a1_17) := (blk_cell BK280.out 17).trans rfl
              have hcz67_18 : wc.cell? ⟨gb280, 18, none⟩ = some (.int .i64 a1_18) := (blk_cell BK280.out 18).trans rfl
              have hcz67_19 : wc.cell? ⟨gb280, 19, none⟩ = some (.int .i64 a1_19) := (blk_cell BK280.out 19).trans rfl
              have hcz67_20 : wc.cell? ⟨gb280, 20, none⟩ = some (.int .i64 a1_20) := (blk_cell BK280.out 20).trans rfl
              have hcz67_21 : wc.cell? ⟨gb280, 21, none⟩ = some (.int .i64 a1_21) := (blk_cell BK280.out 21).trans rfl
              have hcz67_22 : wc.cell? ⟨gb280, 22, none⟩ = some (.int .i64 a1_22) := (blk_cell BK280.out 22).trans rfl
              have hfz67_0 := blk_frozen BK280.out 0
              have hfz67_1 := blk_frozen BK280.out 1
              have hfz67_2 := blk_frozen BK280.out 2
              have hfz67_3 := blk_frozen BK280.out 3
              have hfz67_4 := blk_frozen BK280.out 4
              have hfz67_5 := blk_frozen BK280.out 5
              have hfz67_6 := blk_frozen BK280.out 6
              have hfz67_7 := blk_frozen BK280.out 7
              have hfz67_8 := blk_frozen BK280.out 8
              have hfz67_9 := blk_frozen BK280.out 9
              have hfz67_10 := blk_frozen BK280.out 10
              have hfz67_11 := blk_frozen BK280.out 11
              have hfz67_12 := blk_frozen BK280.out 12
              have hfz67_13 := blk_frozen BK280.out 13
              have hfz67_14 := blk_frozen BK280.out 14
              have hfz67_15 := blk_frozen BK280.out 15
              have hfz67_16 := blk_frozen BK280.out 16
              have hfz67_17 := blk_frozen BK280.out 17
              have hfz67_18 := blk_frozen BK280.out 18
              have hfz67_19 := blk_frozen BK280.out 19
              have hfz67_20 := blk_frozen BK280.out 20
              have hfz67_21 := blk_frozen BK280.out 21
              have hfz67_22 := blk_frozen BK280.out 22
              have hcv68 := own_string (P := Try.prog) Try.underlying29 Try.underlying5 Try.underlying9 (Kd.own_of_R HO_5.out)
              have hcv69 := own_string (P := Try.prog) Try.underlying29 Try.underlying5 Try.underlying9 (Kd.own_of_R HO_7.out)
              go_wp2_with (first | (refine big_load (g := gb279) (t := 28) (fr := (0, 0)) (n := 23) (cs := ?_) rfl rfl Try.underlying28 (by kernel_rfl) rfl ?lg ?ln ?_; (case lg => (with_reducible repeat (first | refine blk_drewN ?_ _ | refine blk_drew ?_ | refine blk_alloc ?_ _)); exact BK279.out); (case ln => rfl)) | (refine big_load (g := gb280) (t := 28) (fr := (0, 0)) (n := 23) (cs := ?_) rfl rfl Try.underlying28 (by kernel_rfl) rfl ?lg ?ln ?_; (case lg => (with_reducible repeat (first | refine blk_drewN ?_ _ | refine blk_drew ?_ | refine blk_alloc ?_ _)); exact BK280.out); (case ln => rfl)) | (go_at_call 16; (with_reducible refine (carillonlaw06_awake.calls kj4  t295 _ A64.out).mono ?_); rintro e w70 ⟨rfl, hb⟩; have n0_ := Aside0.mk (Kd.R_below (by (with_reducible repeat (first | apply Kd.R_alloc | apply Kd.R_drewN | apply Kd.R_drew)); exact HO_5.out) hb); have n1_ := Aside0.mk (Kd.R_below (by (with_reducible repeat (first | apply Kd.R_alloc | apply Kd.R_drewN | apply Kd.R_drew)); exact HO_7.out) hb); have n2_ := Aside0.mk (blk_below (g := gb279) (o := .cells #[.int .i64 a0_0, .int .i64 a0_1, .int .i64 a0_2, .int .i64 a0_3, .int .u64 a0_4, .int .i64 a0_5, .int .i64 a0_6, .int .i64 a0_7, .int .i64 a0_8, .int .u64 a0_9, .int .i64 a0_10, .int .i64 a0_11, .int .i64 a0_12, .int .i64 a0_13, .int .i64 a0_14, .int .i64 a0_15, .int .i64 a0_16, .int .u64 a0_17, .int .i64 a0_18, .int .i64 a0_19, .int .i64 a0_20, .int .i64 a0_21, .int .i64 a0_22] 28 (0, 0)) (by (with_reducible repeat (first | refine blk_drewN ?_ _ | refine blk_drew ?_ | refine blk_alloc ?_ _)); exact BK279.out) hb); have n3_ := Aside0.mk (blk_below (g := gb280) (o := .cells #[.int .i64 a1_0, .int .i64 a1_1, .int .i64 a1_2, .int .i64 a1_3, .int .u64 a1_4, .int .i64 a1_5, .int .i64 a1_6, .int .i64 a1_7, .int .i64 a1_8, .int .u64 a1_9, .int .i64 a1_10, .int .i64 a1_11, .int .i64 a1_12, .int .i64 a1_13, .int .i64 a1_14, .int .i64 a1_15, .int .i64 a1_16, .int .u64 a1_17, .int .i64 a1_18, .int .i64 a1_19, .int .i64 a1_20, .int .i64 a1_21, .int .i64 a1_22] 28 (0, 0)) (by (with_reducible repeat (first | refine blk_drewN ?_ _ | refine blk_drew ?_ | refine blk_alloc ?_ _)); exact BK280.out) hb); have n4_ := Aside0.mk (below_step (by repeat (first | (with_reducible first | exact HB.out | apply below_alloc | apply pw_below_drewN | apply below_drew1 | refine below_set ?_ GE279.out | refine below_set ?_ GE280.out) | exact HB.out)) hb); clear HO_5; clear HO_7; clear BK279; clear BK280; clear HB; have HO_5 := n0_; have HO_7 := n1_; have BK279 := n2_; have BK280 := n3_; have HB := n4_; clear n0_ n1_ n2_ n3_ n4_; (try clear hb); (try clear hb2); (try clear hk); (try clear hi)))
              all_goals
                go_ret
                exact ⟨by first | exact congrArg (fun b_ => Ending.returned (.bool b_)) hret_.out | rfl | (simp [errW_none, errW_some] <;> rfl) | (simp [*, errW_none, errW_some] <;> rfl), by repeat (first | (with_reducible first | exact HB.out | apply below_alloc | apply pw_below_drewN | apply below_drew1 | refine below_set ?_ GE279.out | refine below_set ?_ GE280.out) | exact HB.out)⟩
            · rw [if_neg c63] at H
              have c63b0 : (((strOfNums t281).toList == (strOfNums t285).toList) == false) = false := by simpa using c63
              (try (have c63b1 : decide (((strOfNums t281).toList == (strOfNums t285).toList) = false) = false := by simpa using c63))
              (try (have c63b2 : (((strOfNums t281).toList == (strOfNums t285).toList) == false) = false := by simpa using c63))
              (try (have c63b3 : ¬ (((strOfNums t281).toList == (strOfNums t285).toList) = false) := by simpa using c63))
              clear c63
              exact absurd H (by simp)
        · rw [if_neg c17] at H
          have c17b0 : (a0_0 == a1_0) = false := beq_eq_false_iff_ne.mpr c17
          have c17b1 : (a0_0 != a1_0) = true := bne_iff_ne.mpr c17
          by_cases c71 : (((strOfNums t281).toList == (strOfNums t285).toList) == false) = true
          · rw [if_pos c71] at H
            have c71b0 : (((strOfNums t281).toList == (strOfNums t285).toList) == false) = true := c71
            (try (have c71b1 : decide (((strOfNums t281).toList == (strOfNums t285).toList) = false) = true := by simpa using c71))
            (try (have c71b2 : (((strOfNums t281).toList == (strOfNums t285).toList) == false) = true := by simpa using c71))
            clear c71
            replace H := Option.bind_eq_some_iff.mp H
            obtain ⟨t296, A720, H⟩ := H
            replace H : (some t296) = some true := H
            have A72 := Aside0.mk A720
            clear A720
            have hret_ := Aside0.mk (Option.some.inj H)
            clear H
            have hnb73 := NB279_280.out
            have hnc73 := NB280_279.out
            have hcz74_0 : wc.cell? ⟨gb279, 0, none⟩ = some (.int .i64 a0_0) := (blk_cell BK279.out 0).trans rfl
            have hcz74_1 : wc.cell? ⟨gb279, 1, none⟩ = some (.int .i64 a0_1) := (blk_cell BK279.out 1).trans rfl
            have hcz74_2 : wc.cell? ⟨gb279, 2, none⟩ = some (.int .i64 a0_2) := (blk_cell BK279.out 2).trans rfl
            have hcz74_3 : wc.cell? ⟨gb279, 3, none⟩ = some (.int .i64 a0_3) := (blk_cell BK279.out 3).trans rfl
            have hcz74_4 : wc.cell? ⟨gb279, 4, none⟩ = some (.int .u64 a0_4) := (blk_cell BK279.out 4).trans rfl
            have hcz74_5 : wc.cell? ⟨gb279, 5, none⟩ = some (.int .i64 a0_5) := (blk_cell BK279.out 5).trans rfl
            have hcz74_6 : wc.cell? ⟨gb279, 6, none⟩ = some (.int .i64 a0_6) := (blk_cell BK279.out 6).trans rfl
            have hcz74_7 : wc.cell? ⟨gb279, 7, none⟩ = some (.int .i64 a0_7) := (blk_cell BK279.out 7).trans rfl
            have hcz74_8 : wc.cell? ⟨gb279, 8, none⟩ = some (.int .i64 a0_8) := (blk_cell BK279.out 8).trans rfl
            have hcz74_9 : wc.cell? ⟨gb279, 9, none⟩ = some (.int .u64 a0_9) := (blk_cell BK279.out 9).trans rfl
            have hcz74_10 : wc.cell? ⟨gb279, 10, none⟩ = some (.int .i64 a0_10) := (blk_cell BK279.out 10).trans rfl
            have hcz74_11 : wc.cell? ⟨gb279, 11, none⟩ = some (.int .i64 a0_11) := (blk_cell BK279.out 11).trans rfl
            have hcz74_12 : wc.cell? ⟨gb279, 12, none⟩ = some (.int .i64 a0_12) := (blk_cell BK279.out 12).trans rfl
            have hcz74_13 : wc.cell? ⟨gb279, 13, none⟩ = some (.int .i64 a0_13) := (blk_cell BK279.out 13).trans rfl
            have hcz74_14 : wc.cell? ⟨gb279, 14, none⟩ = some (.int .i64 a0_14) := (blk_cell BK279.out 14).trans rfl
            have hcz74_15 : wc.cell? ⟨gb279, 15, none⟩ = some (.int .i64 a0_15) := (blk_cell BK279.out 15).trans rfl
            have hcz74_16 : wc.cell? ⟨gb279, 16, none⟩ = some (.int .i64 a0_16) := (blk_cell BK279.out 16).trans rfl
            have hcz74_17 : wc.cell? ⟨gb279, 17, none⟩ = some (.int .u64 a0_17) := (blk_cell BK279.out 17).trans rfl
            have hcz74_18 : wc.cell? ⟨gb279, 18, none⟩ = some (.int .i64 a0_18) := (blk_cell BK279.out 18).trans rfl
            have hcz74_19 : wc.cell? ⟨gb279, 19, none⟩ = some (.int .i64 a0_19) := (blk_cell BK279.out 19).trans rfl
            have hcz74_20 : wc.cell? ⟨gb279, 20, none⟩ = some (.int .i64 a0_20) := (blk_cell BK279.out 20).trans rfl
            have hcz74_21 : wc.cell? ⟨gb279, 21, none⟩ = some (.int .i64 a0_21) := (blk_cell BK279.out 21).trans rfl
            have hcz74_22 : wc.cell? ⟨gb279, 22, none⟩ = some (.int .i64 a0_22) := (blk_cell BK279.out 22).trans rfl
            have hfz74_0 := blk_frozen BK279.out 0
            have hfz74_1 := blk_frozen BK279.out 1
            have hfz74_2 := blk_frozen BK279.out 2
            have hfz74_3 := blk_frozen BK279.out 3
            have hfz74_4 := blk_frozen BK279.out 4
            have hfz74_5 := blk_frozen BK279.out 5
            have hfz74_6 := blk_frozen BK279.out 6
            have hfz74_7 := blk_frozen BK279.out 7
            have hfz74_8 := blk_frozen BK279.out 8
            have hfz74_9 := blk_frozen BK279.out 9
            have hfz74_10 := blk_frozen BK279.out 10
            have hfz74_11 := blk_frozen BK279.out 11
            have hfz74_12 := blk_frozen BK279.out 12
            have hfz74_13 := blk_frozen BK279.out 13
            have hfz74_14 := blk_frozen BK279.out 14
            have hfz74_15 := blk_frozen BK279.out 15
            have hfz74_16 := blk_frozen BK279.out 16
            have hfz74_17 := blk_frozen BK279.out 17
            have hfz74_18 := blk_frozen BK279.out 18
            have hfz74_19 := blk_frozen BK279.out 19
            have hfz74_20 := blk_frozen BK279.out 20
            have hfz74_21 := blk_frozen BK279.out 21
            have hfz74_22 := blk_frozen BK279.out 22
            have hcz75_0 : wc.cell? ⟨gb280, 0, none⟩ = some (.int .i64 a1_0) := (blk_cell BK280.out 0).trans rfl
            have hcz75_1 : wc.cell? ⟨gb280, 1, none⟩ = some (.int .i64 a1_1) := (blk_cell BK280.out 1).trans rfl
            have hcz75_2 : wc.cell? ⟨gb280, 2, none⟩ = some (.int .i64 a1_2) := (blk_cell BK280.out 2).trans rfl
            have hcz75_3 : wc.cell? ⟨gb280, 3, none⟩ = some (.int .i64 a1_3) := (blk_cell BK280.out 3).trans rfl
            have hcz75_4 : wc.cell? ⟨gb280, 4, none⟩ = some (.int .u64 a1_4) := (blk_cell BK280.out 4).trans rfl
            have hcz75_5 : wc.cell? ⟨gb280, 5, none⟩ = some (.int .i64 a1_5) := (blk_cell BK280.out 5).trans rfl
            have hcz75_6 : wc.cell? ⟨gb280, 6, none⟩ = some (.int .i64 a1_6) := (blk_cell BK280.out 6).trans rfl
            have hcz75_7 : wc.cell? ⟨gb280, 7, none⟩ = some (.int .i64 a1_7) := (blk_cell BK280.out 7).trans rfl
            have hcz75_8 : wc.cell? ⟨gb280, 8, none⟩ = some (.int .i64 a1_8) := (blk_cell BK280.out 8).trans rfl
            have hcz75_9 : wc.cell? ⟨gb280, 9, none⟩ = some (.int .u64 a1_9) := (blk_cell BK280.out 9).trans rfl
            have hcz75_10 : wc.cell? ⟨gb280, 10, none⟩ = some (.int .i64 a1_10) := (blk_cell BK280.out 10).trans rfl
            have hcz75_11 : wc.cell? ⟨gb280, 11, none⟩ = some (.int .i64 a1_11) := (blk_cell BK280.out 11).trans rfl
            have hcz75_12 : wc.cell? ⟨gb280, 12, none⟩ = some (.int .i64 a1_12) := (blk_cell BK280.out 12).trans rfl
            have hcz75_13 : wc.cell? ⟨gb280, 13, none⟩ = some (.int .i64 a1_13) := (blk_cell BK280.out 13).trans rfl
            have hcz75_14 : wc.cell? ⟨gb280, 14, none⟩ = some (.int .i64 a1_14) := (blk_cell BK280.out 14).trans rfl
            have hcz75_15 : wc.cell? ⟨gb280, 15, none⟩ = some (.int .i64 a1_15) := (blk_cell BK280.out 15).trans rfl
            have hcz75_16 : wc.cell? ⟨gb280, 16, none⟩ = some (.int .i64 a1_16) := (blk_cell BK280.out 16).trans rfl
            have hcz75_17 : wc.cell? ⟨gb280, 17, none⟩ = some (.int .u64 a1_17) := (blk_cell BK280.out 17).trans rfl
            have hcz75_18 : wc.cell? ⟨gb280, 18, none⟩ = some (.int .i64 a1_18) := (blk_cell BK280.out 18).trans rfl
            have hcz75_19 : wc.cell? ⟨gb280, 19, none⟩ = some (.int .i64 a1_19) := (blk_cell BK280.out 19).trans rfl
            have hcz75_20 : wc.cell? ⟨gb280, 20, none⟩ = some (.int .i64 a1_20) := (blk_cell BK280.out 20).trans rfl
            have hcz75_21 : wc.cell? ⟨gb280, 21, none⟩ = some (.int .i64 a1_21) := (blk_cell BK280.out 21).trans rfl
            have hcz75_22 : wc.cell? ⟨gb280, 22, none⟩ = some (.int .i64 a1_22) := (blk_cell BK280.out 22).trans rfl
            have hfz75_0 := blk_frozen BK280.out 0
            have hfz75_1 := blk_frozen BK280.out 1
            have hfz75_2 := blk_frozen BK280.out 2
            have hfz75_3 := blk_frozen BK280.out 3
            have hfz75_4 := blk_frozen BK280.out 4
            have hfz75_5 := blk_frozen BK280.out 5
            have hfz75_6 := blk_frozen BK280.out 6
            have hfz75_7 := blk_frozen BK280.out 7
            have hfz75_8 := blk_frozen BK280.out 8
            have hfz75_9 := blk_frozen BK280.out 9
            have hfz75_10 := blk_frozen BK280.out 10
            have hfz75_11 := blk_frozen BK280.out 11
            have hfz75_12 := blk_frozen BK280.out 12
            have hfz75_13 := blk_frozen BK280.out 13
            have hfz75_14 := blk_frozen BK280.out 14
            have hfz75_15 := blk_frozen BK280.out 15
            have hfz75_16 := blk_frozen BK280.out 16
            have hfz75_17 := blk_frozen BK280.out 17
            have hfz75_18 := blk_frozen BK280.out 18
            have hfz75_19 := blk_frozen BK280.out 19
            have hfz75_20 := blk_frozen BK280.out 20
            have hfz75_21 := blk_frozen BK280.out 21
            have hfz75_22 := blk_frozen BK280.out 22
            have hcv76 := own_string (P := Try.prog) Try.underlying29 Try.underlying5 Try.underlying9 (Kd.own_of_R HO_5.out)
            have hcv77 := own_string (P := Try.prog) Try.underlying29 Try.underlying5 Try.underlying9 (Kd.own_of_R HO_7.out)
            go_wp2_with (first | (refine big_load (g := gb279) (t := 28) (fr := (0, 0)) (n := 23) (cs := ?_) rfl rfl Try.underlying28 (by kernel_rfl) rfl ?lg ?ln ?_; (case lg => (with_reducible repeat (first | refine blk_drewN ?_ _ | refine blk_drew ?_ | refine blk_alloc ?_ _)); exact BK279.out); (case ln => rfl)) | (refine big_load (g := gb280) (t := 28) (fr := (0, 0)) (n := 23) (cs := ?_) rfl rfl Try.underlying28 (by kernel_rfl) rfl ?lg ?ln ?_; (case lg => (with_reducible repeat (first | refine blk_drewN ?_ _ | refine blk_drew ?_ | refine blk_alloc ?_ _)); exact BK280.out); (case ln => rfl)) | (go_at_call 16; (with_reducible refine (carillonlaw06_awake.calls kj4  t296 _ A72.out).mono ?_); rintro e w78 ⟨rfl, hb⟩; have n0_ := Aside0.mk (Kd.R_below (by (with_reducible repeat (first | apply Kd.R_alloc | apply Kd.R_drewN | apply Kd.R_drew)); exact HO_5.out) hb); have n1_ := Aside0.mk (Kd.R_below (by (with_reducible repeat (first | apply Kd.R_alloc | apply Kd.R_drewN | apply Kd.R_drew)); exact HO_7.out) hb); have n2_ := Aside0.mk (blk_below (g := gb279) (o := .cells #[.int .i64 a0_0, .int .i64 a0_1, .int .i64 a0_2, .int .i64 a0_3, .int .u64 a0_4, .int .i64 a0_5, .int .i64 a0_6, .int .i64 a0_7, .int .i64 a0_8, .int .u64 a0_9, .int .i64 a0_10, .int .i64 a0_11, .int .i64 a0_12, .int .i64 a0_13, .int .i64 a0_14, .int .i64 a0_15, .int .i64 a0_16, .int .u64 a0_17, .int .i64 a0_18, .int .i64 a0_19, .int .i64 a0_20, .int .i64 a0_21, .int .i64 a0_22] 28 (0, 0)) (by (with_reducible repeat (first | refine blk_drewN ?_ _ | refine blk_drew ?_ | refine blk_alloc ?_ _)); exact BK279.out) hb); have n3_ := Aside0.mk (blk_below (g := gb280) (o := .cells #[.int .i64 a1_0, .int .i64 a1_1, .int .i64 a1_2, .int .i64 a1_3, .int .u64 a1_4, .int .i64 a1_5, .int .i64 a1_6, .int .i64 a1_7, .int .i64 a1_8, .int .u64 a1_9, .int .i64 a1_10, .int .i64 a1_11, .int .i64 a1_12, .int .i64 a1_13, .int .i64 a1_14, .int .i64 a1_15, .int .i64 a1_16, .int .u64 a1_17, .int .i64 a1_18, .int .i64 a1_19, .int .i64 a1_20, .int .i64 a1_21, .int .i64 a1_22] 28 (0, 0)) (by (with_reducible repeat (first | refine blk_drewN ?_ _ | refine blk_drew ?_ | refine blk_alloc ?_ _)); exact BK280.out) hb); have n4_ := Aside0.mk (below_step (by repeat (first | (with_reducible first | exact HB.out | apply below_alloc | apply pw_below_drewN | apply below_drew1 | refine below_set ?_ GE279.out | refine below_set ?_ GE280.out) | exact HB.out)) hb); clear HO_5; clear HO_7; clear BK279; clear BK280; clear HB; have HO_5 := n0_; have HO_7 := n1_; have BK279 := n2_; have BK280 := n3_; have HB := n4_; clear n0_ n1_ n2_ n3_ n4_; (try clear hb); (try clear hb2); (try clear hk); (try clear hi)))
            all_goals
              go_ret
              exact ⟨by first | exact congrArg (fun b_ => Ending.returned (.bool b_)) hret_.out | rfl | (simp [errW_none, errW_some] <;> rfl) | (simp [*, errW_none, errW_some] <;> rfl), by repeat (first | (with_reducible first | exact HB.out | apply below_alloc | apply pw_below_drewN | apply below_drew1 | refine below_set ?_ GE279.out | refine below_set ?_ GE280.out) | exact HB.out)⟩
          · rw [if_neg c71] at H
            have c71b0 : (((strOfNums t281).toList == (strOfNums t285).toList) == false) = false := by simpa using c71
            (try (have c71b1 : decide (((strOfNums t281).toList == (strOfNums t285).toList) = false) = false := by simpa using c71))
            (try (have c71b2 : (((strOfNums t281).toList == (strOfNums t285).toList) == false) = false := by simpa using c71))
            (try (have c71b3 : ¬ (((strOfNums t281).toList == (strOfNums t285).toList) = false) := by simpa using c71))
            clear c71
            exact absurd H (by simp)

/-- The one pure statement of carillonlaw06_HeaderApart. -/
def carillonlaw06_HeaderApart.Pure : Prop := ∀ (a0_0 : Int) (a0_1 : Int) (a0_2 : Int) (a0_3 : Int) (a0_4 : Int) (a0_5 : Int) (a0_6 : Int) (a0_7 : Int) (a0_8 : Int) (a0_9 : Int) (a0_10 : Int) (a0_11 : Int) (a0_12 : Int) (a0_13 : Int) (a0_14 : Int) (a0_15 : Int) (a0_16 : Int) (a0_17 : Int) (a0_18 : Int) (a0_19 : Int) (a0_20 : Int) (a0_21 : Int) (a0_22 : Int) (a1_0 : Int) (a1_1 : Int) (a1_2 : Int) (a1_3 : Int) (a1_4 : Int) (a1_5 : Int) (a1_6 : Int) (a1_7 : Int) (a1_8 : Int) (a1_9 : Int) (a1_10 : Int) (a1_11 : Int) (a1_12 : Int) (a1_13 : Int) (a1_14 : Int) (a1_15 : Int) (a1_16 : Int) (a1_17 : Int) (a1_18 : Int) (a1_19 : Int) (a1_20 : Int) (a1_21 : Int) (a1_22 : Int), (Lit.int .i64 a0_0).wf = true → (Lit.int .i64 a0_1).wf = true → (Lit.int .i64 a0_2).wf = true → (Lit.int .i64 a0_3).wf = true → (Lit.int .u64 a0_4).wf = true → (Lit.int .i64 a0_5).wf = true → (Lit.int .i64 a0_6).wf = true → (Lit.int .i64 a0_7).wf = true → (Lit.int .i64 a0_8).wf = true → (Lit.int .u64 a0_9).wf = true → (Lit.int .i64 a0_10).wf = true → (Lit.int .i64 a0_11).wf = true → (Lit.int .i64 a0_12).wf = true → (Lit.int .i64 a0_13).wf = true → (Lit.int .i64 a0_14).wf = true → (Lit.int .i64 a0_15).wf = true → (Lit.int .i64 a0_16).wf = true → (Lit.int .u64 a0_17).wf = true → (Lit.int .i64 a0_18).wf = true → (Lit.int .i64 a0_19).wf = true → (Lit.int .i64 a0_20).wf = true → (Lit.int .i64 a0_21).wf = true → (Lit.int .i64 a0_22).wf = true → (Lit.int .i64 a1_0).wf = true → (Lit.int .i64 a1_1).wf = true → (Lit.int .i64 a1_2).wf = true → (Lit.int .i64 a1_3).wf = true → (Lit.int .u64 a1_4).wf = true → (Lit.int .i64 a1_5).wf = true → (Lit.int .i64 a1_6).wf = true → (Lit.int .i64 a1_7).wf = true → (Lit.int .i64 a1_8).wf = true → (Lit.int .u64 a1_9).wf = true → (Lit.int .i64 a1_10).wf = true → (Lit.int .i64 a1_11).wf = true → (Lit.int .i64 a1_12).wf = true → (Lit.int .i64 a1_13).wf = true → (Lit.int .i64 a1_14).wf = true → (Lit.int .i64 a1_15).wf = true → (Lit.int .i64 a1_16).wf = true → (Lit.int .u64 a1_17).wf = true → (Lit.int .i64 a1_18).wf = true → (Lit.int .i64 a1_19).wf = true → (Lit.int .i64 a1_20).wf = true → (Lit.int .i64 a1_21).wf = true → (Lit.int .i64 a1_22).wf = true → ∃ k, carillonlaw06_HeaderApart.f k a0_0 a0_1 a0_2 a0_3 a0_4 a0_5 a0_6 a0_7 a0_8 a0_9 a0_10 a0_11 a0_12 a0_13 a0_14 a0_15 a0_16 a0_17 a0_18 a0_19 a0_20 a0_21 a0_22 a1_0 a1_1 a1_2 a1_3 a1_4 a1_5 a1_6 a1_7 a1_8 a1_9 a1_10 a1_11 a1_12 a1_13 a1_14 a1_15 a1_16 a1_17 a1_18 a1_19 a1_20 a1_21 a1_22 = some true
theorem carillonlaw06_HeaderApart.walk (P : carillonlaw06_HeaderApart.Pure) (a0_0 : Int) (a0_1 : Int) (a0_2 : Int) (a0_3 : Int) (a0_4 : Int) (a0_5 : Int) (a0_6 : Int) (a0_7 : Int) (a0_8 : Int) (a0_9 : Int) (a0_10 : Int) (a0_11 : Int) (a0_12 : Int) (a0_13 : Int) (a0_14 : Int) (a0_15 : Int) (a0_16 : Int) (a0_17 : Int) (a0_18 : Int) (a0_19 : Int) (a0_20 : Int) (a0_21 : Int) (a0_22 : Int) (a1_0 : Int) (a1_1 : Int) (a1_2 : Int) (a1_3 : Int) (a1_4 : Int) (a1_5 : Int) (a1_6 : Int) (a1_7 : Int) (a1_8 : Int) (a1_9 : Int) (a1_10 : Int) (a1_11 : Int) (a1_12 : Int) (a1_13 : Int) (a1_14 : Int) (a1_15 : Int) (a1_16 : Int) (a1_17 : Int) (a1_18 : Int) (a1_19 : Int) (a1_20 : Int) (a1_21 : Int) (a1_22 : Int) (w : World) (w0_0 : (Lit.int .i64 a0_0).wf = true) (w0_1 : (Lit.int .i64 a0_1).wf = true) (w0_2 : (Lit.int .i64 a0_2).wf = true) (w0_3 : (Lit.int .i64 a0_3).wf = true) (w0_4 : (Lit.int .u64 a0_4).wf = true) (w0_5 : (Lit.int .i64 a0_5).wf = true) (w0_6 : (Lit.int .i64 a0_6).wf = true) (w0_7 : (Lit.int .i64 a0_7).wf = true) (w0_8 : (Lit.int .i64 a0_8).wf = true) (w0_9 : (Lit.int .u64 a0_9).wf = true) (w0_10 : (Lit.int .i64 a0_10).wf = true) (w0_11 : (Lit.int .i64 a0_11).wf = true) (w0_12 : (Lit.int .i64 a0_12).wf = true) (w0_13 : (Lit.int .i64 a0_13).wf = true) (w0_14 : (Lit.int .i64 a0_14).wf = true) (w0_15 : (Lit.int .i64 a0_15).wf = true) (w0_16 : (Lit.int .i64 a0_16).wf = true) (w0_17 : (Lit.int .u64 a0_17).wf = true) (w0_18 : (Lit.int .i64 a0_18).wf = true) (w0_19 : (Lit.int .i64 a0_19).wf = true) (w0_20 : (Lit.int .i64 a0_20).wf = true) (w0_21 : (Lit.int .i64 a0_21).wf = true) (w0_22 : (Lit.int .i64 a0_22).wf = true) (w1_0 : (Lit.int .i64 a1_0).wf = true) (w1_1 : (Lit.int .i64 a1_1).wf = true) (w1_2 : (Lit.int .i64 a1_2).wf = true) (w1_3 : (Lit.int .i64 a1_3).wf = true) (w1_4 : (Lit.int .u64 a1_4).wf = true) (w1_5 : (Lit.int .i64 a1_5).wf = true) (w1_6 : (Lit.int .i64 a1_6).wf = true) (w1_7 : (Lit.int .i64 a1_7).wf = true) (w1_8 : (Lit.int .i64 a1_8).wf = true) (w1_9 : (Lit.int .u64 a1_9).wf = true) (w1_10 : (Lit.int .i64 a1_10).wf = true) (w1_11 : (Lit.int .i64 a1_11).wf = true) (w1_12 : (Lit.int .i64 a1_12).wf = true) (w1_13 : (Lit.int .i64 a1_13).wf = true) (w1_14 : (Lit.int .i64 a1_14).wf = true) (w1_15 : (Lit.int .i64 a1_15).wf = true) (w1_16 : (Lit.int .i64 a1_16).wf = true) (w1_17 : (Lit.int .u64 a1_17).wf = true) (w1_18 : (Lit.int .i64 a1_18).wf = true) (w1_19 : (Lit.int .i64 a1_19).wf = true) (w1_20 : (Lit.int .i64 a1_20).wf = true) (w1_21 : (Lit.int .i64 a1_21).wf = true) (w1_22 : (Lit.int .i64 a1_22).wf = true) :
    Calls Try.prog 4 #[.agg #[.int .i64 a0_0, .int .i64 a0_1, .int .i64 a0_2, .int .i64 a0_3, .int .u64 a0_4, .int .i64 a0_5, .int .i64 a0_6, .int .i64 a0_7, .int .i64 a0_8, .int .u64 a0_9, .int .i64 a0_10, .int .i64 a0_11, .int .i64 a0_12, .int .i64 a0_13, .int .i64 a0_14, .int .i64 a0_15, .int .i64 a0_16, .int .u64 a0_17, .int .i64 a0_18, .int .i64 a0_19, .int .i64 a0_20, .int .i64 a0_21, .int .i64 a0_22], .agg #[.int .i64 a1_0, .int .i64 a1_1, .int .i64 a1_2, .int .i64 a1_3, .int .u64 a1_4, .int .i64 a1_5, .int .i64 a1_6, .int .i64 a1_7, .int .i64 a1_8, .int .u64 a1_9, .int .i64 a1_10, .int .i64 a1_11, .int .i64 a1_12, .int .i64 a1_13, .int .i64 a1_14, .int .i64 a1_15, .int .i64 a1_16, .int .u64 a1_17, .int .i64 a1_18, .int .i64 a1_19, .int .i64 a1_20, .int .i64 a1_21, .int .i64 a1_22]] w fun e w' => e = .returned (.bool true) ∧ Below w.heap.size w w' := by
  obtain ⟨k, h⟩ := P a0_0 a0_1 a0_2 a0_3 a0_4 a0_5 a0_6 a0_7 a0_8 a0_9 a0_10 a0_11 a0_12 a0_13 a0_14 a0_15 a0_16 a0_17 a0_18 a0_19 a0_20 a0_21 a0_22 a1_0 a1_1 a1_2 a1_3 a1_4 a1_5 a1_6 a1_7 a1_8 a1_9 a1_10 a1_11 a1_12 a1_13 a1_14 a1_15 a1_16 a1_17 a1_18 a1_19 a1_20 a1_21 a1_22 w0_0 w0_1 w0_2 w0_3 w0_4 w0_5 w0_6 w0_7 w0_8 w0_9 w0_10 w0_11 w0_12 w0_13 w0_14 w0_15 w0_16 w0_17 w0_18 w0_19 w0_20 w0_21 w0_22 w1_0 w1_1 w1_2 w1_3 w1_4 w1_5 w1_6 w1_7 w1_8 w1_9 w1_10 w1_11 w1_12 w1_13 w1_14 w1_15 w1_16 w1_17 w1_18 w1_19 w1_20 w1_21 w1_22
  refine (carillonlaw06_HeaderApart.calls k a0_0 a0_1 a0_2 a0_3 a0_4 a0_5 a0_6 a0_7 a0_8 a0_9 a0_10 a0_11 a0_12 a0_13 a0_14 a0_15 a0_16 a0_17 a0_18 a0_19 a0_20 a0_21 a0_22 a1_0 a1_1 a1_2 a1_3 a1_4 a1_5 a1_6 a1_7 a1_8 a1_9 a1_10 a1_11 a1_12 a1_13 a1_14 a1_15 a1_16 a1_17 a1_18 a1_19 a1_20 a1_21 a1_22 w  h).mono ?_
  rintro e w' ⟨rfl, hd⟩
  exact ⟨rfl, hd⟩

end Go.Proofs.Ytcflafkafbpibaa.P
