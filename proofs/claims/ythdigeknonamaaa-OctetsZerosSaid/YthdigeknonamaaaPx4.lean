/- Functions and loops of the given program as Lean functions, and that the code comes to what they say: written by this session's own program; Lean checks it. -/
import Derived.Test.YthdigeknonamaaaPx0
import Derived.Test.YthdigeknonamaaaPx1
import Derived.Test.YthdigeknonamaaaPx3
namespace Go.Proofs.Ythdigeknonamaaa.P
open Go.RowKit Go.Proofs.YthdigeknonamaaaW.PrintWords Go.Proofs.YthdigeknonamaaaW.PrintLast Go.Proofs.YthdigeknonamaaaW.PrintMore
attribute [local go_sem] max2_int min2_int max_two min_two max_three min_three max_four min_four   -- for this text's walks alone
set_option linter.unusedVariables false
set_option linter.unusedSimpArgs false

/-! ### carillonlaw01_OctetsBack: function 7 -/
def carillonlaw01_OctetsBack.j0 : Nat → Int → Int → Bool → Option (Bool)
  | 0, _, _, _ => none
  | k + 1, x0, x2, x79 => if x79 = true then (some false) else ((octets_Put.f ([] : List Int) x0 8).bind fun t192 => ((octets_Signed.f k t192 0 8).bind fun bt195 => ((octets_PutId.f ([] : List Int) x2).bind fun t197 => ((octets_GetId.f k t197 0).bind fun bt200 => (if bt195.2 = true then (if bt200.2 = true then (if bt195.1 = x0 then (if bt200.1 = x2 then ((carillonlaw01_awake.f k).bind fun t202 => (some t202)) else (some false)) else (some false)) else (some false)) else (some false))))))
def carillonlaw01_OctetsBack.f (k : Nat) (a0 : Int) (a1 : Int) (a2 : Int) : Option (Bool) := (carillonlaw00_Place.f a1 7).bind fun t181 => ((octets_Put.f (([7] : List Int)) a0 (wrap64 (1 + t181))).bind fun t185 => ((octets_Get.f k t185 1 (wrap64 (1 + t181))).bind fun bt188 => ((octets_Signed.f k t185 1 (wrap64 (1 + t181))).bind fun bt190 => (if 0 ≤ (IntKind.u64.wrap (wrap64 (8 * (wrap64 (1 + t181))))) then (if bt188.2 = true then (if bt190.2 = true then (if bt188.1 = (Go.bits .and .i64 a0 (wrap64 ((shl .i64 1 (IntKind.u64.wrap (wrap64 (8 * (wrap64 (1 + t181)))))) - 1))) then (if bt190.1 = bt188.1 then (if bt190.1 ≥ (wrap64 (Int.tdiv (shl .i64 1 (IntKind.u64.wrap (wrap64 (8 * (wrap64 (1 + t181)))))) 2)) then (carillonlaw01_OctetsBack.j0 k a0 a2 true) else (carillonlaw01_OctetsBack.j0 k a0 a2 (decide (bt190.1 < (wrap64 (Int.tdiv (wrap64 (-(shl .i64 1 (IntKind.u64.wrap (wrap64 (8 * (wrap64 (1 + t181)))))))) 2)))))) else (if bt190.1 = (wrap64 (bt188.1 - (shl .i64 1 (IntKind.u64.wrap (wrap64 (8 * (wrap64 (1 + t181)))))))) then (if bt190.1 ≥ (wrap64 (Int.tdiv (shl .i64 1 (IntKind.u64.wrap (wrap64 (8 * (wrap64 (1 + t181)))))) 2)) then (carillonlaw01_OctetsBack.j0 k a0 a2 true) else (carillonlaw01_OctetsBack.j0 k a0 a2 (decide (bt190.1 < (wrap64 (Int.tdiv (wrap64 (-(shl .i64 1 (IntKind.u64.wrap (wrap64 (8 * (wrap64 (1 + t181)))))))) 2)))))) else (carillonlaw01_OctetsBack.j0 k a0 a2 true))) else (carillonlaw01_OctetsBack.j0 k a0 a2 true)) else (carillonlaw01_OctetsBack.j0 k a0 a2 true)) else (carillonlaw01_OctetsBack.j0 k a0 a2 true)) else (none)))))
theorem carillonlaw01_OctetsBack.mono_l : ∀ k, (∀ y0 y1 y2, LeO (carillonlaw01_OctetsBack.j0 k y0 y1 y2) (carillonlaw01_OctetsBack.j0 (k + 1) y0 y1 y2))
  | 0 => fun _ _ _ r h => by simp [carillonlaw01_OctetsBack.j0] at h
  | k + 1 => by
    have ih0 := carillonlaw01_OctetsBack.mono_l k
    · intro y0 y1 y2
      unfold carillonlaw01_OctetsBack.j0
      repeat' first
      | (with_reducible exact ih0 _ _ _)
      | (with_reducible exact carillonlaw01_awake.mono _)
      | (with_reducible exact octets_Get.mono _ _ _ _)
      | (with_reducible exact octets_GetId.mono _ _ _)
      | (with_reducible exact octets_Signed.mono _ _ _ _)
      | (with_reducible exact LeO.refl _)
      | (with_reducible exact LeO.none _)
      | (with_reducible refine LeO.ite ?_ ?_)
      | (with_reducible refine LeO.bind ?_ (fun _ => ?_))
      | exact ih0 _ _ _
      | exact carillonlaw01_awake.mono _
      | exact octets_Get.mono _ _ _ _
      | exact octets_GetId.mono _ _ _
      | exact octets_Signed.mono _ _ _ _
      | exact LeO.none _
      | refine LeO.ite ?_ ?_
      | refine LeO.bind ?_ (fun _ => ?_)
theorem carillonlaw01_OctetsBack.mono : ∀ a0 a1 a2 k, LeO (carillonlaw01_OctetsBack.f k a0 a1 a2) (carillonlaw01_OctetsBack.f (k + 1) a0 a1 a2) := by
  intro a0 a1 a2 k
  have ih0 := carillonlaw01_OctetsBack.mono_l k
  unfold carillonlaw01_OctetsBack.f
  repeat' first
      | (with_reducible exact ih0 _ _ _)
      | (with_reducible exact carillonlaw01_awake.mono _)
      | (with_reducible exact octets_Get.mono _ _ _ _)
      | (with_reducible exact octets_GetId.mono _ _ _)
      | (with_reducible exact octets_Signed.mono _ _ _ _)
      | (with_reducible exact LeO.refl _)
      | (with_reducible exact LeO.none _)
      | (with_reducible refine LeO.ite ?_ ?_)
      | (with_reducible refine LeO.bind ?_ (fun _ => ?_))
      | exact ih0 _ _ _
      | exact carillonlaw01_awake.mono _
      | exact octets_Get.mono _ _ _ _
      | exact octets_GetId.mono _ _ _
      | exact octets_Signed.mono _ _ _ _
      | exact LeO.none _
      | refine LeO.ite ?_ ?_
      | refine LeO.bind ?_ (fun _ => ?_)
set_option maxHeartbeats 8000000 in
set_option maxRecDepth 100000 in
theorem carillonlaw01_OctetsBack.calls (k : Nat) (a0 : Int) (a1 : Int) (a2 : Int) (r : Bool) (w : World) (h : carillonlaw01_OctetsBack.f k a0 a1 a2 = some r) :
    Calls Try.prog 7 #[.int .i64 a0, .int .i64 a1, .int .u64 a2] w fun e w' => e = .returned (.bool r) ∧ Below w.heap.size w w' := by
  have HB := Aside0.mk (Below.refl w.heap.size w)
  have H : ((carillonlaw00_Place.f a1 7).bind fun t181 => ((octets_Put.f (([7] : List Int)) a0 (wrap64 (1 + t181))).bind fun t185 => ((octets_Get.f k t185 1 (wrap64 (1 + t181))).bind fun bt188 => ((octets_Signed.f k t185 1 (wrap64 (1 + t181))).bind fun bt190 => (if 0 ≤ (IntKind.u64.wrap (wrap64 (8 * (wrap64 (1 + t181))))) then (if bt188.2 = true then (if bt190.2 = true then (if bt188.1 = (Go.bits .and .i64 a0 (wrap64 ((shl .i64 1 (IntKind.u64.wrap (wrap64 (8 * (wrap64 (1 + t181)))))) - 1))) then (if bt190.1 = bt188.1 then (if bt190.1 ≥ (wrap64 (Int.tdiv (shl .i64 1 (IntKind.u64.wrap (wrap64 (8 * (wrap64 (1 + t181)))))) 2)) then (carillonlaw01_OctetsBack.j0 k a0 a2 true) else (carillonlaw01_OctetsBack.j0 k a0 a2 (decide (bt190.1 < (wrap64 (Int.tdiv (wrap64 (-(shl .i64 1 (IntKind.u64.wrap (wrap64 (8 * (wrap64 (1 + t181)))))))) 2)))))) else (if bt190.1 = (wrap64 (bt188.1 - (shl .i64 1 (IntKind.u64.wrap (wrap64 (8 * (wrap64 (1 + t181)))))))) then (if bt190.1 ≥ (wrap64 (Int.tdiv (shl .i64 1 (IntKind.u64.wrap (wrap64 (8 * (wrap64 (1 + t181)))))) 2)) then (carillonlaw01_OctetsBack.j0 k a0 a2 true) else (carillonlaw01_OctetsBack.j0 k a0 a2 (decide (bt190.1 < (wrap64 (Int.tdiv (wrap64 (-(shl .i64 1 (IntKind.u64.wrap (wrap64 (8 * (wrap64 (1 + t181)))))))) 2)))))) else (carillonlaw01_OctetsBack.j0 k a0 a2 true))) else (carillonlaw01_OctetsBack.j0 k a0 a2 true)) else (carillonlaw01_OctetsBack.j0 k a0 a2 true)) else (carillonlaw01_OctetsBack.j0 k a0 a2 true)) else (none)))))) = some r := h
  clear h
  replace H := Option.bind_eq_some_iff.mp H
  obtain ⟨t181, A40, H⟩ := H
  replace H : ((octets_Put.f (([7] : List Int)) a0 (wrap64 (1 + t181))).bind fun t185 => ((octets_Get.f k t185 1 (wrap64 (1 + t181))).bind fun bt188 => ((octets_Signed.f k t185 1 (wrap64 (1 + t181))).bind fun bt190 => (if 0 ≤ (IntKind.u64.wrap (wrap64 (8 * (wrap64 (1 + t181))))) then (if bt188.2 = true then (if bt190.2 = true then (if bt188.1 = (Go.bits .and .i64 a0 (wrap64 ((shl .i64 1 (IntKind.u64.wrap (wrap64 (8 * (wrap64 (1 + t181)))))) - 1))) then (if bt190.1 = bt188.1 then (if bt190.1 ≥ (wrap64 (Int.tdiv (shl .i64 1 (IntKind.u64.wrap (wrap64 (8 * (wrap64 (1 + t181)))))) 2)) then (carillonlaw01_OctetsBack.j0 k a0 a2 true) else (carillonlaw01_OctetsBack.j0 k a0 a2 (decide (bt190.1 < (wrap64 (Int.tdiv (wrap64 (-(shl .i64 1 (IntKind.u64.wrap (wrap64 (8 * (wrap64 (1 + t181)))))))) 2)))))) else (if bt190.1 = (wrap64 (bt188.1 - (shl .i64 1 (IntKind.u64.wrap (wrap64 (8 * (wrap64 (1 + t181)))))))) then (if bt190.1 ≥ (wrap64 (Int.tdiv (shl .i64 1 (IntKind.u64.wrap (wrap64 (8 * (wrap64 (1 + t181)))))) 2)) then (carillonlaw01_OctetsBack.j0 k a0 a2 true) else (carillonlaw01_OctetsBack.j0 k a0 a2 (decide (bt190.1 < (wrap64 (Int.tdiv (wrap64 (-(shl .i64 1 (IntKind.u64.wrap (wrap64 (8 * (wrap64 (1 + t181)))))))) 2)))))) else (carillonlaw01_OctetsBack.j0 k a0 a2 true))) else (carillonlaw01_OctetsBack.j0 k a0 a2 true)) else (carillonlaw01_OctetsBack.j0 k a0 a2 true)) else (carillonlaw01_OctetsBack.j0 k a0 a2 true)) else (none))))) = some r := H
  have A4 := Aside0.mk A40
  clear A40
  obtain ⟨y182, hy182⟩ : ∃ y_ : List Int, y_ = (([7] : List Int)) := ⟨_, rfl⟩
  replace H : ((octets_Put.f y182 a0 (wrap64 (1 + t181))).bind fun t185 => ((octets_Get.f k t185 1 (wrap64 (1 + t181))).bind fun bt188 => ((octets_Signed.f k t185 1 (wrap64 (1 + t181))).bind fun bt190 => (if 0 ≤ (IntKind.u64.wrap (wrap64 (8 * (wrap64 (1 + t181))))) then (if bt188.2 = true then (if bt190.2 = true then (if bt188.1 = (Go.bits .and .i64 a0 (wrap64 ((shl .i64 1 (IntKind.u64.wrap (wrap64 (8 * (wrap64 (1 + t181)))))) - 1))) then (if bt190.1 = bt188.1 then (if bt190.1 ≥ (wrap64 (Int.tdiv (shl .i64 1 (IntKind.u64.wrap (wrap64 (8 * (wrap64 (1 + t181)))))) 2)) then (carillonlaw01_OctetsBack.j0 k a0 a2 true) else (carillonlaw01_OctetsBack.j0 k a0 a2 (decide (bt190.1 < (wrap64 (Int.tdiv (wrap64 (-(shl .i64 1 (IntKind.u64.wrap (wrap64 (8 * (wrap64 (1 + t181)))))))) 2)))))) else (if bt190.1 = (wrap64 (bt188.1 - (shl .i64 1 (IntKind.u64.wrap (wrap64 (8 * (wrap64 (1 + t181)))))))) then (if bt190.1 ≥ (wrap64 (Int.tdiv (shl .i64 1 (IntKind.u64.wrap (wrap64 (8 * (wrap64 (1 + t181)))))) 2)) then (carillonlaw01_OctetsBack.j0 k a0 a2 true) else (carillonlaw01_OctetsBack.j0 k a0 a2 (decide (bt190.1 < (wrap64 (Int.tdiv (wrap64 (-(shl .i64 1 (IntKind.u64.wrap (wrap64 (8 * (wrap64 (1 + t181)))))))) 2)))))) else (carillonlaw01_OctetsBack.j0 k a0 a2 true))) else (carillonlaw01_OctetsBack.j0 k a0 a2 true)) else (carillonlaw01_OctetsBack.j0 k a0 a2 true)) else (carillonlaw01_OctetsBack.j0 k a0 a2 true)) else (none))))) = some r := by first | (rw [hy182]; with_reducible exact H) | (have H2_ := (Option.bind_some _ _).symm.trans H; rw [hy182]; with_reducible exact H2_) | (have H2_ := (Option.bind_some _ _).symm.trans H; with_reducible exact H2_) | with_reducible exact H | (rw [hy182]; exact H) | exact H
  have Ny182 := Aside0.mk hy182
  clear hy182
  replace H := Option.bind_eq_some_iff.mp H
  obtain ⟨t185, A50, H⟩ := H
  replace H : ((octets_Get.f k t185 1 (wrap64 (1 + t181))).bind fun bt188 => ((octets_Signed.f k t185 1 (wrap64 (1 + t181))).bind fun bt190 => (if 0 ≤ (IntKind.u64.wrap (wrap64 (8 * (wrap64 (1 + t181))))) then (if bt188.2 = true then (if bt190.2 = true then (if bt188.1 = (Go.bits .and .i64 a0 (wrap64 ((shl .i64 1 (IntKind.u64.wrap (wrap64 (8 * (wrap64 (1 + t181)))))) - 1))) then (if bt190.1 = bt188.1 then (if bt190.1 ≥ (wrap64 (Int.tdiv (shl .i64 1 (IntKind.u64.wrap (wrap64 (8 * (wrap64 (1 + t181)))))) 2)) then (carillonlaw01_OctetsBack.j0 k a0 a2 true) else (carillonlaw01_OctetsBack.j0 k a0 a2 (decide (bt190.1 < (wrap64 (Int.tdiv (wrap64 (-(shl .i64 1 (IntKind.u64.wrap (wrap64 (8 * (wrap64 (1 + t181)))))))) 2)))))) else (if bt190.1 = (wrap64 (bt188.1 - (shl .i64 1 (IntKind.u64.wrap (wrap64 (8 * (wrap64 (1 + t181)))))))) then (if bt190.1 ≥ (wrap64 (Int.tdiv (shl .i64 1 (IntKind.u64.wrap (wrap64 (8 * (wrap64 (1 + t181)))))) 2)) then (carillonlaw01_OctetsBack.j0 k a0 a2 true) else (carillonlaw01_OctetsBack.j0 k a0 a2 (decide (bt190.1 < (wrap64 (Int.tdiv (wrap64 (-(shl .i64 1 (IntKind.u64.wrap (wrap64 (8 * (wrap64 (1 + t181)))))))) 2)))))) else (carillonlaw01_OctetsBack.j0 k a0 a2 true))) else (carillonlaw01_OctetsBack.j0 k a0 a2 true)) else (carillonlaw01_OctetsBack.j0 k a0 a2 true)) else (carillonlaw01_OctetsBack.j0 k a0 a2 true)) else (none)))) = some r := H
  have A5 := Aside0.mk A50
  clear A50
  replace H := Option.bind_eq_some_iff.mp H
  obtain ⟨⟨t188, t189⟩, A60, H⟩ := H
  replace H : ((octets_Signed.f k t185 1 (wrap64 (1 + t181))).bind fun bt190 => (if 0 ≤ (IntKind.u64.wrap (wrap64 (8 * (wrap64 (1 + t181))))) then (if t189 = true then (if bt190.2 = true then (if t188 = (Go.bits .and .i64 a0 (wrap64 ((shl .i64 1 (IntKind.u64.wrap (wrap64 (8 * (wrap64 (1 + t181)))))) - 1))) then (if bt190.1 = t188 then (if bt190.1 ≥ (wrap64 (Int.tdiv (shl .i64 1 (IntKind.u64.wrap (wrap64 (8 * (wrap64 (1 + t181)))))) 2)) then (carillonlaw01_OctetsBack.j0 k a0 a2 true) else (carillonlaw01_OctetsBack.j0 k a0 a2 (decide (bt190.1 < (wrap64 (Int.tdiv (wrap64 (-(shl .i64 1 (IntKind.u64.wrap (wrap64 (8 * (wrap64 (1 + t181)))))))) 2)))))) else (if bt190.1 = (wrap64 (t188 - (shl .i64 1 (IntKind.u64.wrap (wrap64 (8 * (wrap64 (1 + t181)))))))) then (if bt190.1 ≥ (wrap64 (Int.tdiv (shl .i64 1 (IntKind.u64.wrap (wrap64 (8 * (wrap64 (1 + t181)))))) 2)) then (carillonlaw01_OctetsBack.j0 k a0 a2 true) else (carillonlaw01_OctetsBack.j0 k a0 a2 (decide (bt190.1 < (wrap64 (Int.tdiv (wrap64 (-(shl .i64 1 (IntKind.u64.wrap (wrap64 (8 * (wrap64 (1 + t181)))))))) 2)))))) else (carillonlaw01_OctetsBack.j0 k a0 a2 true))) else (carillonlaw01_OctetsBack.j0 k a0 a2 true)) else (carillonlaw01_OctetsBack.j0 k a0 a2 true)) else (carillonlaw01_OctetsBack.j0 k a0 a2 true)) else (none))) = some r := H
  have A6 := Aside0.mk A60
  clear A60
  replace H := Option.bind_eq_some_iff.mp H
  obtain ⟨⟨t190, t191⟩, A70, H⟩ := H
  replace H : (if 0 ≤ (IntKind.u64.wrap (wrap64 (8 * (wrap64 (1 + t181))))) then (if t189 = true then (if t191 = true then (if t188 = (Go.bits .and .i64 a0 (wrap64 ((shl .i64 1 (IntKind.u64.wrap (wrap64 (8 * (wrap64 (1 + t181)))))) - 1))) then (if t190 = t188 then (if t190 ≥ (wrap64 (Int.tdiv (shl .i64 1 (IntKind.u64.wrap (wrap64 (8 * (wrap64 (1 + t181)))))) 2)) then (carillonlaw01_OctetsBack.j0 k a0 a2 true) else (carillonlaw01_OctetsBack.j0 k a0 a2 (decide (t190 < (wrap64 (Int.tdiv (wrap64 (-(shl .i64 1 (IntKind.u64.wrap (wrap64 (8 * (wrap64 (1 + t181)))))))) 2)))))) else (if t190 = (wrap64 (t188 - (shl .i64 1 (IntKind.u64.wrap (wrap64 (8 * (wrap64 (1 + t181)))))))) then (if t190 ≥ (wrap64 (Int.tdiv (shl .i64 1 (IntKind.u64.wrap (wrap64 (8 * (wrap64 (1 + t181)))))) 2)) then (carillonlaw01_OctetsBack.j0 k a0 a2 true) else (carillonlaw01_OctetsBack.j0 k a0 a2 (decide (t190 < (wrap64 (Int.tdiv (wrap64 (-(shl .i64 1 (IntKind.u64.wrap (wrap64 (8 * (wrap64 (1 + t181)))))))) 2)))))) else (carillonlaw01_OctetsBack.j0 k a0 a2 true))) else (carillonlaw01_OctetsBack.j0 k a0 a2 true)) else (carillonlaw01_OctetsBack.j0 k a0 a2 true)) else (carillonlaw01_OctetsBack.j0 k a0 a2 true)) else (none)) = some r := H
  have A7 := Aside0.mk A70
  clear A70
  obtain ⟨ji8, hji8⟩ : ∃ j_ : Int, (IntKind.u64.wrap (wrap64 (8 * (wrap64 (1 + t181))))) = j_ := ⟨_, rfl⟩
  replace H : (if 0 ≤ (ji8) then (if t189 = true then (if t191 = true then (if t188 = (Go.bits .and .i64 a0 (wrap64 ((shl .i64 1 (ji8)) - 1))) then (if t190 = t188 then (if t190 ≥ (wrap64 (Int.tdiv (shl .i64 1 (ji8)) 2)) then (carillonlaw01_OctetsBack.j0 k a0 a2 true) else (carillonlaw01_OctetsBack.j0 k a0 a2 (decide (t190 < (wrap64 (Int.tdiv (wrap64 (-(shl .i64 1 (ji8)))) 2)))))) else (if t190 = (wrap64 (t188 - (shl .i64 1 (ji8)))) then (if t190 ≥ (wrap64 (Int.tdiv (shl .i64 1 (ji8)) 2)) then (carillonlaw01_OctetsBack.j0 k a0 a2 true) else (carillonlaw01_OctetsBack.j0 k a0 a2 (decide (t190 < (wrap64 (Int.tdiv (wrap64 (-(shl .i64 1 (ji8)))) 2)))))) else (carillonlaw01_OctetsBack.j0 k a0 a2 true))) else (carillonlaw01_OctetsBack.j0 k a0 a2 true)) else (carillonlaw01_OctetsBack.j0 k a0 a2 true)) else (carillonlaw01_OctetsBack.j0 k a0 a2 true)) else (none)) = some r := by first | (rw [hji8] at H; exact H) | (simp only [hji8] at H ⊢; exact H)
  (try rw [hji8] at A4)
  (try rw [hji8] at A5)
  (try rw [hji8] at A6)
  (try rw [hji8] at A7)
  by_cases c9 : 0 ≤ (ji8)
  · rw [if_pos c9] at H
    have c9b0 := eq_true c9
    have c9b1 : decide (0 ≤ (ji8)) = true := decide_eq_true c9
    clear c9
    obtain ⟨ji10, hji10⟩ : ∃ j_ : Int, (shl .i64 1 (ji8)) = j_ := ⟨_, rfl⟩
    replace H : (if t189 = true then (if t191 = true then (if t188 = (Go.bits .and .i64 a0 (wrap64 ((ji10) - 1))) then (if t190 = t188 then (if t190 ≥ (wrap64 (Int.tdiv (ji10) 2)) then (carillonlaw01_OctetsBack.j0 k a0 a2 true) else (carillonlaw01_OctetsBack.j0 k a0 a2 (decide (t190 < (wrap64 (Int.tdiv (wrap64 (-(ji10))) 2)))))) else (if t190 = (wrap64 (t188 - (ji10))) then (if t190 ≥ (wrap64 (Int.tdiv (ji10) 2)) then (carillonlaw01_OctetsBack.j0 k a0 a2 true) else (carillonlaw01_OctetsBack.j0 k a0 a2 (decide (t190 < (wrap64 (Int.tdiv (wrap64 (-(ji10))) 2)))))) else (carillonlaw01_OctetsBack.j0 k a0 a2 true))) else (carillonlaw01_OctetsBack.j0 k a0 a2 true)) else (carillonlaw01_OctetsBack.j0 k a0 a2 true)) else (carillonlaw01_OctetsBack.j0 k a0 a2 true)) = some r := by first | (rw [hji10] at H; exact H) | (simp only [hji10] at H ⊢; exact H)
    (try rw [hji10] at A4)
    (try rw [hji10] at A5)
    (try rw [hji10] at A6)
    (try rw [hji10] at A7)
    have hji10_ : (IntKind.i64.wrap (1 * 2 ^ min (ji8).toNat 64)) = ji10 := hji10
    have hji10z : (ji8) ≤ 64 → (IntKind.i64.wrap (1 * 2 ^ (ji8).toNat)) = ji10 := shl_small hji10
    have hji10u : (IntKind.i64.wrap (2 ^ min (ji8).toNat 64)) = ji10 := by have h_ := hji10_; rw [Int.one_mul] at h_; exact h_
    have hji10v : (ji8) ≤ 64 → (IntKind.i64.wrap (2 ^ (ji8).toNat)) = ji10 := fun hle_ => by have h_ := hji10z hle_; rw [Int.one_mul] at h_; exact h_
    have hji10y : (wrap64 (1 * 2 ^ min (ji8).toNat 64)) = ji10 := (i64_w _).symm.trans hji10_
    have hji10x : (ji8) ≤ 64 → (wrap64 (1 * 2 ^ (ji8).toNat)) = ji10 := fun h_ => (i64_w _).symm.trans (hji10z h_)
    have HC11 := Aside0.mk H
    clear H
    go_enter Try.func7, Try.ntmps7
    go_upto_region 6 with (first | ((with_reducible refine gate_callee (f := 9) rfl ?_); refine goesL_ (some 19) rfl rfl Try.func9 (by kernel_rfl) rfl #[.int .i64 a1, .int .i64 7] rfl (by (try simp only [List.map_toArray, List.map_cons, List.map_nil]); first | done | rfl | (simp only [List.length_drop, List.length_take]; rfl)) ?_; (with_reducible refine (carillonlaw00_Place.calls a1 7 t181 _ A4.out).mono ?_); rintro e w' ⟨rfl, ⟨nd, rfl⟩⟩; refine ⟨_, rfl, ?_⟩) | ((with_reducible refine gate_dst (N := 21) rfl ?_); refine Kd.R_lit (Kd.int .u8) _ 5 ?hg (N := 21) ?hd (xs := ([7] : List Int)) (inner := [.int .u8 7]) (ok := fun _ => True) (okp := fun _ => True) ?hr ?hp (fun _ hk => hk) trivial (Below.refl _ _) (Nat.le_refl _) (by simp) ?_; (case hd => rfl); (case hg => rfl); (case hr => first | (go_simp; done) | (go_simp; rfl)); (case hp => exact (Reps.one (show Kd.M (Kd.int .u8) _ _ _ 7 [.int .u8 7] from rfl) (Reps.none _ _))); intro v183 w12 ho13 hb hg_ hnew_; clear hg_ hnew_; (first | rw [← Ny182.out] at ho13 | (simp only [Int.reduceToNat] at ho13; rw [← Ny182.out] at ho13)); have n0_ := Aside0.mk (Kd.R_lower ho13 (below_size (by repeat (first | (with_reducible first | exact HB.out | apply below_alloc | apply pw_below_drewN | apply below_drew1) | exact HB.out)))); have n1_ := Aside0.mk (below_step (by repeat (first | (with_reducible first | exact HB.out | apply below_alloc | apply pw_below_drewN | apply below_drew1) | exact HB.out)) hb); clear HB; have HO184 := n0_; have HB := n1_; clear n0_ n1_; clear hb ho13; obtain ⟨Ao14, co14, eo14⟩ := Kd.R_slice HO184.out; subst eo14) | ((with_reducible refine gate_callee (f := 10) rfl ?_); refine goesL_ (some 24) rfl rfl Try.func10 (by kernel_rfl) rfl #[.slice Ao14 y182.length co14, .int .i64 a0, .int .i64 (wrap64 (1 + t181))] rfl (by (try simp only [List.map_toArray, List.map_cons, List.map_nil]); first | done | rfl | (simp only [List.length_drop, List.length_take]; rfl)) ?_; (with_reducible refine (octets_Put.calls _ _ y182 a0 (wrap64 (1 + t181)) t185 _ ?side1 ?side2 A5.out).mono ?_); (case side1 => repeat (first | exact (Kd.R_reads' HO184.out).2.2 | (with_reducible refine Kd.C_alloc ?_ _) | (with_reducible refine Kd.C_drewN ?_ _) | (with_reducible refine Kd.C_drew ?_))); (case side2 => exact (Kd.R_reads' HO184.out).2.1); rintro e w15 ⟨v186, rfl, ho0, hb⟩; refine ⟨_, rfl, ?_⟩; have n0_ := Aside0.mk (Kd.R_elder' (by (with_reducible repeat (first | apply Kd.R_alloc | apply Kd.R_drewN | apply Kd.R_drew)); exact HO184.out) (Kd.R_base ho0) hb); have n1_ := Aside0.mk (Kd.R_lower (Kd.R_new' ho0 (Kd.R_lt (by (with_reducible repeat (first | apply Kd.R_alloc | apply Kd.R_drewN | apply Kd.R_drew)); exact HO184.out))) (below_size (by repeat (first | (with_reducible first | exact HB.out | apply below_alloc | apply pw_below_drewN | apply below_drew1) | exact HB.out)))); have n2_ := Aside0.mk (below_step (by repeat (first | (with_reducible first | exact HB.out | apply below_alloc | apply pw_below_drewN | apply below_drew1) | exact HB.out)) hb); clear HO184; clear HB; have HO184 := n0_; have HO187 := n1_; have HB := n2_; clear n0_ n1_ n2_; (try clear hb); (try clear hb2); (try clear hk); (try clear hi); (try clear ho0); obtain ⟨Ao16, co16, eo16⟩ := Kd.R_slice HO187.out; subst eo16) | ((with_reducible refine gate_callee (f := 16) rfl ?_); refine goesL_ (some 28) rfl rfl Try.func16 (by kernel_rfl) rfl #[.slice Ao16 t185.length co16, .int .i64 1, .int .i64 (wrap64 (1 + t181))] rfl (by (try simp only [List.map_toArray, List.map_cons, List.map_nil]); first | done | rfl | (simp only [List.length_drop, List.length_take]; rfl)) ?_; (with_reducible refine (octets_Get.calls k _ _ t185 1 (wrap64 (1 + t181)) t188 t189 _ ?side1 ?side2 A6.out).mono ?_); (case side1 => repeat (first | exact (Kd.R_reads' HO187.out).2.2 | (with_reducible refine Kd.C_alloc ?_ _) | (with_reducible refine Kd.C_drewN ?_ _) | (with_reducible refine Kd.C_drew ?_))); (case side2 => exact (Kd.R_reads' HO187.out).2.1); rintro e w' ⟨rfl, ⟨nd, rfl⟩⟩; refine ⟨_, rfl, ?_⟩) | ((with_reducible refine gate_callee (f := 12) rfl ?_); refine goesL_ (some 34) rfl rfl Try.func12 (by kernel_rfl) rfl #[.slice Ao16 t185.length co16, .int .i64 1, .int .i64 (wrap64 (1 + t181))] rfl (by (try simp only [List.map_toArray, List.map_cons, List.map_nil]); first | done | rfl | (simp only [List.length_drop, List.length_take]; rfl)) ?_; (with_reducible refine (octets_Signed.calls k _ _ t185 1 (wrap64 (1 + t181)) t190 t191 _ ?side1 ?side2 A7.out).mono ?_); (case side1 => repeat (first | exact (Kd.R_reads' HO187.out).2.2 | (with_reducible refine Kd.C_alloc ?_ _) | (with_reducible refine Kd.C_drewN ?_ _) | (with_reducible refine Kd.C_drew ?_))); (case side2 => exact (Kd.R_reads' HO187.out).2.1); rintro e w' ⟨rfl, ⟨nd, rfl⟩⟩; refine ⟨_, rfl, ?_⟩))
    (try simp only [Act.put, List.setIfInBounds_toArray, List.set_cons_zero, List.set_cons_succ])
    go_cut [79] (fun v79 wc => ∃ (kq : Nat) (x79_10 : Bool), v79 = .bool x79_10 ∧ Aside0 (carillonlaw01_OctetsBack.j0 kq a0 a2 x79_10 = some r) ∧ Aside0 (kq ≤ k) ∧ Aside0 (Below w.heap.size w wc))
    case first =>
      have H := HC11.out
      clear HC11
      by_cases c17 : t189 = true
      · subst c17
        have H1 : (if t191 = true then (if t188 = (Go.bits .and .i64 a0 (wrap64 ((ji10) - 1))) then (if t190 = t188 then (if t190 ≥ (wrap64 (Int.tdiv (ji10) 2)) then (carillonlaw01_OctetsBack.j0 k a0 a2 true) else (carillonlaw01_OctetsBack.j0 k a0 a2 (decide (t190 < (wrap64 (Int.tdiv (wrap64 (-(ji10))) 2)))))) else (if t190 = (wrap64 (t188 - (ji10))) then (if t190 ≥ (wrap64 (Int.tdiv (ji10) 2)) then (carillonlaw01_OctetsBack.j0 k a0 a2 true) else (carillonlaw01_OctetsBack.j0 k a0 a2 (decide (t190 < (wrap64 (Int.tdiv (wrap64 (-(ji10))) 2)))))) else (carillonlaw01_OctetsBack.j0 k a0 a2 true))) else (carillonlaw01_OctetsBack.j0 k a0 a2 true)) else (carillonlaw01_OctetsBack.j0 k a0 a2 true)) = some r := by rw [if_pos rfl] at H; exact H
        clear H
        have H := H1
        clear H1
        by_cases c18 : t191 = true
        · subst c18
          have H1 : (if t188 = (Go.bits .and .i64 a0 (wrap64 ((ji10) - 1))) then (if t190 = t188 then (if t190 ≥ (wrap64 (Int.tdiv (ji10) 2)) then (carillonlaw01_OctetsBack.j0 k a0 a2 true) else (carillonlaw01_OctetsBack.j0 k a0 a2 (decide (t190 < (wrap64 (Int.tdiv (wrap64 (-(ji10))) 2)))))) else (if t190 = (wrap64 (t188 - (ji10))) then (if t190 ≥ (wrap64 (Int.tdiv (ji10) 2)) then (carillonlaw01_OctetsBack.j0 k a0 a2 true) else (carillonlaw01_OctetsBack.j0 k a0 a2 (decide (t190 < (wrap64 (Int.tdiv (wrap64 (-(ji10))) 2)))))) else (carillonlaw01_OctetsBack.j0 k a0 a2 true))) else (carillonlaw01_OctetsBack.j0 k a0 a2 true)) = some r := by rw [if_pos rfl] at H; exact H
          clear H
          have H := H1
          clear H1
          by_cases c19 : t188 = (Go.bits .and .i64 a0 (wrap64 ((ji10) - 1)))
          · rw [if_pos c19] at H
            have c19b0 : (t188 == (Go.bits .and .i64 a0 (wrap64 ((ji10) - 1)))) = true := beq_iff_eq.mpr c19
            have c19b1 : (t188 != (Go.bits .and .i64 a0 (wrap64 ((ji10) - 1)))) = false := bne_eq_false_iff_eq.mpr c19
            clear c19
            (first | rw [c19b0] | (simp only [i64_w, i32_w]; rw [c19b0]) | skip)
            by_cases c20 : t190 = t188
            · rw [if_pos c20] at H
              have c20b0 : (t190 == t188) = true := beq_iff_eq.mpr c20
              have c20b1 : (t190 != t188) = false := bne_eq_false_iff_eq.mpr c20
              clear c20
              by_cases c21 : t190 ≥ (wrap64 (Int.tdiv (ji10) 2))
              · rw [if_pos c21] at H
                have c21b0 : decide ((wrap64 (Int.tdiv (ji10) 2)) ≤ t190) = true := decide_eq_true c21
                clear c21
                have H' := Aside0.mk H
                clear H
                go_wp2
                go_meet
                case rel => exact ⟨_, (true), (by first | rfl | (simp; done) | (simp [*]; done)), H', ⟨by first | omega | exact Nat.le_refl _⟩, ⟨by repeat (first | (with_reducible first | exact HB.out | apply below_alloc | apply pw_below_drewN | apply below_drew1) | exact HB.out)⟩⟩
              · rw [if_neg c21] at H
                have c21b0 : decide ((wrap64 (Int.tdiv (ji10) 2)) ≤ t190) = false := decide_eq_false c21
                clear c21
                have H' := Aside0.mk H
                clear H
                go_wp2
                go_meet
                case rel => exact ⟨_, (decide (t190 < (wrap64 (Int.tdiv (wrap64 (-(ji10))) 2)))), (by first | rfl | (simp; done) | (simp only [← hji10] <;> (first | rfl | simp)) | (simp [*]; done)), H', ⟨by first | omega | exact Nat.le_refl _⟩, ⟨by repeat (first | (with_reducible first | exact HB.out | apply below_alloc | apply pw_below_drewN | apply below_drew1) | exact HB.out)⟩⟩
            · rw [if_neg c20] at H
              have c20b0 : (t190 == t188) = false := beq_eq_false_iff_ne.mpr c20
              have c20b1 : (t190 != t188) = true := bne_iff_ne.mpr c20
              by_cases c22 : t190 = (wrap64 (t188 - (ji10)))
              · rw [if_pos c22] at H
                have c22b0 : (t190 == (wrap64 (t188 - (ji10)))) = true := beq_iff_eq.mpr c22
                have c22b1 : (t190 != (wrap64 (t188 - (ji10)))) = false := bne_eq_false_iff_eq.mpr c22
                clear c22
                by_cases c23 : t190 ≥ (wrap64 (Int.tdiv (ji10) 2))
                · rw [if_pos c23] at H
                  have c23b0 : decide ((wrap64 (Int.tdiv (ji10) 2)) ≤ t190) = true := decide_eq_true c23
                  clear c23
                  have H' := Aside0.mk H
                  clear H
                  go_wp2
                  go_meet
                  case rel => exact ⟨_, (true), (by first | rfl | (simp; done) | (simp [*]; done)), H', ⟨by first | omega | exact Nat.le_refl _⟩, ⟨by repeat (first | (with_reducible first | exact HB.out | apply below_alloc | apply pw_below_drewN | apply below_drew1) | exact HB.out)⟩⟩
                · rw [if_neg c23] at H
                  have c23b0 : decide ((wrap64 (Int.tdiv (ji10) 2)) ≤ t190) = false := decide_eq_false c23
                  clear c23
                  have H' := Aside0.mk H
                  clear H
                  go_wp2
                  go_meet
                  case rel => exact ⟨_, (decide (t190 < (wrap64 (Int.tdiv (wrap64 (-(ji10))) 2)))), (by first | rfl | (simp; done) | (simp only [← hji10] <;> (first | rfl | simp)) | (simp [*]; done)), H', ⟨by first | omega | exact Nat.le_refl _⟩, ⟨by repeat (first | (with_reducible first | exact HB.out | apply below_alloc | apply pw_below_drewN | apply below_drew1) | exact HB.out)⟩⟩
              · rw [if_neg c22] at H
                have c22b0 : (t190 == (wrap64 (t188 - (ji10)))) = false := beq_eq_false_iff_ne.mpr c22
                have c22b1 : (t190 != (wrap64 (t188 - (ji10)))) = true := bne_iff_ne.mpr c22
                have H' := Aside0.mk H
                clear H
                go_wp2
                go_meet
                case rel => exact ⟨_, (true), (by first | rfl | (simp; done) | (simp [*]; done)), H', ⟨by first | omega | exact Nat.le_refl _⟩, ⟨by repeat (first | (with_reducible first | exact HB.out | apply below_alloc | apply pw_below_drewN | apply below_drew1) | exact HB.out)⟩⟩
          · rw [if_neg c19] at H
            have c19b0 : (t188 == (Go.bits .and .i64 a0 (wrap64 ((ji10) - 1)))) = false := beq_eq_false_iff_ne.mpr c19
            have c19b1 : (t188 != (Go.bits .and .i64 a0 (wrap64 ((ji10) - 1)))) = true := bne_iff_ne.mpr c19
            (first | rw [c19b0] | (simp only [i64_w, i32_w]; rw [c19b0]) | skip)
            have H' := Aside0.mk H
            clear H
            go_wp2
            go_meet
            case rel => exact ⟨_, (true), (by first | rfl | (simp; done) | (simp [*]; done)), H', ⟨by first | omega | exact Nat.le_refl _⟩, ⟨by repeat (first | (with_reducible first | exact HB.out | apply below_alloc | apply pw_below_drewN | apply below_drew1) | exact HB.out)⟩⟩
        · replace c18 := Bool.eq_false_iff.mpr c18
          subst c18
          have H1 : (carillonlaw01_OctetsBack.j0 k a0 a2 true) = some r := by rw [if_neg (show ¬ (false = true) by decide)] at H; exact H
          clear H
          have H := H1
          clear H1
          have H' := Aside0.mk H
          clear H
          go_wp2
          go_meet
          case rel => exact ⟨_, (true), (by first | rfl | (simp; done) | (simp [*]; done)), H', ⟨by first | omega | exact Nat.le_refl _⟩, ⟨by repeat (first | (with_reducible first | exact HB.out | apply below_alloc | apply pw_below_drewN | apply below_drew1) | exact HB.out)⟩⟩
      · replace c17 := Bool.eq_false_iff.mpr c17
        subst c17
        have H1 : (carillonlaw01_OctetsBack.j0 k a0 a2 true) = some r := by rw [if_neg (show ¬ (false = true) by decide)] at H; exact H
        clear H
        have H := H1
        clear H1
        have H' := Aside0.mk H
        clear H
        go_wp2
        go_meet
        case rel => exact ⟨_, (true), (by first | rfl | (simp; done) | (simp [*]; done)), H', ⟨by first | omega | exact Nat.le_refl _⟩, ⟨by repeat (first | (with_reducible first | exact HB.out | apply below_alloc | apply pw_below_drewN | apply below_drew1) | exact HB.out)⟩⟩
    case rest =>
      clear HC11
      try clear c1
      try clear c2
      try clear p2
      try clear p6
      try clear c7
      try clear c9
      try clear c9b0
      try clear c9b1
      try clear c10
      try clear c12
      try clear c16
      try clear c17
      try clear c18
      try clear c19
      try clear c19b0
      try clear c19b1
      try clear c20
      try clear c20b0
      try clear c20b1
      try clear c21
      try clear c21b0
      try clear c22
      try clear c22b0
      try clear c22b1
      try clear c23
      try clear c23b0
      obtain ⟨kq, x79_10, rfl, HA, HJ10, HB⟩ := hcut
      cases kq with
      | zero => exact absurd HA.out (by simp [carillonlaw01_OctetsBack.j0])
      | succ kj10 =>
        have H := HA.out
        clear HA
        simp only [carillonlaw01_OctetsBack.j0] at H
        by_cases c24 : x79_10 = true
        · subst c24
          have H1 : (some false) = some r := by rw [if_pos rfl] at H; exact H
          clear H
          have H := H1
          clear H1
          obtain rfl := Option.some.inj H
          go_wp2
          go_ret
          exact ⟨by first | rfl | (simp [errW_none, errW_some] <;> rfl) | (simp only [← hji8, ← hji10]; first | rfl | (simp [errW_none, errW_some] <;> rfl)) | (simp [*, errW_none, errW_some] <;> rfl), by repeat (first | (with_reducible first | exact HB.out | apply below_alloc | apply pw_below_drewN | apply below_drew1) | exact HB.out)⟩
        · replace c24 := Bool.eq_false_iff.mpr c24
          subst c24
          have H1 : ((octets_Put.f ([] : List Int) a0 8).bind fun t192 => ((octets_Signed.f kj10 t192 0 8).bind fun bt195 => ((octets_PutId.f ([] : List Int) a2).bind fun t197 => ((octets_GetId.f kj10 t197 0).bind fun bt200 => (if bt195.2 = true then (if bt200.2 = true then (if bt195.1 = a0 then (if bt200.1 = a2 then ((carillonlaw01_awake.f kj10).bind fun t202 => (some t202)) else (some false)) else (some false)) else (some false)) else (some false)))))) = some r := by rw [if_neg (show ¬ (false = true) by decide)] at H; exact H
          clear H
          have H := H1
          clear H1
          replace H := Option.bind_eq_some_iff.mp H
          obtain ⟨t192, A250, H⟩ := H
          replace H : ((octets_Signed.f kj10 t192 0 8).bind fun bt195 => ((octets_PutId.f ([] : List Int) a2).bind fun t197 => ((octets_GetId.f kj10 t197 0).bind fun bt200 => (if bt195.2 = true then (if bt200.2 = true then (if bt195.1 = a0 then (if bt200.1 = a2 then ((carillonlaw01_awake.f kj10).bind fun t202 => (some t202)) else (some false)) else (some false)) else (some false)) else (some false))))) = some r := H
          have A25 := Aside0.mk A250
          clear A250
          replace H := Option.bind_eq_some_iff.mp H
          obtain ⟨⟨t195, t196⟩, A260, H⟩ := H
          replace H : ((octets_PutId.f ([] : List Int) a2).bind fun t197 => ((octets_GetId.f kj10 t197 0).bind fun bt200 => (if t196 = true then (if bt200.2 = true then (if t195 = a0 then (if bt200.1 = a2 then ((carillonlaw01_awake.f kj10).bind fun t202 => (some t202)) else (some false)) else (some false)) else (some false)) else (some false)))) = some r := H
          have A26 := Aside0.mk A260
          clear A260
          replace H := Option.bind_eq_some_iff.mp H
          obtain ⟨t197, A270, H⟩ := H
          replace H : ((octets_GetId.f kj10 t197 0).bind fun bt200 => (if t196 = true then (if bt200.2 = true then (if t195 = a0 then (if bt200.1 = a2 then ((carillonlaw01_awake.f kj10).bind fun t202 => (some t202)) else (some false)) else (some false)) else (some false)) else (some false))) = some r := H
          have A27 := Aside0.mk A270
          clear A270
          replace H := Option.bind_eq_some_iff.mp H
          obtain ⟨⟨t200, t201⟩, A280, H⟩ := H
          replace H : (if t196 = true then (if t201 = true then (if t195 = a0 then (if t200 = a2 then ((carillonlaw01_awake.f kj10).bind fun t202 => (some t202)) else (some false)) else (some false)) else (some false)) else (some false)) = some r := H
          have A28 := Aside0.mk A280
          clear A280
          by_cases c29 : t196 = true
          · subst c29
            have H1 : (if t201 = true then (if t195 = a0 then (if t200 = a2 then ((carillonlaw01_awake.f kj10).bind fun t202 => (some t202)) else (some false)) else (some false)) else (some false)) = some r := by rw [if_pos rfl] at H; exact H
            clear H
            have H := H1
            clear H1
            by_cases c30 : t201 = true
            · subst c30
              have H1 : (if t195 = a0 then (if t200 = a2 then ((carillonlaw01_awake.f kj10).bind fun t202 => (some t202)) else (some false)) else (some false)) = some r := by rw [if_pos rfl] at H; exact H
              clear H
              have H := H1
              clear H1
              by_cases c31 : t195 = a0
              · rw [if_pos c31] at H
                have c31b0 : (t195 == a0) = true := beq_iff_eq.mpr c31
                have c31b1 : (t195 != a0) = false := bne_eq_false_iff_eq.mpr c31
                clear c31
                by_cases c32 : t200 = a2
                · rw [if_pos c32] at H
                  have c32b0 : (t200 == a2) = true := beq_iff_eq.mpr c32
                  have c32b1 : (t200 != a2) = false := bne_eq_false_iff_eq.mpr c32
                  clear c32
                  replace H := Option.bind_eq_some_iff.mp H
                  obtain ⟨t202, A330, H⟩ := H
                  replace H : (some t202) = some r := H
                  have A33 := Aside0.mk A330
                  clear A330
                  obtain rfl := Option.some.inj H
                  go_wp2_with (first | ((with_reducible refine gate_callee (f := 10) rfl ?_); refine goesL_ (some 82) rfl rfl Try.func10 (by kernel_rfl) rfl #[.slice none 0 0, .int .i64 a0, .int .i64 8] rfl (by (try simp only [List.map_toArray, List.map_cons, List.map_nil]); first | done | rfl | (simp only [List.length_drop, List.length_take]; rfl)) ?_; (refine (octets_Put.calls _ _ ([] : List Int) a0 8 t192 _ ?side1 ?side2 A25.out).mono ?_); (case side1 => exact Kd.C_nil _ _); (case side2 => exact Nat.le_refl _); rintro e w34 ⟨v193, rfl, ho0, hb⟩; refine ⟨_, rfl, ?_⟩; have n0_ := Aside0.mk (Kd.R_lower ho0 (below_size (by repeat (first | (with_reducible first | exact HB.out | apply below_alloc | apply pw_below_drewN | apply below_drew1) | exact HB.out)))); have n1_ := Aside0.mk (below_step (by repeat (first | (with_reducible first | exact HB.out | apply below_alloc | apply pw_below_drewN | apply below_drew1) | exact HB.out)) hb); clear HB; have HO194 := n0_; have HB := n1_; clear n0_ n1_; (try clear hb); (try clear hb2); (try clear hk); (try clear hi); (try clear ho0); obtain ⟨Ao35, co35, eo35⟩ := Kd.R_slice HO194.out; subst eo35) | ((with_reducible refine gate_callee (f := 12) rfl ?_); refine goesL_ (some 83) rfl rfl Try.func12 (by kernel_rfl) rfl #[.slice Ao35 t192.length co35, .int .i64 0, .int .i64 8] rfl (by (try simp only [List.map_toArray, List.map_cons, List.map_nil]); first | done | rfl | (simp only [List.length_drop, List.length_take]; rfl)) ?_; (with_reducible refine (octets_Signed.calls kj10 _ _ t192 0 8 t195 true _ ?side1 ?side2 A26.out).mono ?_); (case side1 => repeat (first | exact (Kd.R_reads' HO194.out).2.2 | (with_reducible refine Kd.C_alloc ?_ _) | (with_reducible refine Kd.C_drewN ?_ _) | (with_reducible refine Kd.C_drew ?_))); (case side2 => exact (Kd.R_reads' HO194.out).2.1); rintro e w' ⟨rfl, ⟨nd, rfl⟩⟩; refine ⟨_, rfl, ?_⟩) | ((with_reducible refine gate_callee (f := 14) rfl ?_); refine goesL_ (some 88) rfl rfl Try.func14 (by kernel_rfl) rfl #[.slice none 0 0, .int .u64 a2] rfl (by (try simp only [List.map_toArray, List.map_cons, List.map_nil]); first | done | rfl | (simp only [List.length_drop, List.length_take]; rfl)) ?_; (refine (octets_PutId.calls _ _ ([] : List Int) a2 t197 _ ?side1 ?side2 A27.out).mono ?_); (case side1 => exact Kd.C_nil _ _); (case side2 => exact Nat.le_refl _); rintro e w36 ⟨v198, rfl, ho0, hb⟩; refine ⟨_, rfl, ?_⟩; have n0_ := Aside0.mk (Kd.R_elder' (by (with_reducible repeat (first | apply Kd.R_alloc | apply Kd.R_drewN | apply Kd.R_drew)); exact HO194.out) (Kd.R_base ho0) hb); have n1_ := Aside0.mk (Kd.R_lower (Kd.R_new' ho0 (Kd.R_lt (by (with_reducible repeat (first | apply Kd.R_alloc | apply Kd.R_drewN | apply Kd.R_drew)); exact HO194.out))) (below_size (by repeat (first | (with_reducible first | exact HB.out | apply below_alloc | apply pw_below_drewN | apply below_drew1) | exact HB.out)))); have n2_ := Aside0.mk (below_step (by repeat (first | (with_reducible first | exact HB.out | apply below_alloc | apply pw_below_drewN | apply below_drew1) | exact HB.out)) hb); clear HO194; clear HB; have HO194 := n0_; have HO199 := n1_; have HB := n2_; clear n0_ n1_ n2_; (try clear hb); (try clear hb2); (try clear hk); (try clear hi); (try clear ho0); obtain ⟨Ao37, co37, eo37⟩ := Kd.R_slice HO199.out; subst eo37) | ((with_reducible refine gate_callee (f := 17) rfl ?_); refine goesL_ (some 89) rfl rfl Try.func17 (by kernel_rfl) rfl #[.slice Ao37 t197.length co37, .int .i64 0] rfl (by (try simp only [List.map_toArray, List.map_cons, List.map_nil]); first | done | rfl | (simp only [List.length_drop, List.length_take]; rfl)) ?_; (with_reducible refine (octets_GetId.calls kj10 _ _ t197 0 t200 true _ ?side1 ?side2 A28.out).mono ?_); (case side1 => repeat (first | exact (Kd.R_reads' HO199.out).2.2 | (with_reducible refine Kd.C_alloc ?_ _) | (with_reducible refine Kd.C_drewN ?_ _) | (with_reducible refine Kd.C_drew ?_))); (case side2 => exact (Kd.R_reads' HO199.out).2.1); rintro e w' ⟨rfl, ⟨nd, rfl⟩⟩; refine ⟨_, rfl, ?_⟩) | (go_at_call 11; (with_reducible refine (carillonlaw01_awake.calls kj10  t202 _ A33.out).mono ?_); rintro e w38 ⟨rfl, hb⟩; have n0_ := Aside0.mk (Kd.R_below (by (with_reducible repeat (first | apply Kd.R_alloc | apply Kd.R_drewN | apply Kd.R_drew)); exact HO194.out) hb); have n1_ := Aside0.mk (Kd.R_below (by (with_reducible repeat (first | apply Kd.R_alloc | apply Kd.R_drewN | apply Kd.R_drew)); exact HO199.out) hb); have n2_ := Aside0.mk (below_step (by repeat (first | (with_reducible first | exact HB.out | apply below_alloc | apply pw_below_drewN | apply below_drew1) | exact HB.out)) hb); clear HO194; clear HO199; clear HB; have HO194 := n0_; have HO199 := n1_; have HB := n2_; clear n0_ n1_ n2_; (try clear hb); (try clear hb2); (try clear hk); (try clear hi)))
                  go_ret
                  exact ⟨by first | rfl | (simp [errW_none, errW_some] <;> rfl) | (simp only [← hji8, ← hji10]; first | rfl | (simp [errW_none, errW_some] <;> rfl)) | (simp [*, errW_none, errW_some] <;> rfl), by repeat (first | (with_reducible first | exact HB.out | apply below_alloc | apply pw_below_drewN | apply below_drew1) | exact HB.out)⟩
                · rw [if_neg c32] at H
                  have c32b0 : (t200 == a2) = false := beq_eq_false_iff_ne.mpr c32
                  have c32b1 : (t200 != a2) = true := bne_iff_ne.mpr c32
                  obtain rfl := Option.some.inj H
                  go_wp2_with (first | ((with_reducible refine gate_callee (f := 10) rfl ?_); refine goesL_ (some 82) rfl rfl Try.func10 (by kernel_rfl) rfl #[.slice none 0 0, .int .i64 a0, .int .i64 8] rfl (by (try simp only [List.map_toArray, List.map_cons, List.map_nil]); first | done | rfl | (simp only [List.length_drop, List.length_take]; rfl)) ?_; (refine (octets_Put.calls _ _ ([] : List Int) a0 8 t192 _ ?side1 ?side2 A25.out).mono ?_); (case side1 => exact Kd.C_nil _ _); (case side2 => exact Nat.le_refl _); rintro e w39 ⟨v193, rfl, ho0, hb⟩; refine ⟨_, rfl, ?_⟩; have n0_ := Aside0.mk (Kd.R_lower ho0 (below_size (by repeat (first | (with_reducible first | exact HB.out | apply below_alloc | apply pw_below_drewN | apply below_drew1) | exact HB.out)))); have n1_ := Aside0.mk (below_step (by repeat (first | (with_reducible first | exact HB.out | apply below_alloc | apply pw_below_drewN | apply below_drew1) | exact HB.out)) hb); clear HB; have HO194 := n0_; have HB := n1_; clear n0_ n1_; (try clear hb); (try clear hb2); (try clear hk); (try clear hi); (try clear ho0); obtain ⟨Ao40, co40, eo40⟩ := Kd.R_slice HO194.out; subst eo40) | ((with_reducible refine gate_callee (f := 12) rfl ?_); refine goesL_ (some 83) rfl rfl Try.func12 (by kernel_rfl) rfl #[.slice Ao40 t192.length co40, .int .i64 0, .int .i64 8] rfl (by (try simp only [List.map_toArray, List.map_cons, List.map_nil]); first | done | rfl | (simp only [List.length_drop, List.length_take]; rfl)) ?_; (with_reducible refine (octets_Signed.calls kj10 _ _ t192 0 8 t195 true _ ?side1 ?side2 A26.out).mono ?_); (case side1 => repeat (first | exact (Kd.R_reads' HO194.out).2.2 | (with_reducible refine Kd.C_alloc ?_ _) | (with_reducible refine Kd.C_drewN ?_ _) | (with_reducible refine Kd.C_drew ?_))); (case side2 => exact (Kd.R_reads' HO194.out).2.1); rintro e w' ⟨rfl, ⟨nd, rfl⟩⟩; refine ⟨_, rfl, ?_⟩) | ((with_reducible refine gate_callee (f := 14) rfl ?_); refine goesL_ (some 88) rfl rfl Try.func14 (by kernel_rfl) rfl #[.slice none 0 0, .int .u64 a2] rfl (by (try simp only [List.map_toArray, List.map_cons, List.map_nil]); first | done | rfl | (simp only [List.length_drop, List.length_take]; rfl)) ?_; (refine (octets_PutId.calls _ _ ([] : List Int) a2 t197 _ ?side1 ?side2 A27.out).mono ?_); (case side1 => exact Kd.C_nil _ _); (case side2 => exact Nat.le_refl _); rintro e w41 ⟨v198, rfl, ho0, hb⟩; refine ⟨_, rfl, ?_⟩; have n0_ := Aside0.mk (Kd.R_elder' (by (with_reducible repeat (first | apply Kd.R_alloc | apply Kd.R_drewN | apply Kd.R_drew)); exact HO194.out) (Kd.R_base ho0) hb); have n1_ := Aside0.mk (Kd.R_lower (Kd.R_new' ho0 (Kd.R_lt (by (with_reducible repeat (first | apply Kd.R_alloc | apply Kd.R_drewN | apply Kd.R_drew)); exact HO194.out))) (below_size (by repeat (first | (with_reducible first | exact HB.out | apply below_alloc | apply pw_below_drewN | apply below_drew1) | exact HB.out)))); have n2_ := Aside0.mk (below_step (by repeat (first | (with_reducible first | exact HB.out | apply below_alloc | apply pw_below_drewN | apply below_drew1) | exact HB.out)) hb); clear HO194; clear HB; have HO194 := n0_; have HO199 := n1_; have HB := n2_; clear n0_ n1_ n2_; (try clear hb); (try clear hb2); (try clear hk); (try clear hi); (try clear ho0); obtain ⟨Ao42, co42, eo42⟩ := Kd.R_slice HO199.out; subst eo42) | ((with_reducible refine gate_callee (f := 17) rfl ?_); refine goesL_ (some 89) rfl rfl Try.func17 (by kernel_rfl) rfl #[.slice Ao42 t197.length co42, .int .i64 0] rfl (by (try simp only [List.map_toArray, List.map_cons, List.map_nil]); first | done | rfl | (simp only [List.length_drop, List.length_take]; rfl)) ?_; (with_reducible refine (octets_GetId.calls kj10 _ _ t197 0 t200 true _ ?side1 ?side2 A28.out).mono ?_); (case side1 => repeat (first | exact (Kd.R_reads' HO199.out).2.2 | (with_reducible refine Kd.C_alloc ?_ _) | (with_reducible refine Kd.C_drewN ?_ _) | (with_reducible refine Kd.C_drew ?_))); (case side2 => exact (Kd.R_reads' HO199.out).2.1); rintro e w' ⟨rfl, ⟨nd, rfl⟩⟩; refine ⟨_, rfl, ?_⟩))
                  go_ret
                  exact ⟨by first | rfl | (simp [errW_none, errW_some] <;> rfl) | (simp only [← hji8, ← hji10]; first | rfl | (simp [errW_none, errW_some] <;> rfl)) | (simp [*, errW_none, errW_some] <;> rfl), by repeat (first | (with_reducible first | exact HB.out | apply below_alloc | apply pw_below_drewN | apply below_drew1) | exact HB.out)⟩
              · rw [if_neg c31] at H
                have c31b0 : (t195 == a0) = false := beq_eq_false_iff_ne.mpr c31
                have c31b1 : (t195 != a0) = true := bne_iff_ne.mpr c31
                obtain rfl := Option.some.inj H
                go_wp2_with (first | ((with_reducible refine gate_callee (f := 10) rfl ?_); refine goesL_ (some 82) rfl rfl Try.func10 (by kernel_rfl) rfl #[.slice none 0 0, .int .i64 a0, .int .i64 8] rfl (by (try simp only [List.map_toArray, List.map_cons, List.map_nil]); first | done | rfl | (simp only [List.length_drop, List.length_take]; rfl)) ?_; (refine (octets_Put.calls _ _ ([] : List Int) a0 8 t192 _ ?side1 ?side2 A25.out).mono ?_); (case side1 => exact Kd.C_nil _ _); (case side2 => exact Nat.le_refl _); rintro e w43 ⟨v193, rfl, ho0, hb⟩; refine ⟨_, rfl, ?_⟩; have n0_ := Aside0.mk (Kd.R_lower ho0 (below_size (by repeat (first | (with_reducible first | exact HB.out | apply below_alloc | apply pw_below_drewN | apply below_drew1) | exact HB.out)))); have n1_ := Aside0.mk (below_step (by repeat (first | (with_reducible first | exact HB.out | apply below_alloc | apply pw_below_drewN | apply below_drew1) | exact HB.out)) hb); clear HB; have HO194 := n0_; have HB := n1_; clear n0_ n1_; (try clear hb); (try clear hb2); (try clear hk); (try clear hi); (try clear ho0); obtain ⟨Ao44, co44, eo44⟩ := Kd.R_slice HO194.out; subst eo44) | ((with_reducible refine gate_callee (f := 12) rfl ?_); refine goesL_ (some 83) rfl rfl Try.func12 (by kernel_rfl) rfl #[.slice Ao44 t192.length co44, .int .i64 0, .int .i64 8] rfl (by (try simp only [List.map_toArray, List.map_cons, List.map_nil]); first | done | rfl | (simp only [List.length_drop, List.length_take]; rfl)) ?_; (with_reducible refine (octets_Signed.calls kj10 _ _ t192 0 8 t195 true _ ?side1 ?side2 A26.out).mono ?_); (case side1 => repeat (first | exact (Kd.R_reads' HO194.out).2.2 | (with_reducible refine Kd.C_alloc ?_ _) | (with_reducible refine Kd.C_drewN ?_ _) | (with_reducible refine Kd.C_drew ?_))); (case side2 => exact (Kd.R_reads' HO194.out).2.1); rintro e w' ⟨rfl, ⟨nd, rfl⟩⟩; refine ⟨_, rfl, ?_⟩) | ((with_reducible refine gate_callee (f := 14) rfl ?_); refine goesL_ (some 88) rfl rfl Try.func14 (by kernel_rfl) rfl #[.slice none 0 0, .int .u64 a2] rfl (by (try simp only [List.map_toArray, List.map_cons, List.map_nil]); first | done | rfl | (simp only [List.length_drop, List.length_take]; rfl)) ?_; (refine (octets_PutId.calls _ _ ([] : List Int) a2 t197 _ ?side1 ?side2 A27.out).mono ?_); (case side1 => exact Kd.C_nil _ _); (case side2 => exact Nat.le_refl _); rintro e w45 ⟨v198, rfl, ho0, hb⟩; refine ⟨_, rfl, ?_⟩; have n0_ := Aside0.mk (Kd.R_elder' (by (with_reducible repeat (first | apply Kd.R_alloc | apply Kd.R_drewN | apply Kd.R_drew)); exact HO194.out) (Kd.R_base ho0) hb); have n1_ := Aside0.mk (Kd.R_lower (Kd.R_new' ho0 (Kd.R_lt (by (with_reducible repeat (first | apply Kd.R_alloc | apply Kd.R_drewN | apply Kd.R_drew)); exact HO194.out))) (below_size (by repeat (first | (with_reducible first | exact HB.out | apply below_alloc | apply pw_below_drewN | apply below_drew1) | exact HB.out)))); have n2_ := Aside0.mk (below_step (by repeat (first | (with_reducible first | exact HB.out | apply below_alloc | apply pw_below_drewN | apply below_drew1) | exact HB.out)) hb); clear HO194; clear HB; have HO194 := n0_; have HO199 := n1_; have HB := n2_; clear n0_ n1_ n2_; (try clear hb); (try clear hb2); (try clear hk); (try clear hi); (try clear ho0); obtain ⟨Ao46, co46, eo46⟩ := Kd.R_slice HO199.out; subst eo46) | ((with_reducible refine gate_callee (f := 17) rfl ?_); refine goesL_ (some 89) rfl rfl Try.func17 (by kernel_rfl) rfl #[.slice Ao46 t197.length co46, .int .i64 0] rfl (by (try simp only [List.map_toArray, List.map_cons, List.map_nil]); first | done | rfl | (simp only [List.length_drop, List.length_take]; rfl)) ?_; (with_reducible refine (octets_GetId.calls kj10 _ _ t197 0 t200 true _ ?side1 ?side2 A28.out).mono ?_); (case side1 => repeat (first | exact (Kd.R_reads' HO199.out).2.2 | (with_reducible refine Kd.C_alloc ?_ _) | (with_reducible refine Kd.C_drewN ?_ _) | (with_reducible refine Kd.C_drew ?_))); (case side2 => exact (Kd.R_reads' HO199.out).2.1); rintro e w' ⟨rfl, ⟨nd, rfl⟩⟩; refine ⟨_, rfl, ?_⟩))
                go_ret
                exact ⟨by first | rfl | (simp [errW_none, errW_some] <;> rfl) | (simp only [← hji8, ← hji10]; first | rfl | (simp [errW_none, errW_some] <;> rfl)) | (simp [*, errW_none, errW_some] <;> rfl), by repeat (first | (with_reducible first | exact HB.out | apply below_alloc | apply pw_below_drewN | apply below_drew1) | exact HB.out)⟩
            · replace c30 := Bool.eq_false_iff.mpr c30
              subst c30
              have H1 : (some false) = some r := by rw [if_neg (show ¬ (false = true) by decide)] at H; exact H
              clear H
              have H := H1
              clear H1
              obtain rfl := Option.some.inj H
              go_wp2_with (first | ((with_reducible refine gate_callee (f := 10) rfl ?_); refine goesL_ (some 82) rfl rfl Try.func10 (by kernel_rfl) rfl #[.slice none 0 0, .int .i64 a0, .int .i64 8] rfl (by (try simp only [List.map_toArray, List.map_cons, List.map_nil]); first | done | rfl | (simp only [List.length_drop, List.length_take]; rfl)) ?_; (refine (octets_Put.calls _ _ ([] : List Int) a0 8 t192 _ ?side1 ?side2 A25.out).mono ?_); (case side1 => exact Kd.C_nil _ _); (case side2 => exact Nat.le_refl _); rintro e w47 ⟨v193, rfl, ho0, hb⟩; refine ⟨_, rfl, ?_⟩; have n0_ := Aside0.mk (Kd.R_lower ho0 (below_size (by repeat (first | (with_reducible first | exact HB.out | apply below_alloc | apply pw_below_drewN | apply below_drew1) | exact HB.out)))); have n1_ := Aside0.mk (below_step (by repeat (first | (with_reducible first | exact HB.out | apply below_alloc | apply pw_below_drewN | apply below_drew1) | exact HB.out)) hb); clear HB; have HO194 := n0_; have HB := n1_; clear n0_ n1_; (try clear hb); (try clear hb2); (try clear hk); (try clear hi); (try clear ho0); obtain ⟨Ao48, co48, eo48⟩ := Kd.R_slice HO194.out; subst eo48) | ((with_reducible refine gate_callee (f := 12) rfl ?_); refine goesL_ (some 83) rfl rfl Try.func12 (by kernel_rfl) rfl #[.slice Ao48 t192.length co48, .int .i64 0, .int .i64 8] rfl (by (try simp only [List.map_toArray, List.map_cons, List.map_nil]); first | done | rfl | (simp only [List.length_drop, List.length_take]; rfl)) ?_; (with_reducible refine (octets_Signed.calls kj10 _ _ t192 0 8 t195 true _ ?side1 ?side2 A26.out).mono ?_); (case side1 => repeat (first | exact (Kd.R_reads' HO194.out).2.2 | (with_reducible refine Kd.C_alloc ?_ _) | (with_reducible refine Kd.C_drewN ?_ _) | (with_reducible refine Kd.C_drew ?_))); (case side2 => exact (Kd.R_reads' HO194.out).2.1); rintro e w' ⟨rfl, ⟨nd, rfl⟩⟩; refine ⟨_, rfl, ?_⟩) | ((with_reducible refine gate_callee (f := 14) rfl ?_); refine goesL_ (some 88) rfl rfl Try.func14 (by kernel_rfl) rfl #[.slice none 0 0, .int .u64 a2] rfl (by (try simp only [List.map_toArray, List.map_cons, List.map_nil]); first | done | rfl | (simp only [List.length_drop, List.length_take]; rfl)) ?_; (refine (octets_PutId.calls _ _ ([] : List Int) a2 t197 _ ?side1 ?side2 A27.out).mono ?_); (case side1 => exact Kd.C_nil _ _); (case side2 => exact Nat.le_refl _); rintro e w49 ⟨v198, rfl, ho0, hb⟩; refine ⟨_, rfl, ?_⟩; have n0_ := Aside0.mk (Kd.R_elder' (by (with_reducible repeat (first | apply Kd.R_alloc | apply Kd.R_drewN | apply Kd.R_drew)); exact HO194.out) (Kd.R_base ho0) hb); have n1_ := Aside0.mk (Kd.R_lower (Kd.R_new' ho0 (Kd.R_lt (by (with_reducible repeat (first | apply Kd.R_alloc | apply Kd.R_drewN | apply Kd.R_drew)); exact HO194.out))) (below_size (by repeat (first | (with_reducible first | exact HB.out | apply below_alloc | apply pw_below_drewN | apply below_drew1) | exact HB.out)))); have n2_ := Aside0.mk (below_step (by repeat (first | (with_reducible first | exact HB.out | apply below_alloc | apply pw_below_drewN | apply below_drew1) | exact HB.out)) hb); clear HO194; clear HB; have HO194 := n0_; have HO199 := n1_; have HB := n2_; clear n0_ n1_ n2_; (try clear hb); (try clear hb2); (try clear hk); (try clear hi); (try clear ho0); obtain ⟨Ao50, co50, eo50⟩ := Kd.R_slice HO199.out; subst eo50) | ((with_reducible refine gate_callee (f := 17) rfl ?_); refine goesL_ (some 89) rfl rfl Try.func17 (by kernel_rfl) rfl #[.slice Ao50 t197.length co50, .int .i64 0] rfl (by (try simp only [List.map_toArray, List.map_cons, List.map_nil]); first | done | rfl | (simp only [List.length_drop, List.length_take]; rfl)) ?_; (with_reducible refine (octets_GetId.calls kj10 _ _ t197 0 t200 false _ ?side1 ?side2 A28.out).mono ?_); (case side1 => repeat (first | exact (Kd.R_reads' HO199.out).2.2 | (with_reducible refine Kd.C_alloc ?_ _) | (with_reducible refine Kd.C_drewN ?_ _) | (with_reducible refine Kd.C_drew ?_))); (case side2 => exact (Kd.R_reads' HO199.out).2.1); rintro e w' ⟨rfl, ⟨nd, rfl⟩⟩; refine ⟨_, rfl, ?_⟩))
              go_ret
              exact ⟨by first | rfl | (simp [errW_none, errW_some] <;> rfl) | (simp only [← hji8, ← hji10]; first | rfl | (simp [errW_none, errW_some] <;> rfl)) | (simp [*, errW_none, errW_some] <;> rfl), by repeat (first | (with_reducible first | exact HB.out | apply below_alloc | apply pw_below_drewN | apply below_drew1) | exact HB.out)⟩
          · replace c29 := Bool.eq_false_iff.mpr c29
            subst c29
            have H1 : (some false) = some r := by rw [if_neg (show ¬ (false = true) by decide)] at H; exact H
            clear H
            have H := H1
            clear H1
            obtain rfl := Option.some.inj H
            go_wp2_with (first | ((with_reducible refine gate_callee (f := 10) rfl ?_); refine goesL_ (some 82) rfl rfl Try.func10 (by kernel_rfl) rfl #[.slice none 0 0, .int .i64 a0, .int .i64 8] rfl (by (try simp only [List.map_toArray, List.map_cons, List.map_nil]); first | done | rfl | (simp only [List.length_drop, List.length_take]; rfl)) ?_; (refine (octets_Put.calls _ _ ([] : List Int) a0 8 t192 _ ?side1 ?side2 A25.out).mono ?_); (case side1 => exact Kd.C_nil _ _); (case side2 => exact Nat.le_refl _); rintro e w51 ⟨v193, rfl, ho0, hb⟩; refine ⟨_, rfl, ?_⟩; have n0_ := Aside0.mk (Kd.R_lower ho0 (below_size (by repeat (first | (with_reducible first | exact HB.out | apply below_alloc | apply pw_below_drewN | apply below_drew1) | exact HB.out)))); have n1_ := Aside0.mk (below_step (by repeat (first | (with_reducible first | exact HB.out | apply below_alloc | apply pw_below_drewN | apply below_drew1) | exact HB.out)) hb); clear HB; have HO194 := n0_; have HB := n1_; clear n0_ n1_; (try clear hb); (try clear hb2); (try clear hk); (try clear hi); (try clear ho0); obtain ⟨Ao52, co52, eo52⟩ := Kd.R_slice HO194.out; subst eo52) | ((with_reducible refine gate_callee (f := 12) rfl ?_); refine goesL_ (some 83) rfl rfl Try.func12 (by kernel_rfl) rfl #[.slice Ao52 t192.length co52, .int .i64 0, .int .i64 8] rfl (by (try simp only [List.map_toArray, List.map_cons, List.map_nil]); first | done | rfl | (simp only [List.length_drop, List.length_take]; rfl)) ?_; (with_reducible refine (octets_Signed.calls kj10 _ _ t192 0 8 t195 false _ ?side1 ?side2 A26.out).mono ?_); (case side1 => repeat (first | exact (Kd.R_reads' HO194.out).2.2 | (with_reducible refine Kd.C_alloc ?_ _) | (with_reducible refine Kd.C_drewN ?_ _) | (with_reducible refine Kd.C_drew ?_))); (case side2 => exact (Kd.R_reads' HO194.out).2.1); rintro e w' ⟨rfl, ⟨nd, rfl⟩⟩; refine ⟨_, rfl, ?_⟩) | ((with_reducible refine gate_callee (f := 14) rfl ?_); refine goesL_ (some 88) rfl rfl Try.func14 (by kernel_rfl) rfl #[.slice none 0 0, .int .u64 a2] rfl (by (try simp only [List.map_toArray, List.map_cons, List.map_nil]); first | done | rfl | (simp only [List.length_drop, List.length_take]; rfl)) ?_; (refine (octets_PutId.calls _ _ ([] : List Int) a2 t197 _ ?side1 ?side2 A27.out).mono ?_); (case side1 => exact Kd.C_nil _ _); (case side2 => exact Nat.le_refl _); rintro e w53 ⟨v198, rfl, ho0, hb⟩; refine ⟨_, rfl, ?_⟩; have n0_ := Aside0.mk (Kd.R_elder' (by (with_reducible repeat (first | apply Kd.R_alloc | apply Kd.R_drewN | apply Kd.R_drew)); exact HO194.out) (Kd.R_base ho0) hb); have n1_ := Aside0.mk (Kd.R_lower (Kd.R_new' ho0 (Kd.R_lt (by (with_reducible repeat (first | apply Kd.R_alloc | apply Kd.R_drewN | apply Kd.R_drew)); exact HO194.out))) (below_size (by repeat (first | (with_reducible first | exact HB.out | apply below_alloc | apply pw_below_drewN | apply below_drew1) | exact HB.out)))); have n2_ := Aside0.mk (below_step (by repeat (first | (with_reducible first | exact HB.out | apply below_alloc | apply pw_below_drewN | apply below_drew1) | exact HB.out)) hb); clear HO194; clear HB; have HO194 := n0_; have HO199 := n1_; have HB := n2_; clear n0_ n1_ n2_; (try clear hb); (try clear hb2); (try clear hk); (try clear hi); (try clear ho0); obtain ⟨Ao54, co54, eo54⟩ := Kd.R_slice HO199.out; subst eo54) | ((with_reducible refine gate_callee (f := 17) rfl ?_); refine goesL_ (some 89) rfl rfl Try.func17 (by kernel_rfl) rfl #[.slice Ao54 t197.length co54, .int .i64 0] rfl (by (try simp only [List.map_toArray, List.map_cons, List.map_nil]); first | done | rfl | (simp only [List.length_drop, List.length_take]; rfl)) ?_; (with_reducible refine (octets_GetId.calls kj10 _ _ t197 0 t200 t201 _ ?side1 ?side2 A28.out).mono ?_); (case side1 => repeat (first | exact (Kd.R_reads' HO199.out).2.2 | (with_reducible refine Kd.C_alloc ?_ _) | (with_reducible refine Kd.C_drewN ?_ _) | (with_reducible refine Kd.C_drew ?_))); (case side2 => exact (Kd.R_reads' HO199.out).2.1); rintro e w' ⟨rfl, ⟨nd, rfl⟩⟩; refine ⟨_, rfl, ?_⟩))
            go_ret
            exact ⟨by first | rfl | (simp [errW_none, errW_some] <;> rfl) | (simp only [← hji8, ← hji10]; first | rfl | (simp [errW_none, errW_some] <;> rfl)) | (simp [*, errW_none, errW_some] <;> rfl), by repeat (first | (with_reducible first | exact HB.out | apply below_alloc | apply pw_below_drewN | apply below_drew1) | exact HB.out)⟩
  · rw [if_neg c9] at H
    exact absurd H (by simp)

/-- THE ONE PURE STATEMENT of carillonlaw01_OctetsBack: yours. -/
def carillonlaw01_OctetsBack.Pure : Prop := ∀ (a0 : Int) (a1 : Int) (a2 : Int), (Lit.int .i64 a0).wf = true → (Lit.int .i64 a1).wf = true → (Lit.int .u64 a2).wf = true → ∃ k, carillonlaw01_OctetsBack.f k a0 a1 a2 = some true
theorem carillonlaw01_OctetsBack.walk (P : carillonlaw01_OctetsBack.Pure) (a0 : Int) (a1 : Int) (a2 : Int) (w : World) (w0 : (Lit.int .i64 a0).wf = true) (w1 : (Lit.int .i64 a1).wf = true) (w2 : (Lit.int .u64 a2).wf = true) :
    Calls Try.prog 7 #[.int .i64 a0, .int .i64 a1, .int .u64 a2] w fun e w' => e = .returned (.bool true) ∧ Below w.heap.size w w' := by
  obtain ⟨k, h⟩ := P a0 a1 a2 w0 w1 w2
  refine (carillonlaw01_OctetsBack.calls k a0 a1 a2 true w h).mono ?_
  rintro e w' ⟨rfl, hd⟩
  exact ⟨rfl, hd⟩

/-! ### octets_Zero: function 18 -/
def octets_Zero.l0 : Nat → List Int → Int → Int → Option (Bool)
  | 0, _, _, _ => none
  | k + 1, x18, x19, x20 => if x20 < x19 then (if 0 ≤ x20 then (if x20 < (x18.length : Int) then (if (rd x18 x20) = 0 then (octets_Zero.l0 k x18 x19 (wrap64 (x20 + 1))) else (some false)) else (none)) else (none)) else (some true)
def octets_Zero.f (k : Nat) (l0 : List Int) (a1 : Int) (a2 : Int) : Option (Bool) := (octets_none.f l0 a1 a2).bind fun t203 => (if t203 = true then (some false) else (if 0 ≤ a1 then (if a1 ≤ (wrap64 (a1 + a2)) then (if (wrap64 (a1 + a2)) ≤ (l0.length : Int) then (octets_Zero.l0 k ((l0.take ((wrap64 (a1 + a2)) : Int).toNat).drop (a1 : Int).toNat) (((l0.take ((wrap64 (a1 + a2)) : Int).toNat).drop (a1 : Int).toNat).length : Int) 0) else (none)) else (none)) else (none)))
theorem octets_Zero.mono_l : ∀ k, (∀ y0 y1 y2, LeO (octets_Zero.l0 k y0 y1 y2) (octets_Zero.l0 (k + 1) y0 y1 y2))
  | 0 => fun _ _ _ r h => by simp [octets_Zero.l0] at h
  | k + 1 => by
    have ih0 := octets_Zero.mono_l k
    · intro y0 y1 y2
      unfold octets_Zero.l0
      repeat' first
      | (with_reducible exact ih0 _ _ _)
      | (with_reducible exact LeO.refl _)
      | (with_reducible exact LeO.none _)
      | (with_reducible refine LeO.ite ?_ ?_)
      | (with_reducible refine LeO.bind ?_ (fun _ => ?_))
      | exact ih0 _ _ _
      | exact LeO.none _
      | refine LeO.ite ?_ ?_
      | refine LeO.bind ?_ (fun _ => ?_)
theorem octets_Zero.mono : ∀ a0 a1 a2 k, LeO (octets_Zero.f k a0 a1 a2) (octets_Zero.f (k + 1) a0 a1 a2) := by
  intro a0 a1 a2 k
  have ih0 := octets_Zero.mono_l k
  unfold octets_Zero.f
  repeat' first
      | (with_reducible exact ih0 _ _ _)
      | (with_reducible exact LeO.refl _)
      | (with_reducible exact LeO.none _)
      | (with_reducible refine LeO.ite ?_ ?_)
      | (with_reducible refine LeO.bind ?_ (fun _ => ?_))
      | exact ih0 _ _ _
      | exact LeO.none _
      | refine LeO.ite ?_ ?_
      | refine LeO.bind ?_ (fun _ => ?_)
set_option maxHeartbeats 8000000 in
set_option maxRecDepth 100000 in
theorem octets_Zero.calls (k : Nat) (A0 : Option Addr) (c0 : Nat) (l0 : List Int) (a1 : Int) (a2 : Int) (r : Bool) (w : World) (hr0 : Kd.C (Kd.int .u8) w A0 l0.length l0) (hc0 : l0.length ≤ c0) (h : octets_Zero.f k l0 a1 a2 = some r) :
    Calls Try.prog 18 #[.slice A0 l0.length c0, .int .i64 a1, .int .i64 a2] w fun e w' => e = .returned (.bool r) ∧ Drawn0 w w' := by
  have HR0 := Aside0.mk hr0
  have HC0 := Aside0.mk hc0
  clear hr0 hc0
  have H : ((octets_none.f l0 a1 a2).bind fun t203 => (if t203 = true then (some false) else (if 0 ≤ a1 then (if a1 ≤ (wrap64 (a1 + a2)) then (if (wrap64 (a1 + a2)) ≤ (l0.length : Int) then (octets_Zero.l0 k ((l0.take ((wrap64 (a1 + a2)) : Int).toNat).drop (a1 : Int).toNat) (((l0.take ((wrap64 (a1 + a2)) : Int).toNat).drop (a1 : Int).toNat).length : Int) 0) else (none)) else (none)) else (none)))) = some r := h
  clear h
  replace H := Option.bind_eq_some_iff.mp H
  obtain ⟨t203, A40, H⟩ := H
  replace H : (if t203 = true then (some false) else (if 0 ≤ a1 then (if a1 ≤ (wrap64 (a1 + a2)) then (if (wrap64 (a1 + a2)) ≤ (l0.length : Int) then (octets_Zero.l0 k ((l0.take ((wrap64 (a1 + a2)) : Int).toNat).drop (a1 : Int).toNat) (((l0.take ((wrap64 (a1 + a2)) : Int).toNat).drop (a1 : Int).toNat).length : Int) 0) else (none)) else (none)) else (none))) = some r := H
  have A4 := Aside0.mk A40
  clear A40
  by_cases c5 : t203 = true
  · subst c5
    have H1 : (some false) = some r := by rw [if_pos rfl] at H; exact H
    clear H
    have H := H1
    clear H1
    obtain rfl := Option.some.inj H
    go_enter Try.func18, Try.ntmps18
    go_wp2_with (first | ((with_reducible refine gate_callee (f := 19) rfl ?_); refine goesL_ (some 12) rfl rfl Try.func19 (by kernel_rfl) rfl #[.slice A0 l0.length c0, .int .i64 a1, .int .i64 a2] rfl (by (try simp only [List.map_toArray, List.map_cons, List.map_nil]); first | done | rfl | (simp only [List.length_drop, List.length_take]; rfl)) ?_; (with_reducible refine (octets_none.calls _ _ l0 a1 a2 true _ ?side1 ?side2 A4.out).mono ?_); (case side1 => repeat (first | exact HR0.out | (with_reducible refine Kd.C_alloc ?_ _) | (with_reducible refine Kd.C_drewN ?_ _) | (with_reducible refine Kd.C_drew ?_))); (case side2 => exact HC0.out); rintro e w' ⟨rfl, ⟨nd, rfl⟩⟩; refine ⟨_, rfl, ?_⟩))
    go_ret
    exact ⟨by first | rfl | (simp; done) | (simp [*]; done), by repeat (first | exact Drawn0.refl _ | apply Drawn0.step)⟩
  · replace c5 := Bool.eq_false_iff.mpr c5
    subst c5
    have H1 : (if 0 ≤ a1 then (if a1 ≤ (wrap64 (a1 + a2)) then (if (wrap64 (a1 + a2)) ≤ (l0.length : Int) then (octets_Zero.l0 k ((l0.take ((wrap64 (a1 + a2)) : Int).toNat).drop (a1 : Int).toNat) (((l0.take ((wrap64 (a1 + a2)) : Int).toNat).drop (a1 : Int).toNat).length : Int) 0) else (none)) else (none)) else (none)) = some r := by rw [if_neg (show ¬ (false = true) by decide)] at H; exact H
    clear H
    have H := H1
    clear H1
    by_cases c6 : 0 ≤ a1
    · rw [if_pos c6] at H
      have c6b0 := eq_true c6
      have c6b1 : decide (0 ≤ a1) = true := decide_eq_true c6
      clear c6
      by_cases c7 : a1 ≤ (wrap64 (a1 + a2))
      · rw [if_pos c7] at H
        have c7b0 := eq_true c7
        have c7b1 : decide (a1 ≤ (wrap64 (a1 + a2))) = true := decide_eq_true c7
        by_cases c8 : (wrap64 (a1 + a2)) ≤ (l0.length : Int)
        · rw [if_pos c8] at H
          have c8b0 := eq_true c8
          have c8b1 : decide ((wrap64 (a1 + a2)) ≤ (l0.length : Int)) = true := decide_eq_true c8
          have H' := Aside0.mk H
          clear H
          have hlen_ := Aside0.mk (show (((l0.take ((wrap64 (a1 + a2)) : Int).toNat).drop (a1 : Int).toNat).length) = (wrap64 (a1 + a2)).toNat - a1.toNat by rw [List.length_drop, List.length_take]; have := of_eq_true c8b0; omega)
          go_enter Try.func18, Try.ntmps18
          go_wp2_with (first | ((with_reducible refine gate_callee (f := 19) rfl ?_); refine goesL_ (some 12) rfl rfl Try.func19 (by kernel_rfl) rfl #[.slice A0 l0.length c0, .int .i64 a1, .int .i64 a2] rfl (by (try simp only [List.map_toArray, List.map_cons, List.map_nil]); first | done | rfl | (simp only [List.length_drop, List.length_take]; rfl)) ?_; (with_reducible refine (octets_none.calls _ _ l0 a1 a2 false _ ?side1 ?side2 A4.out).mono ?_); (case side1 => repeat (first | exact HR0.out | (with_reducible refine Kd.C_alloc ?_ _) | (with_reducible refine Kd.C_drewN ?_ _) | (with_reducible refine Kd.C_drew ?_))); (case side2 => exact HC0.out); rintro e w' ⟨rfl, ⟨nd, rfl⟩⟩; refine ⟨_, rfl, ?_⟩; obtain ⟨i09, hi09, _, hsz9, _⟩ := info_parts info5; obtain ⟨A9, hcut9, hA9, hC9⟩ := print_mid_of (P := Try.prog) (Value.int .u8) 0 24 5 .i64 .i64 Try.underlying24 hi09 hsz9 A0 c0 l0 a1 (wrap64 (a1 + a2)) (of_decide_eq_true (by first | (with_reducible assumption) | assumption)) (by first | omega | exact of_decide_eq_true (by first | (with_reducible assumption) | assumption)) (of_decide_eq_true (by first | (with_reducible assumption) | assumption)) HC0.out; have HR204 := Aside0.mk (Kd.C_of_reads (h1 := fun _ => rfl) (hA9 _ (Kd.reads_of_C HR0.out))); have HC204 := Aside0.mk hC9; clear hA9 hC9 hi09 hsz9))
          go_loopg [20] k (fun kq v20 w' => ∃ (x20_1 : Int), v20 = .int .i64 x20_1 ∧ Aside0 (octets_Zero.l0 kq ((l0.take ((wrap64 (a1 + a2)) : Int).toNat).drop (a1 : Int).toNat) (((l0.take ((wrap64 (a1 + a2)) : Int).toNat).drop (a1 : Int).toNat).length : Int) x20_1 = some r) ∧ Aside0 (kq ≤ k) ∧ Drawn0 w w')
          case atStart => exact ⟨(0), (by first | rfl | (simp; done) | (simp [*]; done)), H', ⟨Nat.le_refl _⟩, by repeat (first | exact Drawn0.refl _ | apply Drawn0.step)⟩
          case round =>
            clear H'
            try clear c1
            try clear p2
            try clear c5
            try clear c6
            try clear c6b0
            try clear c6b1
            try clear p6
            try clear c7
            try clear c7b0
            try clear c7b1
            try clear c8
            try clear c8b0
            try clear c8b1
            obtain ⟨x20_1, rfl, HA, HK1, ⟨m1, rfl⟩⟩ := hrel
            cases gk with
            | zero => exact absurd HA.out (by simp [octets_Zero.l0])
            | succ k1 =>
              have H := HA.out
              clear HA
              simp only [octets_Zero.l0] at H
              by_cases c10 : x20_1 < (((l0.take ((wrap64 (a1 + a2)) : Int).toNat).drop (a1 : Int).toNat).length : Int)
              · rw [if_pos c10] at H
                have c10b0 : decide (x20_1 < (((l0.take ((wrap64 (a1 + a2)) : Int).toNat).drop (a1 : Int).toNat).length : Int)) = true := decide_eq_true c10
                have c10b9 : decide (x20_1 < (((wrap64 (a1 + a2)).toNat - a1.toNat : Nat) : Int)) = true := by rw [← hlen_.out]; exact c10b0
                (try (have c10b8 := eq_true (of_decide_eq_true c10b9)))
                clear c10
                by_cases c11 : 0 ≤ x20_1
                · rw [if_pos c11] at H
                  have c11b0 : decide (0 ≤ x20_1) = true := decide_eq_true c11
                  clear c11
                  by_cases c12 : x20_1 < (((l0.take ((wrap64 (a1 + a2)) : Int).toNat).drop (a1 : Int).toNat).length : Int)
                  · rw [if_pos c12] at H
                    have c12b0 : decide (x20_1 < (((l0.take ((wrap64 (a1 + a2)) : Int).toNat).drop (a1 : Int).toNat).length : Int)) = true := decide_eq_true c12
                    have c12b9 : decide (x20_1 < (((wrap64 (a1 + a2)).toNat - a1.toNat : Nat) : Int)) = true := by rw [← hlen_.out]; exact c12b0
                    (try (have c12b8 := eq_true (of_decide_eq_true c12b9)))
                    clear c12
                    by_cases c13 : (rd ((l0.take ((wrap64 (a1 + a2)) : Int).toNat).drop (a1 : Int).toNat) x20_1) = 0
                    · rw [if_pos c13] at H
                      have c13b0 : ((rd ((l0.take ((wrap64 (a1 + a2)) : Int).toNat).drop (a1 : Int).toNat) x20_1) == 0) = true := beq_iff_eq.mpr c13
                      have c13b1 : ((rd ((l0.take ((wrap64 (a1 + a2)) : Int).toNat).drop (a1 : Int).toNat) x20_1) != 0) = false := bne_eq_false_iff_eq.mpr c13
                      clear c13
                      have H' := Aside0.mk H
                      clear H
                      have p205 : 0 ≤ (x20_1 : Int) := of_decide_eq_true (by first | (with_reducible assumption) | assumption)
                      have q205 : x20_1 < (((l0.take ((wrap64 (a1 + a2)) : Int).toNat).drop (a1 : Int).toNat).length : Int) := of_decide_eq_true (by first | (with_reducible assumption) | assumption)
                      obtain ⟨ad205, e205, hx205_0⟩ := Kd.at_int HR204.out x20_1 p205 q205
                      cases e205
                      replace p205 := eq_true p205
                      replace q205 := eq_true q205
                      go_wp2
                      go_roundg k1
                      case measure => have := HK1.out; omega
                      case rel => exact ⟨(wrap64 (x20_1 + 1)), (by first | rfl | (simp; done) | (simp [*]; done)), H', ⟨by have := HK1.out; omega⟩, by repeat (first | exact Drawn0.refl _ | apply Drawn0.step)⟩
                    · rw [if_neg c13] at H
                      have c13b0 : ((rd ((l0.take ((wrap64 (a1 + a2)) : Int).toNat).drop (a1 : Int).toNat) x20_1) == 0) = false := beq_eq_false_iff_ne.mpr c13
                      have c13b1 : ((rd ((l0.take ((wrap64 (a1 + a2)) : Int).toNat).drop (a1 : Int).toNat) x20_1) != 0) = true := bne_iff_ne.mpr c13
                      obtain rfl := Option.some.inj H
                      have p205 : 0 ≤ (x20_1 : Int) := of_decide_eq_true (by first | (with_reducible assumption) | assumption)
                      have q205 : x20_1 < (((l0.take ((wrap64 (a1 + a2)) : Int).toNat).drop (a1 : Int).toNat).length : Int) := of_decide_eq_true (by first | (with_reducible assumption) | assumption)
                      obtain ⟨ad205, e205, hx205_0⟩ := Kd.at_int HR204.out x20_1 p205 q205
                      cases e205
                      replace p205 := eq_true p205
                      replace q205 := eq_true q205
                      go_wp2
                      go_ret
                      exact ⟨by first | rfl | (simp; done) | (simp [*]; done), by repeat (first | exact Drawn0.refl _ | apply Drawn0.step)⟩
                  · rw [if_neg c12] at H
                    exact absurd H (by simp)
                · rw [if_neg c11] at H
                  exact absurd H (by simp)
              · rw [if_neg c10] at H
                have c10b0 : decide (x20_1 < (((l0.take ((wrap64 (a1 + a2)) : Int).toNat).drop (a1 : Int).toNat).length : Int)) = false := decide_eq_false c10
                have c10b9 : decide (x20_1 < (((wrap64 (a1 + a2)).toNat - a1.toNat : Nat) : Int)) = false := by rw [← hlen_.out]; exact c10b0
                (try (have c10b8 := eq_true (of_decide_eq_true c10b9)))
                clear c10
                obtain rfl := Option.some.inj H
                go_wp2
                go_ret
                exact ⟨by first | rfl | (simp; done) | (simp [*]; done), by repeat (first | exact Drawn0.refl _ | apply Drawn0.step)⟩
        · rw [if_neg c8] at H
          exact absurd H (by simp)
      · rw [if_neg c7] at H
        exact absurd H (by simp)
    · rw [if_neg c6] at H
      exact absurd H (by simp)

end Go.Proofs.Ythdigeknonamaaa.P
