/- The law carillonlaw08.TlvFinds of the given program answers true for every input that its statement lets in, and leaves its arguments as they were: the row of the statement TlvFindsSaid, without a condition of ours. -/
import Derived.Test.YtgmiokocipmbaaaRows
import Derived.Test.YtgmiokocipmbaaaZzPx2
import Derived.Test.YtgmiokocipmbaaaZzPureTlvFinds
import Derived.WalkKit
import Derived.ProofKit
import Derived.OpenShut
import Derived.ShutString
import Derived.ChangeOld
import Derived.Below
import Derived.SizedLaws
import Derived.Deep.Slices
import Derived.Deep.Fields
import Derived.ChangeSame
import Derived.ChangeSlices
namespace Go.Proofs.Ytgmiokocipmbaaa.tlvFinds
open Go.ChangeShapes Go.WideShapes Go.ChangeAt Go.RowKit Go.Proofs.Ytgmiokocipmbaaa.P Go.Proofs.YtgmiokocipmbaaaW.PrintWords
open Go.ChangeMaps (open_string shut_string)
set_option linter.unusedVariables false
set_option linter.unusedSimpArgs false
theorem own : ownKnob Try.prog.godebug = none := by kernel_rfl
theorem laidOut : laidOutB Try.prog = true := by kernel_rfl
theorem open26 {H : Type} {enc : TypeId × Value → H} {w : World} {base : Nat} {spare : Nat → Bool} {held : Bool} {fuel : Nat} {cs : List Value} {x : DataW H × List MemPlace} (h : DataW.trod enc Try.prog w base spare held fuel 26 cs = some x) :
    ∃ (a0 : Int) (a1 : ByteArray), cs = [.int .i64 a0, .string a1] ∧ (Lit.int .i64 a0).wf = true ∧ a1.size ≤ 9223372036854775807 := by
  obtain ⟨xs, n, _, _, hl0, hn, hg⟩ := DataW.trod_struct Try.underlying26 h
  have hl : cs.length = 2 := hl0.trans (by kernel_rfl)
  have hn2 : xs.length = 2 := hn
  clear hl0 hn h
  match cs, hl with
  | [c0, c1], _ =>
    have g0 : DataW.trod enc Try.prog w base spare held n 3 [c0] = some (xs[0]'(by omega)) := by
      have hC : Try.prog.cellsOf 3 = 1 := by kernel_rfl
      have z : DataW.trod enc Try.prog w base spare held n 3 (([c0, c1].drop 0).take (Try.prog.cellsOf 3)) = xs[0]? := hg 0 _ rfl
      rw [List.getElem?_eq_getElem (by omega : 0 < xs.length), hC] at z
      exact z
    obtain ⟨b0, e0, _, w0⟩ := DataW.trod_int Try.underlying3 g0
    injection e0 with q0_0 e0
    clear g0
    have g1 : DataW.trod enc Try.prog w base spare held n 9 [c1] = some (xs[1]'(by omega)) := by
      have hC : Try.prog.cellsOf 9 = 1 := by kernel_rfl
      have z : DataW.trod enc Try.prog w base spare held n 9 (([c0, c1].drop 1).take (Try.prog.cellsOf 9)) = xs[1]? := hg 1 _ rfl
      rw [List.getElem?_eq_getElem (by omega : 1 < xs.length), hC] at z
      exact z
    obtain ⟨b1, e1, _, w1⟩ := DataW.trod_string Try.underlying9 g1
    injection e1 with q1_0 e1
    clear g1
    clear hg
    subst q0_0
    subst q1_0
    exact ⟨b0, b1, rfl, w0, (by simpa [maxLen] using w1)⟩
theorem pickAll {α : Type} {R : Nat → α → Prop} : ∀ (n : Nat), (∀ i, i < n → ∃ x, R i x) → ∃ l : List α, l.length = n ∧ ∀ j p, l[j]? = some p → R j p
  | 0, _ => ⟨[], rfl, fun j p h => by simp at h⟩
  | n + 1, h => by
    obtain ⟨l, hl, hr⟩ := pickAll n (fun i hi => h i (by omega))
    obtain ⟨x, hx⟩ := h n (by omega)
    refine ⟨l ++ [x], by simp [hl], fun j p hj => ?_⟩
    by_cases hlt : j < n
    · rw [List.getElem?_append_left (by omega)] at hj
      exact hr j p hj
    · have hj2 := (List.getElem?_eq_some_iff.1 hj).1
      simp [hl] at hj2
      obtain rfl : j = n := by omega
      rw [List.getElem?_append_right (by omega), hl] at hj
      simp at hj
      subst hj
      exact hx
theorem rowOf26 {H : Type} {enc : TypeId × Value → H} {W : World} {base : Nat} {spare : Nat → Bool} {held : Bool} {t : TypeId} {a : Option Addr} {len cap : Nat} {d : DataW H} {ps : List MemPlace} {ts : List TypeId} {ds : List (DataW H)} {j : Nat}
    (hsz : (DataW.weightsEach Try.prog ts ds).all (· ≤ reachBytes) = true) (ht : ts[j]? = some t) (hd : ds[j]? = some d) (hu : Try.prog.underlying t = some (.slice 26))
    (h : DataW.Trod enc Try.prog W base spare held t (.slice a len cap) d ps) :
    ∃ l : List S26, len = l.length ∧ Kd.C k26 W a l.length l ∧ l.length ≤ cap ∧ l.length ≤ maxLen ∧ l.length * 24 ≤ 140737488351232 ∧ (∀ x ∈ l, (Lit.int .i64 x.f0).wf = true ∧ x.f1.size ≤ 9223372036854775807) := by
  obtain ⟨fuel, hf⟩ := h
  have hC : Try.prog.cellsOf 26 = 2 := by kernel_rfl
  have hB : Try.prog.bytesOf 26 = 24 := by kernel_rfl
  rcases Go.Deep.open_slice hu hf with ⟨hcs, _⟩ | ⟨ad, len', cap', m, n, D, Pl, hcs, hb, hl, hm, hmm, hx, hi⟩
  · simp [Value.cells] at hcs
    obtain ⟨rfl, rfl, rfl⟩ := hcs
    exact ⟨[], rfl, ⟨rfl, by simp, fun h0 => absurd h0 (by simp)⟩, Nat.le_refl _, by simp [maxLen], by simp, by simp⟩
  · simp [Value.cells] at hcs
    obtain ⟨rfl, rfl, rfl⟩ := hcs
    have hlm : len ≤ m := by
      rw [hmm]
      split
      · exact hl
      · exact Nat.le_refl _
    have hel : ∀ i, i < len → ∃ x : S26, (∃ c : List Value, c.length = 2 ∧ k26.K W x c ∧ ∀ (i' : Nat) (u : Value), c[i']? = some u → W.cell? (ad.add (i * 2 + i')) = some u) ∧ ((Lit.int .i64 x.f0).wf = true ∧ x.f1.size ≤ 9223372036854775807) := by
      intro i hil
      obtain ⟨cs', hc, ht'⟩ := hi i (by omega)
      rw [hC] at hc
      obtain ⟨_, hcl, hat⟩ := World.cells?_some hc
      obtain ⟨a0, a1, hcs, w0, w1⟩ := open26 ht'
      subst hcs
      refine ⟨(⟨a0, a1⟩ : S26), ⟨_, rfl, k26_mk W _, fun i' u hu => ?_⟩, ⟨w0, w1⟩⟩
      have hil2 : i' < 2 := by
        have := (List.getElem?_eq_some_iff.1 hu).1
        simpa using this
      rw [← Go.Deep.add_add]
      exact (hat i' hil2).trans hu
    obtain ⟨l, hll, hlx⟩ := pickAll len hel
    refine ⟨l, hll.symm, ⟨hll.symm ▸ rfl, ?_, fun _ => ⟨ad, rfl, fun j p hj => (hlx j p hj).1⟩⟩, by omega, by omega, ?_, fun x hx => ?_⟩
    · have : maxLen = 9223372036854775807 := rfl
      omega
    · obtain ⟨hx, _⟩ := Prod.mk.inj hx
      subst hx
      have z := sized_slice hsz ht hd hu
      rw [hB] at z
      have : ((List.range len).map D).length = len := by simp
      rw [this] at z
      have r : reachBytes = 140737488351232 := by decide
      rw [← r, hll]
      refine Nat.le_trans (Nat.mul_le_mul_right _ ?_) z
      omega
    · obtain ⟨j, hj⟩ := List.getElem?_of_mem hx
      exact (hlx j x hj).2
set_option maxRecDepth 100000 in
theorem lifted (os : Os) (started : os.Started) (H : Type) (enc : TypeId × Value → H) :
    ReturnsInHanded {} Try.checked os 3 .any (Rows.tlvFindsSpec.pre6 enc Try.prog Try.f3 Rows.tlvFindsRow.domain false) (Rows.tlvFindsSpec.post enc Try.prog Try.f3 false true false false) := by
  refine returnsInHanded_of_change_sized (C := Try.checked) own started (by kernel_rfl) Try.func3
    (ChangeSpec.witness6 (enc := enc) (C := Try.checked) false ⟨#[], #[.slice none 0 0, .int .i64 0], []⟩ 8 (by kernel_rfl) (by kernel_rfl) (by kernel_rfl) (by kernel_rfl)) ?_
  intro W base args ds gs before hval0 hW hcnd hsz0 _
  have hsz : (DataW.weightsEach Try.prog (Try.f3.params.toList ++ Rows.tlvFindsSpec.plain.varTypes Try.prog) (ds ++ gs)).all (· ≤ reachBytes) = true := hsz0
  have hval : ∀ (j : Nat) t v, Try.f3.params[j]? = some t → args[j]? = some v → Value.okWide Try.prog W .any base t v := hval0
  have hW' := hW
  obtain ⟨p, q, hA0, hV, rfl, hfz, hnd⟩ := hW
  have hA : DataW.TrodAll enc Try.prog W 0 (fun _ => true) true Try.f3.params.toList args.toList ds p := hA0
  rw [Try.params3] at hA hval hsz
  obtain ⟨v0, vs0, d0, ds0, p0, q0, hargs, rfl, rfl, h0, r0⟩ := trodAll_cons hA
  obtain ⟨v1, vs1, d1, ds1, p1, q1, rfl, rfl, rfl, h1, r1⟩ := trodAll_cons r0
  obtain ⟨rfl, rfl, rfl⟩ := trodAll_nil r1
  obtain rfl : args = #[v0, v1] := by cases args; simp_all
  obtain ⟨rfl, rfl⟩ := trodVars_none hV
  obtain ⟨a0, len0, cap0, rfl⟩ := okWide_slice Try.underlying22 (hval 0 22 v0 rfl rfl)
  have k0 := h0
  have lt0 : ∀ x ∈ p0, x.block < W.heap.size := by obtain ⟨m, hm⟩ := k0; exact DataW.trod_lt m _ _ _ hm
  obtain ⟨l0, rfl, hr0, hc0, hm0, y0, hw0⟩ := rowOf26 hsz (j := 0) rfl rfl Try.underlying22 h0
  obtain ⟨a1, rfl, rfl, rfl, w1⟩ := open_int Try.underlying3 (hval 1 3 v1 rfl rfl) h1
  clear hA0 hval0 hsz0 hsz
  refine (carillonlaw08_TlvFinds.walk Pure.TlvFinds a0 cap0 l0 a1 W hr0 hc0 hm0 y0 hw0 w1).mono fun e W' ⟨he, bel⟩ => ?_
  subst he
  exact ⟨_, rfl, _, _, _, [], _, [], hW', trodAll_mk1 (shut_bool Try.underlying4 _), (trodAll_cons_mk (Below.trod laidOut (by kernel_rfl) (of_decide_eq_true (by kernel_rfl)) k0 bel lt0) (trodAll_cons_mk (shut_int Try.underlying3 w1) trodAll_mk0)), rfl, bel.frame _, fun h => by cases h⟩
theorem over : Rows.tlvFindsRow.holds Try.pinned (OpenSpec.ofChange Rows.tlvFindsSpec) :=
  OpenClaim.holds_of_wide 3 Try.f3 rfl rfl rfl rfl rfl rfl rfl ⟨rfl, rfl, rfl, rfl, rfl⟩ rfl rfl rfl rfl rfl (by kernel_rfl) Try.func3 (by kernel_rfl)
    (of_decide_eq_true (by kernel_rfl)) (by unfold Func.isWrapper; first | (rw [if_pos (by decide +kernel)]; kernel_rfl) | (rw [if_neg (by decide +kernel)]; exact ⟨rfl, rfl⟩))
    (fun os started H enc _ => lifted os started H enc)
theorem proved : Rows.TlvFindsSaid := over
#print axioms proved
end Go.Proofs.Ytgmiokocipmbaaa.tlvFinds
namespace Go.Proofs.Ytgmiokocipmbaaa
theorem tlvFinds_holds : Rows.TlvFindsSaid := tlvFinds.proved
end Go.Proofs.Ytgmiokocipmbaaa
