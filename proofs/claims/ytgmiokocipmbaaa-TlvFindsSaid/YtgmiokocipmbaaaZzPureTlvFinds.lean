/- The first TLV of a type is found, and none of a type that is not there: for every row of TLVs and every type. -/
import Derived.Test.YtgmiokocipmbaaaZzPx2
import Derived.Test.YtgmiokocipmbaaaZzTlv
namespace Go.Proofs.Ytgmiokocipmbaaa.Pure
open Go.RowKit Go.Proofs.Ytgmiokocipmbaaa.P Go.Proofs.Ytgmiokocipmbaaa.Lib Go.Proofs.Ytgmiokocipmbaaa.Oct Go.Proofs.Ytgmiokocipmbaaa.Tlv Go.Proofs.YtgmiokocipmbaaaW.PrintWords Go.Proofs.YtgmiokocipmbaaaW.PrintLast Go.Proofs.YtgmiokocipmbaaaW.PrintMore
theorem findT_any (t : Int) : ∀ l : List S26, (findT t l).2.2 = l.any (fun x => x.f0 == t)
  | [] => rfl
  | x :: q => by
    rw [findT, List.any_cons]
    by_cases h : x.f0 = t
    · rw [if_pos h]; simp [h]
    · rw [if_neg h, findT_any t q]; simp [h]
theorem findT_none (t : Int) : ∀ l : List S26, (findT t l).2.2 = false → findT t l = (0, (⟨#[]⟩ : ByteArray), false)
  | [], _ => rfl
  | x :: q, h => by
    rw [findT] at h ⊢
    by_cases h2 : x.f0 = t
    · rw [if_pos h2] at h; cases h
    · rw [if_neg h2] at h ⊢; exact findT_none t q h
section
variable (t : Int) (l : List S26) (hl : l.length ≤ 20) (K : Nat) (hK : 1000 ≤ K)
include hl hK
theorem l3_from (lc : List S26 → Int → Int → Option Bool) : ∀ (q p : List S26) (n : Nat), l = p ++ q → q.length < n → carillonlaw08_TlvFinds.l3 K lc n l t (p.any fun x => x.f0 == t) (p.length : Int) = some true := by
  intro q
  induction q with
  | nil =>
    intro p n e hn
    obtain ⟨n, rfl⟩ : ∃ j, n = j + 1 := ⟨n - 1, by omega⟩
    rw [List.append_nil] at e
    subst e
    rw [carillonlaw08_TlvFinds.l3, if_neg (by omega), tfind_of t l (by omega) K (by omega), Option.bind_some, if_pos (by rw [findT_any]; simp)]
    cases h : (findT t l).2.2 with
    | true => rw [if_pos rfl, awake_of K (by omega)]; rfl
    | false =>
      rw [if_neg Bool.false_ne_true, findT_none t l h, if_pos (by decide +kernel), awake_of K (by omega)]
      rfl
  | cons x q ih =>
    intro p n e hn
    obtain ⟨n, rfl⟩ : ∃ j, n = j + 1 := ⟨n - 1, by omega⟩
    simp only [List.length_cons] at hn
    have hlen : l.length = p.length + (q.length + 1) := by rw [e]; simp
    have hw : wrap64 ((p.length : Int) + 1) = ((p ++ [x]).length : Int) := by rw [wq _ (by omega)]; simp
    have hx : rd_T26 l (p.length : Int) = x := by rw [e]; exact rd_at p x q
    have hi := ih (p ++ [x]) n (by rw [e]; simp) (by omega)
    rw [List.any_append, List.any_cons, List.any_nil, Bool.or_false] at hi
    rw [carillonlaw08_TlvFinds.l3, if_pos (by omega), hw, hx]
    cases h : p.any (fun x => x.f0 == t) with
    | true =>
      rw [h, Bool.true_or] at hi
      rw [if_pos rfl]
      exact hi
    | false =>
      rw [h, Bool.false_or] at hi
      rw [if_neg Bool.false_ne_true, if_pos (by omega)]
      exact hi
omit hK in
theorem l2_from (lc : List S26 → Int → Int → Option Bool) (p : List S26) (x : S26) (q : List S26) (e : l = p ++ x :: q) (hn : lc l t ((p ++ [x]).length : Int) = some true) :
    ∀ (q2 p2 : List S26) (n : Nat), l = p2 ++ q2 → findT x.f0 l = findT x.f0 q2 → (∃ z ∈ q2, z.f0 = x.f0) → q2.length < n →
      carillonlaw08_TlvFinds.l2 K lc n l t (p.length : Int) (findT x.f0 l).1 (findT x.f0 l).2.1 (findT x.f0 l).2.2 (p2.length : Int) = some true := by
  have hlen : l.length = p.length + (q.length + 1) := by rw [e]; simp
  have hw : wrap64 ((p.length : Int) + 1) = ((p ++ [x]).length : Int) := by rw [wq _ (by omega)]; simp
  have hx : rd_T26 l (p.length : Int) = x := by rw [e]; exact rd_at p x q
  intro q2
  induction q2 with
  | nil =>
    intro p2 n _ _ hz _
    obtain ⟨z, hz, _⟩ := hz
    simp at hz
  | cons y q3 ih =>
    intro p2 n e2 hf hz hk
    obtain ⟨n, rfl⟩ : ∃ j, n = j + 1 := ⟨n - 1, by omega⟩
    simp only [List.length_cons] at hk
    have hlen2 : l.length = p2.length + (q3.length + 1) := by rw [e2]; simp
    have hw2 : wrap64 ((p2.length : Int) + 1) = ((p2 ++ [y]).length : Int) := by rw [wq _ (by omega)]; simp
    have hy : rd_T26 l (p2.length : Int) = y := by rw [e2]; exact rd_at p2 y q3
    rw [carillonlaw08_TlvFinds.l2, if_pos (by omega), if_pos (by omega), if_pos (by omega), if_pos (by omega), hx, hy]
    by_cases h : y.f0 = x.f0
    · have hf2 : findT x.f0 l = (y.f0, y.f1, true) := by rw [hf, findT, if_pos h]
      rw [if_pos h, hf2, if_pos rfl, if_pos (by simp), hw]
      exact hn
    · rw [if_neg h, hw2]
      refine ih (p2 ++ [y]) n (by rw [e2]; simp) ?_ ?_ (by omega)
      · rw [hf, findT, if_neg h]
      · obtain ⟨z, hz, hz2⟩ := hz
        rcases List.mem_cons.1 hz with rfl | hz
        · exact absurd hz2 h
        · exact ⟨z, hz, hz2⟩
theorem l1_from : ∀ (q p : List S26) (n : Nat), l = p ++ q → q.length < n → carillonlaw08_TlvFinds.l1 K n l t (p.length : Int) = some true := by
  intro q
  induction q with
  | nil =>
    intro p n e hn
    obtain ⟨n, rfl⟩ : ∃ j, n = j + 1 := ⟨n - 1, by omega⟩
    rw [List.append_nil] at e
    rw [carillonlaw08_TlvFinds.l1, if_neg (by rw [e]; simp)]
    exact l3_from t l hl K hK _ l [] K rfl (by omega)
  | cons x q ih =>
    intro p n e hn
    obtain ⟨n, rfl⟩ : ∃ j, n = j + 1 := ⟨n - 1, by omega⟩
    simp only [List.length_cons] at hn
    have hlen : l.length = p.length + (q.length + 1) := by rw [e]; simp
    have ht : carillonlaw00_Tlvs.f l = some l := by
      unfold carillonlaw00_Tlvs.f
      rw [if_pos (by simp; omega), List.nil_append]
    have hx : rd_T26 l (p.length : Int) = x := by rw [e]; exact rd_at p x q
    rw [carillonlaw08_TlvFinds.l1, if_pos (by omega), ht, Option.bind_some, if_pos (by omega), hx, tfind_of x.f0 l (by omega) K (by omega), Option.bind_some]
    exact l2_from t l hl K _ p x q e (ih (p ++ [x]) n (by rw [e]; simp) (by omega)) l [] K rfl rfl ⟨x, by rw [e]; simp, rfl⟩ (by omega)
end
theorem TlvFinds : carillonlaw08_TlvFinds.Pure := by
  intro l t hlm hl hlw htw
  obtain ⟨K, hK, hK2⟩ : ∃ K : Nat, 1000 ≤ K ∧ l.length < K := ⟨1000 + l.length, by omega, by omega⟩
  refine ⟨K, ?_⟩
  unfold carillonlaw08_TlvFinds.f
  rw [few_of l (by omega) K hK2, Option.bind_some]
  cases hf : few l with
  | false => rw [if_neg Bool.false_ne_true, awake_of K (by omega)]; rfl
  | true =>
    have hs := few_len hf
    rw [if_pos rfl]
    exact l1_from t l hs.1 K hK l [] K rfl hK2
end Go.Proofs.Ytgmiokocipmbaaa.Pure
