/- Any TLVs behind any bytes, whether they may be, and the first of a type: as the document has it: for every row of bytes, every row of TLVs and every type. -/
import Derived.Test.YtgmiokocipmbaaaZzPx6
import Derived.Test.YtgmiokocipmbaaaZzTlv
namespace Go.Proofs.Ytgmiokocipmbaaa.Pure
open Go.RowKit Go.Proofs.Ytgmiokocipmbaaa.P Go.Proofs.Ytgmiokocipmbaaa.Lib Go.Proofs.Ytgmiokocipmbaaa.Oct Go.Proofs.Ytgmiokocipmbaaa.Ref Go.Proofs.Ytgmiokocipmbaaa.Tlv Go.Proofs.YtgmiokocipmbaaaW.PrintWords Go.Proofs.YtgmiokocipmbaaaW.PrintLast Go.Proofs.YtgmiokocipmbaaaW.PrintMore
theorem puts_from (K : Nat) (hK : 30 < K) (t : Int) (l : List S26) (hl : l.length ≤ 20) : ∀ (q p : List S26) (k : Nat), l = p ++ q → q.length < k → carillonlaw08_TlvPuts.l1 K k l t (p.length : Int) = some true := by
  intro q
  induction q with
  | nil =>
    intro p k e hk
    obtain ⟨k, rfl⟩ : ∃ j, k = j + 1 := ⟨k - 1, by simp at hk; omega⟩
    have ht : carillonlaw00_Tlvs.f l = some l := by
      unfold carillonlaw00_Tlvs.f
      rw [if_pos (by simp; omega), List.nil_append]
    rw [carillonlaw08_TlvPuts.l1, if_neg (by rw [e]; simp), ht, Option.bind_some, tfind_of t l (by omega) K (by omega), Option.bind_some, rtfind_of t l (by omega) K (by omega), Option.bind_some, if_pos (by simp), if_pos (by simp), awake_of K hK]
    rfl
  | cons x q ih =>
    intro p k e hk
    obtain ⟨k, rfl⟩ : ∃ j, k = j + 1 := ⟨k - 1, by simp at hk; omega⟩
    have hlen : l.length = p.length + (q.length + 1) := by rw [e]; simp
    have hw : wrap64 ((p.length : Int) + 1) = ((p ++ [x]).length : Int) := by rw [wq _ (by omega)]; simp
    have hx : rd_T26 l (p.length : Int) = x := by rw [e]; exact rd_at p x q
    rw [carillonlaw08_TlvPuts.l1, if_pos (by omega), if_pos (by omega), hx, hw, tcheck_of, Option.bind_some, rtcheck_of, Option.bind_some, if_pos (by simp), known_of, Option.bind_some, rknown_of, Option.bind_some, if_pos (by simp)]
    exact ih (p ++ [x]) k (by rw [e]; simp) (by simp at hk; omega)
theorem TlvPuts : carillonlaw08_TlvPuts.Pure := by
  intro b l t hbm hb hbw hlm hl hlw htw
  obtain ⟨K, hK, hK2⟩ : ∃ K : Nat, 60 ≤ K ∧ l.length < K := ⟨60 + l.length, by omega, by omega⟩
  refine ⟨K, ?_⟩
  unfold carillonlaw08_TlvPuts.f
  rw [few_of l (by omega) K hK2, Option.bind_some]
  cases hf : few l with
  | false => rw [if_neg Bool.false_ne_true, awake_of K (by omega)]; rfl
  | true =>
    have hs := few_len hf
    have hwr : wrap64 ((b.length : Int) + 1) = (b.length : Int) + 1 := wq _ (by omega)
    have hlen : (b ++ [99] : List Int).length = b.length + 1 := by simp
    have ht : carillonlaw00_Tlvs.f l = some l := by
      unfold carillonlaw00_Tlvs.f
      rw [if_pos (by simp; omega), List.nil_append]
    have fin : (if 0 ≤ wrap64 ((b.length : Int) + 1) then (if wrap64 ((b.length : Int) + 1) ≤ ((b ++ [99] : List Int).length : Int) then (if (b.length : Int) < (((b ++ [99] : List Int).take (wrap64 ((b.length : Int) + 1) : Int).toNat).length : Int) then (if (b.length : Int) < ((b ++ [99] : List Int).length : Int) then (if (rd (b ++ [99] : List Int) (b.length : Int)) = 99 then carillonlaw08_TlvPuts.l1 K K l t 0 else some false) else none) else none) else none) else none) = some true := by
      rw [more_take1 b 99 hwr, hwr, if_pos (by omega), if_pos (by rw [hlen]; omega), if_pos (by rw [hlen]; omega), if_pos (by rw [hlen]; omega), more_rd, if_pos rfl]
      exact puts_from K (by omega) t l hs.1 l [] K rfl hK2
    rw [if_pos rfl, if_pos (by omega), if_pos (by simp only [List.length_singleton]; omega), if_pos (by omega), if_pos (by rw [hlen]; omega), ht, Option.bind_some, more_take, tput_of b (by omega) l K (by omega), Option.bind_some, rtput_of l K (by omega), Option.bind_some]
    cases hk : okl l with
    | true =>
      have hkl := hk
      unfold okl at hkl
      rw [Bool.and_eq_true, decide_eq_true_eq] at hkl
      have he := encs_length l hkl.2
      rw [if_pos rfl, if_pos rfl]
      dsimp only
      rw [if_pos (show (true == true) = true from rfl), str_size, str_size, if_pos (by omega), str_app, if_pos (by simp)]
      exact fin
    | false =>
      rw [if_neg Bool.false_ne_true, if_neg Bool.false_ne_true]
      dsimp only
      rw [if_pos (show (false == false) = true from rfl), str_size, str_size, if_pos (by simp; omega), str_app, List.append_nil, if_pos (by simp)]
      exact fin
end Go.Proofs.Ytgmiokocipmbaaa.Pure
