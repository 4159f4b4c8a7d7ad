/- TLVs that are cut anywhere but between two are none; between two they are those ahead: for every row of TLVs and every place. -/
import Derived.Test.YtgmiokocipmbaaaZzPx9
import Derived.Test.YtgmiokocipmbaaaZzTlv
namespace Go.Proofs.Ytgmiokocipmbaaa.Pure
open Go.RowKit Go.Proofs.Ytgmiokocipmbaaa.P Go.Proofs.Ytgmiokocipmbaaa.Lib Go.Proofs.Ytgmiokocipmbaaa.Oct Go.Proofs.Ytgmiokocipmbaaa.Tlv Go.Proofs.YtgmiokocipmbaaaW.PrintWords Go.Proofs.YtgmiokocipmbaaaW.PrintLast Go.Proofs.YtgmiokocipmbaaaW.PrintMore
theorem gets_cut (p : List S26) (x : S26) (s : List Int) (j : Nat) (hp : oks p = true) (hx : okT x.f0 x.f1 = true) (hl : p.length + 1 ≤ 8) (h0 : 0 < j) (h1 : j < 4 + x.f1.size) (k : Nat) (hk : 10 < k) :
    gets (encs p ++ (enc1 x ++ s).take j) k 0 [] = ([], 2) := by
  obtain ⟨n, rfl⟩ : ∃ n, k = (n + 1) + p.length := ⟨k - 1 - p.length, by omega⟩
  have hs := okT_size hx
  have hxl := enc1_length x
  have e := gets_encs p [] ((enc1 x ++ s).take j) (n + 1) [] hp (by simp; omega)
  simp only [List.nil_append] at e
  rw [List.length_nil] at e
  have e' : gets (encs p ++ (enc1 x ++ s).take j) (n + 1 + p.length) 0 [] = _ := e
  rw [e']
  have hrl : ((enc1 x ++ s).take j).length = j := by rw [List.length_take, List.length_append]; omega
  have hlen : (encs p ++ (enc1 x ++ s).take j).length = (encs p).length + j := by rw [List.length_append, hrl]
  rw [gets, if_pos (by omega), if_neg (by omega)]
  by_cases h4 : j < 4
  · rw [if_pos (by omega)]
  · rw [if_neg (by omega)]
    have hc : cut (encs p ++ (enc1 x ++ s).take j) ((encs p).length + 2) 2 = enc (x.f1.size : Int) 2 := by
      have ht : (enc1 x ++ s).take j = enc x.f0 2 ++ enc (x.f1.size : Int) 2 ++ (bytesOf x.f1 ++ s).take (j - 4) := by
        unfold enc1
        rw [show enc x.f0 2 ++ (enc (x.f1.size : Int) 2 ++ bytesOf x.f1) ++ s = (enc x.f0 2 ++ enc (x.f1.size : Int) 2) ++ (bytesOf x.f1 ++ s) by simp only [List.append_assoc], List.take_append]
        have h2 : (enc x.f0 2 ++ enc (x.f1.size : Int) 2).length = 4 := by simp only [List.length_append, enc_length]
        rw [List.take_of_length_le (by omega), h2]
      have := cut_app (encs p ++ enc x.f0 2) (enc (x.f1.size : Int) 2) ((bytesOf x.f1 ++ s).take (j - 4)) ((encs p).length + 2) 2 (by rw [List.length_append, enc_length]; omega) (by rw [enc_length]; rfl)
      rw [← this, ht]
      simp only [List.append_assoc]
    rw [hc, dec_enc2 (by omega) (by omega), if_pos (by omega)]
theorem cuts_from (K : Nat) (hK : 60 ≤ K) (l : List S26) (hk : okl l = true) (c : Int) (hc0 : 0 ≤ c) (hc : c ≤ ((encs l).length : Int)) : ∀ (q p : List S26) (k : Nat), l = p ++ q → q.length < k → ((encs p).length : Int) ≤ c →
    carillonlaw08_TlvCuts.l1 K k l (encs l) c (p.length : Int) ((encs p).length : Int) = some true := by
  have hkl := hk
  unfold okl at hkl
  rw [Bool.and_eq_true, decide_eq_true_eq] at hkl
  have he := encs_length l hkl.2
  intro q
  induction q with
  | nil =>
    intro p k e hq hp
    obtain ⟨k, rfl⟩ : ∃ j, k = j + 1 := ⟨k - 1, by omega⟩
    rw [List.append_nil] at e
    subst e
    have hcl : c = ((encs l).length : Int) := by omega
    subst hcl
    rw [carillonlaw08_TlvCuts.l1, if_neg (by omega), if_pos (by omega), if_pos (by omega), show ((encs l).take (((encs l).length : Int) : Int).toNat) = encs l by simp, tget_in _ (encs_by l) (by omega) 0 (by omega) (by omega) K (by omega), Option.bind_some]
    have hb := gets_back [] l hk K (by omega)
    rw [List.nil_append, List.length_nil] at hb
    have hb' : gets (encs l) K 0 [] = (l, 0) := hb
    rw [hb', if_pos rfl, if_pos rfl, if_pos (by omega), if_pos (by omega), show (l.take ((l.length : Int) : Int).toNat) = l by simp, same_self l (by omega) K (by omega), Option.bind_some, if_pos rfl, awake_of K (by omega)]
    rfl
  | cons x q ih =>
    intro p k e hq hp
    obtain ⟨k, rfl⟩ : ∃ j, k = j + 1 := ⟨k - 1, by omega⟩
    simp only [List.length_cons] at hq
    have hlen : l.length = p.length + (q.length + 1) := by rw [e]; simp
    have hel : encs l = encs p ++ (enc1 x ++ encs q) := by rw [e, encs_app, encs_cons]
    have hok : oks p = true ∧ okT x.f0 x.f1 = true ∧ oks q = true := by
      have h2 := hkl.2
      rw [e] at h2
      unfold oks at h2 ⊢
      rw [List.all_append, List.all_cons, Bool.and_eq_true, Bool.and_eq_true] at h2
      exact ⟨h2.1, h2.2.1, h2.2.2⟩
    have hs := okT_size hok.2.1
    have hell : (encs l).length = (encs p).length + (4 + x.f1.size + (encs q).length) := by rw [hel, List.length_append, List.length_append, enc1_length]
    have hx : rd_T26 l (p.length : Int) = x := by rw [e]; exact rd_at p x q
    have hw : wrap64 ((p.length : Int) + 1) = ((p ++ [x]).length : Int) := by rw [wq _ (by omega)]; simp
    have hw2 : wrap64 (wrap64 (((encs p).length : Int) + 4) + (x.f1.size : Int)) = ((encs (p ++ [x])).length : Int) := by
      rw [wq (((encs p).length : Int) + 4) (by omega), wq _ (by omega), encs_app, List.length_append, encs_cons, encs_nil, List.append_nil, enc1_length]
      omega
    have hel1 : (encs (p ++ [x])).length = (encs p).length + (4 + x.f1.size) := by rw [encs_app, List.length_append, encs_cons, encs_nil, List.append_nil, enc1_length]
    rw [carillonlaw08_TlvCuts.l1, if_pos (by omega), if_pos (by omega), hx, hw2]
    by_cases hn : ((encs (p ++ [x])).length : Int) ≤ c
    · rw [if_pos hn, hw]
      exact ih (p ++ [x]) k (by rw [e]; simp) (by omega) hn
    · rw [if_neg hn, if_pos hc0, if_pos hc]
      have hby : By ((encs l).take (c : Int).toNat) := (encs_by l).take _
      have htl : ((encs l).take (c : Int).toNat).length = c.toNat := by rw [List.length_take]; omega
      rw [tget_in _ hby (by omega) 0 (by omega) (by omega) K (by omega), Option.bind_some]
      by_cases hcc : ((encs p).length : Int) = c
      · have ht : (encs l).take (c : Int).toNat = encs p := by
          rw [hel, ← hcc, Int.toNat_natCast, List.take_append_of_le_length (Nat.le_refl _), List.take_length]
        have hpl : okl p = true := by unfold okl; rw [hok.1, decide_eq_true (by omega)]; rfl
        have hb := gets_back [] p hpl K (by omega)
        rw [List.nil_append, List.length_nil] at hb
        have hb' : gets (encs p) K 0 [] = (p, 0) := hb
        have htp : (l.take ((p.length : Int) : Int).toNat) = p := by rw [e, Int.toNat_natCast, List.take_append_of_le_length (Nat.le_refl _), List.take_length]
        rw [ht, hb', if_pos hcc, if_pos rfl, if_pos (by omega), htp, same_self p (by omega) K (by omega), Option.bind_some, if_pos rfl, awake_of K (by omega)]
        rfl
      · have ht : (encs l).take (c : Int).toNat = encs p ++ (enc1 x ++ encs q).take (c.toNat - (encs p).length) := by
          rw [hel, List.take_append, List.take_of_length_le (by omega)]
        rw [ht, gets_cut p x (encs q) (c.toNat - (encs p).length) hok.1 hok.2.1 (by omega) (by omega) (by omega) K (by omega), if_neg hcc, if_pos rfl, if_pos (show ((([], 2) : List S26 × Int).1.length : Int) = 0 from rfl), awake_of K (by omega)]
        rfl
theorem TlvCuts : carillonlaw08_TlvCuts.Pure := by
  intro l a hlm hl hlw haw
  have ha := wf64 haw
  obtain ⟨K, hK, hK2⟩ : ∃ K : Nat, 60 ≤ K ∧ l.length < K := ⟨60 + l.length, by omega, by omega⟩
  refine ⟨K, ?_⟩
  unfold carillonlaw08_TlvCuts.f
  rw [few_of l (by omega) K hK2, Option.bind_some]
  cases hf : few l with
  | false => rw [if_neg Bool.false_ne_true, awake_of K (by omega)]; rfl
  | true =>
    rw [if_pos rfl, tput_of [] (by simp) l K (by omega), Option.bind_some]
    cases hk : okl l with
    | false => rw [if_neg Bool.false_ne_true, if_neg Bool.false_ne_true, awake_of K (by omega)]; rfl
    | true =>
      have hkl := hk
      unfold okl at hkl
      rw [Bool.and_eq_true, decide_eq_true_eq] at hkl
      have he := encs_length l hkl.2
      have hw : wrap64 (((encs l).length : Int) + 1) = ((encs l).length : Int) + 1 := wq _ (by omega)
      rw [if_pos rfl, if_pos rfl, List.nil_append, hw, place_of a (((encs l).length : Int) + 1) (by omega) (by omega), Option.bind_some]
      have r1 := Int.emod_nonneg a (show ((encs l).length : Int) + 1 ≠ 0 by omega)
      have r2 := Int.emod_lt_of_pos a (show (0 : Int) < ((encs l).length : Int) + 1 by omega)
      exact cuts_from K hK l hk _ r1 (by omega) l [] K rfl (by omega) r1
end Go.Proofs.Ytgmiokocipmbaaa.Pure
