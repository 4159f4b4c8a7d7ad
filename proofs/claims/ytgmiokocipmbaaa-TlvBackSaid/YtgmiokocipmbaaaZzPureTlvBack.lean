/- What is put is got, what is made is read: for every row of bytes, of TLVs and of identities, every number and every string. -/
import Derived.Test.YtgmiokocipmbaaaZzPx12
import Derived.Test.YtgmiokocipmbaaaZzTlv
namespace Go.Proofs.Ytgmiokocipmbaaa.Pure
open Go.RowKit Go.Proofs.Ytgmiokocipmbaaa.P Go.Proofs.Ytgmiokocipmbaaa.Lib Go.Proofs.Ytgmiokocipmbaaa.Oct Go.Proofs.Ytgmiokocipmbaaa.Tlv Go.Proofs.YtgmiokocipmbaaaW.PrintWords Go.Proofs.YtgmiokocipmbaaaW.PrintLast Go.Proofs.YtgmiokocipmbaaaW.PrintMore
theorem ids_back : ∀ (q p : List Int) (n : Nat) (acc : List Int), (∀ v ∈ q, 0 ≤ v ∧ v ≤ 18446744073709551615) → q.length < n → idsOf (p ++ ids8 q) n (p.length : Int) acc = acc ++ q := by
  intro q
  induction q with
  | nil =>
    intro p n acc _ hn
    obtain ⟨n, rfl⟩ : ∃ j, n = j + 1 := ⟨n - 1, by simp at hn; omega⟩
    rw [idsOf, if_neg (by simp [ids8]), List.append_nil]
  | cons v q ih =>
    intro p n acc hv hn
    obtain ⟨n, rfl⟩ : ∃ j, n = j + 1 := ⟨n - 1, by simp at hn; omega⟩
    have hl : (p ++ ids8 (v :: q)).length = p.length + (8 + 8 * q.length) := by rw [List.length_append, ids8_length, List.length_cons]; omega
    have hc : cut (p ++ ids8 (v :: q)) (p.length : Int) 8 = enc v 8 := by
      have := cut_app p (enc v 8) (ids8 q) (p.length : Int) 8 rfl (by rw [enc_length]; rfl)
      rw [← this, ids8_cons, List.append_assoc]
    have hv0 := hv v (List.mem_cons_self ..)
    have hd : dec (enc v 8) = v := by
      rw [dec_enc, pow8]
      omega
    rw [idsOf, if_pos (by omega), if_pos (by unfold has; omega), hc, hd]
    have := ih (p ++ enc v 8) n (acc ++ [v]) (fun z hz => hv z (List.mem_cons_of_mem _ hz)) (by simp at hn; omega)
    rw [List.append_assoc p, ← ids8_cons, List.length_append, enc_length] at this
    rw [show ((p.length : Int) + 8) = ((p.length + 8 : Nat) : Int) by omega, this, List.append_assoc]
    rfl
theorem str_drop (l : List Int) (i : Nat) : (strOfNums l).extract i l.length = strOfNums (l.drop i) := by
  apply ByteArray.ext
  simp [strOfNums, ByteArray.data_extract]
  exact List.take_of_length_le (by simp)
theorem str_snoc (d : ByteArray) : strOfNums (bytesOf d ++ [0]) = d ++ (⟨#[0]⟩ : ByteArray) := by
  rw [← str_app, str_bytes]
  rfl
theorem made (K : Nat) (hK : 60 ≤ K) (a : Int) (d : ByteArray) (hd : d.size ≤ 300) (n : List Int) (hn : n.length ≤ 16) (hnw : ∀ v ∈ n, 0 ≤ v ∧ v ≤ 18446744073709551615) : carillonlaw08_TlvBack.j2 K a d n = some true := by
  unfold carillonlaw08_TlvBack.j2
  have hi : carillonlaw00_Ids.f n = some n := by
    unfold carillonlaw00_Ids.f
    rw [if_pos (by simp; omega), List.nil_append]
  have r1 := Int.emod_nonneg a (show (65536 : Int) ≠ 0 by omega)
  have r2 := Int.emod_lt_of_pos a (show (0 : Int) < 65536 by omega)
  rw [hi, Option.bind_some, tpath_of n K (by omega), Option.bind_some]
  have e1 : pathT n = (8, strOfNums (ids8 n), true) := by unfold pathT; rw [if_pos hn]
  rw [e1]
  dsimp only
  rw [tpo_of _ _ K (by omega), Option.bind_some, place_of a 65536 (by omega) (by omega), Option.bind_some]
  generalize a % 65536 = c at *
  have hpl := padM_length c d
  have e2 : pathOf K 8 (strOfNums (ids8 n)) = (n, true) := by
    unfold pathOf
    have hk : knT 8 (strOfNums (ids8 n)).size = true := by
      rw [str_size, ids8_length]
      unfold knT
      simp
      omega
    rw [if_pos ⟨rfl, hk⟩, bytes_str (ids8_by n)]
    have := ids_back n [] K [] hnw (by omega)
    rw [List.nil_append, List.nil_append] at this
    have h2 : idsOf (ids8 n) K 0 [] = n := this
    rw [h2]
  have e3 : manT c d = (1, strOfNums (padM c d), true) := by
    unfold manT
    rw [if_pos ⟨by omega, by omega, by omega⟩]
  have kn : knT 1 (strOfNums (padM c d)).size = true := by
    rw [str_size]
    unfold knT
    simp
    omega
  have hs : (if d.size % 2 = 0 then d else d ++ (⟨#[0]⟩ : ByteArray)) = strOfNums ((padM c d).drop 2) := by
    unfold padM
    by_cases h : d.size % 2 = 0
    · rw [if_pos h, if_pos (by omega), List.drop_append_of_le_length (by rw [enc_length]; omega), List.drop_of_length_le (Nat.le_of_eq (enc_length _ _)), List.nil_append, str_bytes]
    · rw [if_neg h, if_neg (by omega), List.append_assoc, List.drop_append_of_le_length (by rw [enc_length]; omega), List.drop_of_length_le (Nat.le_of_eq (enc_length _ _)), List.nil_append, str_snoc]
  have e4 : manOf 1 (strOfNums (padM c d)) = (c, (if d.size % 2 = 0 then d else d ++ (⟨#[0]⟩ : ByteArray)), true) := by
    unfold manOf
    rw [if_pos ⟨rfl, kn⟩, bytes_str (padM_by c d), hs, str_size, Int.toNat_natCast]
    have h2 : (2 : Int).toNat = 2 := rfl
    rw [h2, str_drop]
    have hc : cut (padM c d) 0 2 = enc c 2 := by
      unfold padM
      by_cases h : (2 + d.size) % 2 = 0
      · rw [if_pos h]
        have := cut_app [] (enc c 2) (bytesOf d) 0 2 rfl (by rw [enc_length]; rfl)
        rwa [List.nil_append] at this
      · rw [if_neg h, List.append_assoc]
        have := cut_app [] (enc c 2) (bytesOf d ++ [0]) 0 2 rfl (by rw [enc_length]; rfl)
        rwa [List.nil_append] at this
    rw [hc, dec_enc2 (by omega) (by omega)]
  have e5 : fltT c 7 = (2, strOfNums (enc c 2 ++ enc 7 2 ++ enc 0 4), true) := by
    unfold fltT
    rw [if_pos ⟨⟨by omega, by omega⟩, by omega, by omega⟩]
  have e6 : fltOf 2 (strOfNums (enc c 2 ++ enc 7 2 ++ enc 0 4)) = (c, 7, true) := by
    unfold fltOf
    have hk : knT 2 (strOfNums (enc c 2 ++ enc 7 2 ++ enc 0 4)).size = true := by
      rw [str_size]
      simp only [List.length_append, enc_length]
      decide
    rw [if_pos ⟨rfl, hk⟩, bytes_str (((enc_by _ _).app (enc_by _ _)).app (enc_by _ _))]
    have c1 := cut_app [] (enc c 2) (enc 7 2 ++ enc 0 4) 0 2 rfl (by rw [enc_length]; rfl)
    have c2 := cut_app (enc c 2) (enc 7 2) (enc 0 4) 2 2 (by rw [enc_length]; rfl) (by rw [enc_length]; rfl)
    rw [List.nil_append, ← List.append_assoc] at c1
    rw [c1, c2, dec_enc2 (by omega) (by omega), dec_enc2 (by omega) (by omega)]
  have hsz : (strOfNums (padM c d)).size = 2 + d.size + d.size % 2 := by rw [str_size, hpl]
  rw [tman_of, Option.bind_some, e3]
  dsimp only
  rw [tmo_of 1 (strOfNums (padM c d)) (by omega) K (by omega), Option.bind_some, e4, tflt_of c 7 K (by omega), Option.bind_some, e5]
  dsimp only
  rw [tfo_of 2 (strOfNums (enc c 2 ++ enc 7 2 ++ enc 0 4)) (by rw [str_size]; simp only [List.length_append, enc_length]; omega) K (by omega), Option.bind_some, e6, e2]
  dsimp only
  rw [if_pos rfl, if_pos rfl, if_pos rfl, if_pos rfl, if_pos rfl, if_pos rfl, sameIds_self n (by omega) K (by omega), Option.bind_some, if_pos rfl, if_pos rfl, if_pos rfl, if_pos rfl]
  have hck : okT 1 (strOfNums (padM c d)) = true := by
    unfold okT
    rw [hsz]
    exact decide_eq_true ⟨by omega, by omega, by omega, by omega⟩
  rw [tcheck_of, hck, Option.bind_some, if_pos rfl, known_of, kn, Option.bind_some, if_pos rfl, awake_of K (by omega), Option.bind_some]
  by_cases h : d.size % 2 = 0
  · rw [if_pos h, if_pos (by simp)]
  · rw [if_neg h]
    split
    · rfl
    · rw [if_pos (by
        have : (⟨#[0]⟩ : ByteArray).size = 1 := rfl
        omega), if_pos (by simp), if_pos (by rw [tm2]; omega)]
theorem TlvBack : carillonlaw08_TlvBack.Pure := by
  intro b l ids a d hbm hb hbw hlm hl hlw him hi hiw haw hd
  have hby := by_wf hbw
  have hiw2 : ∀ v ∈ ids, 0 ≤ v ∧ v ≤ 18446744073709551615 := fun v hv => wfu64 (hiw v hv)
  obtain ⟨K, hK, hK2⟩ : ∃ K : Nat, 60 ≤ K ∧ l.length < K := ⟨60 + l.length, by omega, by omega⟩
  refine ⟨K, ?_⟩
  unfold carillonlaw08_TlvBack.f
  rw [few_of l (by omega) K hK2, Option.bind_some]
  cases hf : few l with
  | false => rw [if_neg Bool.false_ne_true, awake_of K (by omega)]; rfl
  | true =>
    rw [if_pos rfl]
    by_cases h3 : (d.size : Int) > 300
    · rw [if_pos h3, awake_of K (by omega)]; rfl
    have hfl := few_len hf
    have j1 : carillonlaw08_TlvBack.j1 K ids a d = some true := by
      unfold carillonlaw08_TlvBack.j1
      by_cases h : (ids.length : Int) > 16
      · rw [if_pos h, if_pos (by omega)]
        exact made K hK a d (by omega) _ (by rw [List.length_take]; exact Nat.min_le_left _ _) (fun v hv => hiw2 v (List.mem_of_mem_take hv))
      · rw [if_neg h]
        exact made K hK a d (by omega) ids (by omega) hiw2
    have hbs : carillonlaw00_Bytes.f b = some b := by
      unfold carillonlaw00_Bytes.f
      rw [if_pos (by simp; omega), List.nil_append]
    rw [if_neg h3, hbs, Option.bind_some, tput_of b (by omega) l K (by omega), Option.bind_some, j1]
    cases hk : okl l with
    | false => rw [if_neg Bool.false_ne_true, if_neg Bool.false_ne_true]
    | true =>
      have hkl := hk
      unfold okl at hkl
      rw [Bool.and_eq_true, decide_eq_true_eq] at hkl
      have he := encs_length l hkl.2
      have hll : (b ++ encs l).length = b.length + (encs l).length := List.length_append
      rw [if_pos rfl, if_pos rfl, tget_in _ (hby.app (encs_by l)) (by omega) _ (by omega) (by omega) K (by omega), Option.bind_some, gets_back b l hk K (by omega), if_pos rfl, same_self l (by omega) K hK2, Option.bind_some, if_pos rfl]
end Go.Proofs.Ytgmiokocipmbaaa.Pure
