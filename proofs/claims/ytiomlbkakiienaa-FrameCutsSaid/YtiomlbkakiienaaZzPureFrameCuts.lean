/- A frame that is cut anywhere, or longer, is none: for every message, every row of TLVs, every place and whatever is put behind. -/
import Derived.Test.YtiomlbkakiienaaZzPx12
import Derived.Test.YtiomlbkakiienaaZzFrm
set_option linter.unusedVariables false
namespace Go.Proofs.Ytiomlbkakiienaa.Pure
open Go.RowKit Go.Proofs.Ytiomlbkakiienaa.P Go.Proofs.Ytiomlbkakiienaa.Lib Go.Proofs.Ytiomlbkakiienaa.Oct Go.Proofs.Ytiomlbkakiienaa.Hdr Go.Proofs.Ytiomlbkakiienaa.Bod Go.Proofs.Ytiomlbkakiienaa.Frm Go.Proofs.YtiomlbkakiienaaW.PrintWords Go.Proofs.YtiomlbkakiienaaW.PrintLast Go.Proofs.YtiomlbkakiienaaW.PrintMore
open Tlv (okl oks encs okT encs_length encs_by gets gets_back tput_of tget_of tget_in wq bytes_by bytes_str str_bytes few_len rd_at dd same_of same_self few)
theorem str_take (l : List Int) (j : Nat) : (strOfNums l).extract 0 j = strOfNums (l.take j) := by
  apply ByteArray.ext
  simp [strOfNums, ByteArray.data_extract]
theorem fget_few (k : Nat) (l : List Int) (h : l.length < 34) : fget k l = fz 2 := by
  have e : hget l = hz 2 := by
    unfold hget
    rw [if_pos (by omega)]
  unfold fget
  rw [e]
  rfl
theorem fget_hdr (m0 m1 m2 m3 m4 m5 m6 m7 m8 m9 m10 m11 m12 m13 m14 m15 m16 m17 m18 m19 m20 m21 m22 : Int) (n : Int) (r : List Int) (k : Nat) (h : hok m0 m1 m2 m5 m6 m7 = true) (hw : within n 34 400 = true) (h3 : -9223372036854775808 ≤ m3 ∧ m3 ≤ 9223372036854775807) (h4 : 0 ≤ m4 ∧ m4 ≤ 18446744073709551615) (hn : ((34 + r.length : Nat) : Int) ≠ n) :
    (fget k (hdr m0 m1 m2 m3 m4 m5 m6 m7 n ++ r)).2.2.2.2.2.2.2.2.2.2.2.2.2.2.2.2.2.2.2.2.2.2.2.2 = if ((34 + r.length : Nat) : Int) < n then 2 else 3 := by
  have e := hget_hdr m0 m1 m2 m3 m4 m5 m6 m7 n r h hw h3 h4
  unfold fget
  by_cases q : ((34 + r.length : Nat) : Int) < n
  · rw [if_pos q] at e ⊢
    rw [e]
    rfl
  · rw [if_neg q, if_pos (by omega)] at e
    rw [if_neg q, e]
    rfl
theorem FrameCuts : carillonlaw09_FrameCuts.Pure := by
  intro m0 m1 m2 m3 m4 m5 m6 m7 m8 m9 m10 m11 m12 m13 m14 m15 m16 m17 m18 m19 m20 m21 m22 l a q w0 w1 w2 w3 w4 w5 w6 w7 w8 w9 w10 w11 w12 w13 w14 w15 w16 w17 w18 w19 w20 w21 w22 hlm hl hlw haw hqm hq hqw
  have hqb := by_wf hqw
  have ha := wf64 haw
  obtain ⟨K, hK, hK2⟩ : ∃ K : Nat, 60 ≤ K ∧ l.length < K := ⟨60 + l.length, by omega, by omega⟩
  refine ⟨K + 2, ?_⟩
  have haw2 := awake_of K hK
  unfold carillonlaw09_FrameCuts.f
  rw [few_of l (by omega) (K + 2) (by omega), Option.bind_some]
  cases hf : few l with
  | false => rw [if_neg Bool.false_ne_true, haw2]; rfl
  | true =>
    have hfl := few_len hf
    have ht : carillonlaw00_Tlvs.f l = some l := by
      unfold carillonlaw00_Tlvs.f
      rw [if_pos (by simp; omega), List.nil_append]
    rw [if_pos rfl]
    by_cases h50 : (q.length : Int) > 50
    · rw [if_pos h50, haw2]; rfl
    rw [if_neg h50, ht, Option.bind_some, fPut_of m0 m1 m2 m3 m4 m5 m6 m7 m8 m9 m10 m11 m12 m13 m14 m15 m16 m17 m18 m19 m20 m21 m22 l K hK, Option.bind_some]
    cases hk : fok m0 m1 m2 m3 m4 m5 m6 m7 m8 m9 m10 m11 m12 m13 m14 m15 m16 m17 m18 m19 m20 m21 m22 l with
    | false =>
      rw [if_neg Bool.false_ne_true]
      dsimp only
      rw [if_neg Bool.false_ne_true, haw2]
      rfl
    | true =>
      have hk2 := hk
      unfold fok at hk2
      rw [Bool.and_eq_true, Bool.and_eq_true, decide_eq_true_eq] at hk2
      obtain ⟨hb, ho, hn⟩ := hk2
      have hlen := frame_length m0 m1 m2 m3 m4 m5 m6 m7 m8 m9 m10 m11 m12 m13 m14 m15 m16 m17 m18 m19 m20 m21 m22 l
      have hfn : fn m0 m1 m2 m3 m4 m5 m6 m7 m8 m9 m10 m11 m12 m13 m14 m15 m16 m17 m18 m19 m20 m21 m22 l = 34 + (((bbytes m0 m8 m9 m10 m11 m12 m13 m14 m15 m16 m17 m18 m19 m20 m21 m22).length + (encs l).length : Nat) : Int) := rfl
      have hw : within (fn m0 m1 m2 m3 m4 m5 m6 m7 m8 m9 m10 m11 m12 m13 m14 m15 m16 m17 m18 m19 m20 m21 m22 l) 34 400 = true := decide_eq_true (by omega)
      have hh := bok_hok hb
      have hfb := frame_by m0 m1 m2 m3 m4 m5 m6 m7 m8 m9 m10 m11 m12 m13 m14 m15 m16 m17 m18 m19 m20 m21 m22 l
      have hrl : (bbytes m0 m8 m9 m10 m11 m12 m13 m14 m15 m16 m17 m18 m19 m20 m21 m22 ++ encs l).length = (bbytes m0 m8 m9 m10 m11 m12 m13 m14 m15 m16 m17 m18 m19 m20 m21 m22).length + (encs l).length := List.length_append
      have hhl := hdr_length m0 m1 m2 m3 m4 m5 m6 m7 (fn m0 m1 m2 m3 m4 m5 m6 m7 m8 m9 m10 m11 m12 m13 m14 m15 m16 m17 m18 m19 m20 m21 m22 l)
      rw [if_pos rfl]
      dsimp only
      rw [if_pos rfl, str_size, hlen, place_of a (fn m0 m1 m2 m3 m4 m5 m6 m7 m8 m9 m10 m11 m12 m13 m14 m15 m16 m17 m18 m19 m20 m21 m22 l) (by omega) (by omega), Option.bind_some]
      have r1 := Int.emod_nonneg a (show fn m0 m1 m2 m3 m4 m5 m6 m7 m8 m9 m10 m11 m12 m13 m14 m15 m16 m17 m18 m19 m20 m21 m22 l ≠ 0 by omega)
      have r2 := Int.emod_lt_of_pos a (show (0 : Int) < fn m0 m1 m2 m3 m4 m5 m6 m7 m8 m9 m10 m11 m12 m13 m14 m15 m16 m17 m18 m19 m20 m21 m22 l by omega)
      generalize a % fn m0 m1 m2 m3 m4 m5 m6 m7 m8 m9 m10 m11 m12 m13 m14 m15 m16 m17 m18 m19 m20 m21 m22 l = j at *
      have hcut : (fget (K + 2) ((frame m0 m1 m2 m3 m4 m5 m6 m7 m8 m9 m10 m11 m12 m13 m14 m15 m16 m17 m18 m19 m20 m21 m22 l).take j.toNat)).2.2.2.2.2.2.2.2.2.2.2.2.2.2.2.2.2.2.2.2.2.2.2.2 = 2 := by
        by_cases h34 : j.toNat < 34
        · rw [fget_few _ _ (by rw [List.length_take]; omega)]
          rfl
        · have e : (frame m0 m1 m2 m3 m4 m5 m6 m7 m8 m9 m10 m11 m12 m13 m14 m15 m16 m17 m18 m19 m20 m21 m22 l).take j.toNat = hdr m0 m1 m2 m3 m4 m5 m6 m7 (fn m0 m1 m2 m3 m4 m5 m6 m7 m8 m9 m10 m11 m12 m13 m14 m15 m16 m17 m18 m19 m20 m21 m22 l) ++ (bbytes m0 m8 m9 m10 m11 m12 m13 m14 m15 m16 m17 m18 m19 m20 m21 m22 ++ encs l).take (j.toNat - 34) := by
            unfold frame
            rw [List.take_append, hhl, List.take_of_length_le (by omega)]
          rw [e, fget_hdr m0 m1 m2 m3 m4 m5 m6 m7 m8 m9 m10 m11 m12 m13 m14 m15 m16 m17 m18 m19 m20 m21 m22 (fn m0 m1 m2 m3 m4 m5 m6 m7 m8 m9 m10 m11 m12 m13 m14 m15 m16 m17 m18 m19 m20 m21 m22 l) _ (K + 2) hh hw (wf64 w3) (wfu64 w4) (by rw [List.length_take]; omega), if_pos (by rw [List.length_take]; omega)]
      have hmore : (decide ((fget (K + 2) (frame m0 m1 m2 m3 m4 m5 m6 m7 m8 m9 m10 m11 m12 m13 m14 m15 m16 m17 m18 m19 m20 m21 m22 l ++ q)).2.2.2.2.2.2.2.2.2.2.2.2.2.2.2.2.2.2.2.2.2.2.2.2 = 0)) = decide ((q.length : Int) = 0) := by
        by_cases hq0 : q.length = 0
        · have hq1 := List.length_eq_zero_iff.1 hq0
          rw [hq1, List.append_nil, fget_frame m0 m1 m2 m3 m4 m5 m6 m7 m8 m9 m10 m11 m12 m13 m14 m15 m16 m17 m18 m19 m20 m21 m22 l (K + 2) (by omega) hk (wf64 w3) (wfu64 w4) (wfu64 w9) (wfu64 w17)]
          rfl
        · have e : frame m0 m1 m2 m3 m4 m5 m6 m7 m8 m9 m10 m11 m12 m13 m14 m15 m16 m17 m18 m19 m20 m21 m22 l ++ q = hdr m0 m1 m2 m3 m4 m5 m6 m7 (fn m0 m1 m2 m3 m4 m5 m6 m7 m8 m9 m10 m11 m12 m13 m14 m15 m16 m17 m18 m19 m20 m21 m22 l) ++ (bbytes m0 m8 m9 m10 m11 m12 m13 m14 m15 m16 m17 m18 m19 m20 m21 m22 ++ encs l ++ q) := by
            unfold frame
            rw [List.append_assoc]
          rw [e, fget_hdr m0 m1 m2 m3 m4 m5 m6 m7 m8 m9 m10 m11 m12 m13 m14 m15 m16 m17 m18 m19 m20 m21 m22 (fn m0 m1 m2 m3 m4 m5 m6 m7 m8 m9 m10 m11 m12 m13 m14 m15 m16 m17 m18 m19 m20 m21 m22 l) _ (K + 2) hh hw (wf64 w3) (wfu64 w4) (by rw [List.length_append]; omega), if_neg (by rw [List.length_append]; omega), decide_eq_false (by omega), decide_eq_false (by omega)]
      have g1 : frame_Get.f (K + 2) ((strOfNums (frame m0 m1 m2 m3 m4 m5 m6 m7 m8 m9 m10 m11 m12 m13 m14 m15 m16 m17 m18 m19 m20 m21 m22 l)).extract (0 : Int).toNat j.toNat) = some (fget (K + 2) ((frame m0 m1 m2 m3 m4 m5 m6 m7 m8 m9 m10 m11 m12 m13 m14 m15 m16 m17 m18 m19 m20 m21 m22 l).take j.toNat)) := by
        have z : (0 : Int).toNat = 0 := rfl
        rw [z, str_take, fGet_of _ (by rw [str_size, List.length_take]; omega) K hK, bytes_str (hfb.take _)]
      have g2 : frame_Get.f (K + 2) (strOfNums (frame m0 m1 m2 m3 m4 m5 m6 m7 m8 m9 m10 m11 m12 m13 m14 m15 m16 m17 m18 m19 m20 m21 m22 l) ++ strOfNums q) = some (fget (K + 2) (frame m0 m1 m2 m3 m4 m5 m6 m7 m8 m9 m10 m11 m12 m13 m14 m15 m16 m17 m18 m19 m20 m21 m22 l ++ q)) := by
        rw [str_app, fGet_of _ (by rw [str_size, List.length_append]; omega) K hK, bytes_str (hfb.app hqb)]
      rw [if_pos r1, if_pos (by omega), g1, Option.bind_some, str_size, if_pos (by omega), g2, Option.bind_some, if_pos hcut, if_pos (by rw [hmore]; simp), haw2]
      rfl
end Go.Proofs.Ytiomlbkakiienaa.Pure
