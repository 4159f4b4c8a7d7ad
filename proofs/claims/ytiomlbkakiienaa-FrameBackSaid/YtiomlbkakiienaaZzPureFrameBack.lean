/- What is put is got, in its domain alone: for every message, every row of TLVs and every domain. -/
import Derived.Test.YtiomlbkakiienaaZzPx23
import Derived.Test.YtiomlbkakiienaaZzFrm
namespace Go.Proofs.Ytiomlbkakiienaa.Pure
open Go.RowKit Go.Proofs.Ytiomlbkakiienaa.P Go.Proofs.Ytiomlbkakiienaa.Lib Go.Proofs.Ytiomlbkakiienaa.Oct Go.Proofs.Ytiomlbkakiienaa.Hdr Go.Proofs.Ytiomlbkakiienaa.Bod Go.Proofs.Ytiomlbkakiienaa.Frm Go.Proofs.YtiomlbkakiienaaW.PrintWords Go.Proofs.YtiomlbkakiienaaW.PrintLast Go.Proofs.YtiomlbkakiienaaW.PrintMore
open Tlv (okl oks encs okT encs_length encs_by gets gets_back tput_of tget_of tget_in wq bytes_by bytes_str str_bytes few_len rd_at dd same_of same_self few)
theorem FrameBack : carillonlaw09_FrameBack.Pure := by
  intro m0 m1 m2 m3 m4 m5 m6 m7 m8 m9 m10 m11 m12 m13 m14 m15 m16 m17 m18 m19 m20 m21 m22 l dm w0 w1 w2 w3 w4 w5 w6 w7 w8 w9 w10 w11 w12 w13 w14 w15 w16 w17 w18 w19 w20 w21 w22 hlm hl hlw hdm
  obtain ⟨K, hK, hK2⟩ : ∃ K : Nat, 60 ≤ K ∧ l.length < K := ⟨60 + l.length, by omega, by omega⟩
  refine ⟨K + 2, ?_⟩
  have haw := awake_of K hK
  unfold carillonlaw09_FrameBack.f
  rw [few_of l (by omega) (K + 2) (by omega), Option.bind_some]
  cases hf : few l with
  | false => rw [if_neg Bool.false_ne_true, haw]; rfl
  | true =>
    have hfl := few_len hf
    have ht : carillonlaw00_Tlvs.f l = some l := by
      unfold carillonlaw00_Tlvs.f
      rw [if_pos (by simp; omega), List.nil_append]
    rw [if_pos rfl, ht, Option.bind_some, fPut_of m0 m1 m2 m3 m4 m5 m6 m7 m8 m9 m10 m11 m12 m13 m14 m15 m16 m17 m18 m19 m20 m21 m22 l K hK, Option.bind_some]
    cases hk : fok m0 m1 m2 m3 m4 m5 m6 m7 m8 m9 m10 m11 m12 m13 m14 m15 m16 m17 m18 m19 m20 m21 m22 l with
    | false =>
      rw [if_neg Bool.false_ne_true]
      dsimp only
      rw [if_neg Bool.false_ne_true, if_pos (by decide +kernel), haw]
      rfl
    | true =>
      have hk2 := hk
      unfold fok at hk2
      rw [Bool.and_eq_true, Bool.and_eq_true, decide_eq_true_eq] at hk2
      have hlen := frame_length m0 m1 m2 m3 m4 m5 m6 m7 m8 m9 m10 m11 m12 m13 m14 m15 m16 m17 m18 m19 m20 m21 m22 l
      have hg : frame_Get.f (K + 2) (strOfNums (frame m0 m1 m2 m3 m4 m5 m6 m7 m8 m9 m10 m11 m12 m13 m14 m15 m16 m17 m18 m19 m20 m21 m22 l)) = some (m0, m1, m2, m3, m4, m5, m6, m7, m8, m9, m10, m11, m12, m13, m14, m15, m16, m17, m18, m19, m20, m21, m22, l, 0) := by
        rw [fGet_of _ (by rw [str_size]; omega) K hK, bytes_str (frame_by m0 m1 m2 m3 m4 m5 m6 m7 m8 m9 m10 m11 m12 m13 m14 m15 m16 m17 m18 m19 m20 m21 m22 l), fget_frame m0 m1 m2 m3 m4 m5 m6 m7 m8 m9 m10 m11 m12 m13 m14 m15 m16 m17 m18 m19 m20 m21 m22 l (K + 2) (by omega) hk (wf64 w3) (wfu64 w4) (wfu64 w9) (wfu64 w17)]
      rw [if_pos rfl]
      dsimp only
      rw [if_pos rfl, hg, Option.bind_some]
      unfold frame_Here.f
      rw [hg, Option.bind_some, same_self l (by omega) (K + 2) (by omega), haw, str_size]
      dsimp only
      simp only [Option.bind_some, beq_self_eq_true, Bool.and_self, if_true]
      by_cases hd : m1 = dm
      · rw [if_pos hd, Option.bind_some, if_pos (by simp [hd]), if_pos (by omega)]
      · rw [if_neg hd, Option.bind_some, if_pos (by simp; exact fun e => hd e.symm), if_pos (by omega)]
end Go.Proofs.Ytiomlbkakiienaa.Pure
