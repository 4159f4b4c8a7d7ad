/- Any message with any TLVs is put as the document says: for every message and every row of TLVs. -/
import Derived.Test.YtiomlbkakiienaaZzPx10
import Derived.Test.YtiomlbkakiienaaZzFrp
set_option linter.unusedVariables false
namespace Go.Proofs.Ytiomlbkakiienaa.Pure
open Go.RowKit Go.Proofs.Ytiomlbkakiienaa.P Go.Proofs.Ytiomlbkakiienaa.Lib Go.Proofs.Ytiomlbkakiienaa.Oct Go.Proofs.Ytiomlbkakiienaa.Hdr Go.Proofs.Ytiomlbkakiienaa.Bod Go.Proofs.Ytiomlbkakiienaa.Frm Go.Proofs.YtiomlbkakiienaaW.PrintWords Go.Proofs.YtiomlbkakiienaaW.PrintLast Go.Proofs.YtiomlbkakiienaaW.PrintMore
open Tlv (okl oks encs okT encs_length encs_by tput_of rtput_of wq bytes_by bytes_str str_bytes few_len rd_at dd few)
open Frp (rfPut_of awake_of)
theorem FramePuts : carillonlaw09_FramePuts.Pure := by
  intro m0 m1 m2 m3 m4 m5 m6 m7 m8 m9 m10 m11 m12 m13 m14 m15 m16 m17 m18 m19 m20 m21 m22 l w0 w1 w2 w3 w4 w5 w6 w7 w8 w9 w10 w11 w12 w13 w14 w15 w16 w17 w18 w19 w20 w21 w22 hlm hl hlw
  obtain ⟨n, hn⟩ : ∃ n : Nat, l.length < n := ⟨l.length + 1, by omega⟩
  refine ⟨n + 62, ?_⟩
  have haw := awake_of n
  unfold carillonlaw09_FramePuts.f
  rw [few_of l (by omega) (n + 62) (by omega), Option.bind_some]
  cases hf : few l with
  | false => rw [if_neg Bool.false_ne_true, haw]; rfl
  | true =>
    have hfl := few_len hf
    have ht : carillonlaw00_Tlvs.f l = some l := by
      unfold carillonlaw00_Tlvs.f
      rw [if_pos (by simp; omega), List.nil_append]
    rw [if_pos rfl, ht, Option.bind_some, fPut_of m0 m1 m2 m3 m4 m5 m6 m7 m8 m9 m10 m11 m12 m13 m14 m15 m16 m17 m18 m19 m20 m21 m22 l (n + 60) (by omega), Option.bind_some, rfPut_of m0 m1 m2 m3 m4 m5 m6 m7 m8 m9 m10 m11 m12 m13 m14 m15 m16 m17 m18 m19 m20 m21 m22 l (n + 60) (by omega), Option.bind_some, haw, if_pos (by simp), if_pos (by simp)]
    rfl
end Go.Proofs.Ytiomlbkakiienaa.Pure
