/- The document's own frame, and that the package is awake, for the statement on frames that are put. -/
import Derived.Test.YtiomlbkakiienaaZzPx0
import Derived.Test.YtiomlbkakiienaaZzPx5
import Derived.Test.YtiomlbkakiienaaZzPx6
import Derived.Test.YtiomlbkakiienaaZzPx10
import Derived.Test.YtiomlbkakiienaaZzLib
import Derived.Test.YtiomlbkakiienaaZzOct
import Derived.Test.YtiomlbkakiienaaZzHdr
import Derived.Test.YtiomlbkakiienaaZzBod
import Derived.Test.YtiomlbkakiienaaZzTlv
import Derived.Test.YtiomlbkakiienaaZzFrm
set_option linter.unusedVariables false
namespace Go.Proofs.Ytiomlbkakiienaa.Frp
open Go.RowKit Go.Proofs.Ytiomlbkakiienaa.P Go.Proofs.Ytiomlbkakiienaa.Lib Go.Proofs.Ytiomlbkakiienaa.Oct Go.Proofs.Ytiomlbkakiienaa.Hdr Go.Proofs.Ytiomlbkakiienaa.Bod Go.Proofs.Ytiomlbkakiienaa.Frm Go.Proofs.YtiomlbkakiienaaW.PrintWords Go.Proofs.YtiomlbkakiienaaW.PrintLast Go.Proofs.YtiomlbkakiienaaW.PrintMore
open Tlv (okl oks encs okT encs_length encs_by tput_of rtput_of wq bytes_by bytes_str str_bytes few_len rd_at dd few)
theorem rfPut_of (m0 m1 m2 m3 m4 m5 m6 m7 m8 m9 m10 m11 m12 m13 m14 m15 m16 m17 m18 m19 m20 m21 m22 : Int) (l : List S43) (K : Nat) (hK : 60 ≤ K) : carillonref09_Put.f (K + 2) m0 m1 m2 m3 m4 m5 m6 m7 m8 m9 m10 m11 m12 m13 m14 m15 m16 m17 m18 m19 m20 m21 m22 l = some (if fok m0 m1 m2 m3 m4 m5 m6 m7 m8 m9 m10 m11 m12 m13 m14 m15 m16 m17 m18 m19 m20 m21 m22 l = true then (strOfNums (frame m0 m1 m2 m3 m4 m5 m6 m7 m8 m9 m10 m11 m12 m13 m14 m15 m16 m17 m18 m19 m20 m21 m22 l), true) else ((⟨#[]⟩ : ByteArray), false)) := by
  unfold carillonref09_Put.f fok
  rw [rtput_of l (K + 2) (by omega), Option.bind_some]
  cases ho : okl l with
  | false =>
    rw [if_neg Bool.false_ne_true]
    dsimp only
    rw [if_neg Bool.false_ne_true, Bool.false_and, Bool.and_false, if_neg Bool.false_ne_true]
  | true =>
    rw [if_pos rfl]
    dsimp only
    rw [if_pos rfl, rbcheck_of, Option.bind_some]
    cases hb : bok m0 m1 m2 m3 m4 m5 m6 m7 m8 m9 m10 m11 m12 m13 m14 m15 m16 m17 m18 m19 m20 m21 m22 with
    | false => rw [if_neg Bool.false_ne_true, Bool.false_and, if_neg Bool.false_ne_true]
    | true =>
      have hkn : kn m0 = true := by
        have := bok_hok hb
        unfold hok at this
        exact (Bool.and_eq_true_iff.1 this).1
      have hbl := bbytes_length m0 m8 m9 m10 m11 m12 m13 m14 m15 m16 m17 m18 m19 m20 m21 m22 hkn
      have hle := bbytes_le m0 m8 m9 m10 m11 m12 m13 m14 m15 m16 m17 m18 m19 m20 m21 m22
      have hel := okl_len ho
      have hbr := blen_range m0
      have hfn : wrap64 (wrap64 (34 + blen m0) + ((encs l).length : Int)) = fn m0 m1 m2 m3 m4 m5 m6 m7 m8 m9 m10 m11 m12 m13 m14 m15 m16 m17 m18 m19 m20 m21 m22 l := by
        rw [wq (34 + blen m0) (by omega), wq _ (by omega)]
        unfold fn
        omega
      have hfl := frame_length m0 m1 m2 m3 m4 m5 m6 m7 m8 m9 m10 m11 m12 m13 m14 m15 m16 m17 m18 m19 m20 m21 m22 l
      rw [if_pos rfl, rlen_of, Option.bind_some, hfn, Bool.true_and, Bool.true_and]
      by_cases hw : fn m0 m1 m2 m3 m4 m5 m6 m7 m8 m9 m10 m11 m12 m13 m14 m15 m16 m17 m18 m19 m20 m21 m22 l ≤ 400
      · have hn0 : 34 ≤ fn m0 m1 m2 m3 m4 m5 m6 m7 m8 m9 m10 m11 m12 m13 m14 m15 m16 m17 m18 m19 m20 m21 m22 l := by unfold fn; omega
        have hw2 : within (fn m0 m1 m2 m3 m4 m5 m6 m7 m8 m9 m10 m11 m12 m13 m14 m15 m16 m17 m18 m19 m20 m21 m22 l) 34 400 = true := decide_eq_true ⟨hn0, hw⟩
        rw [if_neg (show ¬ fn m0 m1 m2 m3 m4 m5 m6 m7 m8 m9 m10 m11 m12 m13 m14 m15 m16 m17 m18 m19 m20 m21 m22 l > 400 by omega), rhPut_of _ _ _ _ _ _ _ _ _ _ _ _ _ _ _ _ _ _ _ _ _ _ _ _ (K + 2) (by omega), Option.bind_some, rbPut_of _ _ _ _ _ _ _ _ _ _ _ _ _ _ _ _ _ _ _ _ _ _ _ (K + 2) (by omega), Option.bind_some, bok_hok hb, Bool.true_and, hw2, if_pos rfl, decide_eq_true hw, if_pos rfl, str_size, str_size, hdr_length, if_pos (by omega), str_app, str_size, str_size, List.length_append, hdr_length, if_pos (by omega), str_app, List.append_assoc]
        rfl
      · rw [if_pos (show fn m0 m1 m2 m3 m4 m5 m6 m7 m8 m9 m10 m11 m12 m13 m14 m15 m16 m17 m18 m19 m20 m21 m22 l > 400 by omega), decide_eq_false hw, if_neg Bool.false_ne_true]
def zz : List Int := [0, 18, 0, 44, 0, 0, 0, 0, 0, 0, 0, 0, 0, 0, 0, 0, 0, 0, 0, 0, 0, 0, 0, 0, 0, 0, 0, 0, 0, 0, 0, 0, 0, 0, 0, 0, 0, 0, 0, 0, 0, 0, 0, 0]
theorem frame_zz : frame 0 0 0 0 0 0 0 0 0 0 0 0 0 0 0 0 0 0 0 0 0 0 0 [] = zz := by decide +kernel
theorem zz_by : By zz := frame_zz ▸ frame_by 0 0 0 0 0 0 0 0 0 0 0 0 0 0 0 0 0 0 0 0 0 0 0 []
theorem hzz (n : Nat) : header_Get.f (n + 62) zz = some (0, 0, 0, 0, 0, 0, 0, 0, 0, 0, 0, 0, 0, 0, 0, 0, 0, 0, 0, 0, 0, 0, 0, 44, 0) := by kernel_rfl
theorem bzz (n : Nat) : body_Get.f (n + 62) 0 0 0 0 0 0 0 0 0 0 0 0 0 0 0 0 0 0 0 0 0 0 0 zz 34 = some (0, 0, 0, 0, 0, 0, 0, 0, 0, 0, 0, 0, 0, 0, 0, 0, 0, 0, 0, 0, 0, 0, 0, 44, 0) := by kernel_rfl
theorem tzz (n : Nat) : tlv_Get.f (n + 62) zz 44 = some ([], 0) := by kernel_rfl
theorem gzz (n : Nat) : frame_Get.f (n + 62) (strOfNums zz) = some (0, 0, 0, 0, 0, 0, 0, 0, 0, 0, 0, 0, 0, 0, 0, 0, 0, 0, 0, 0, 0, 0, 0, [], 0) := by
  unfold frame_Get.f
  rw [if_pos (by rw [str_size]; decide), bytes_str zz_by, hzz, Option.bind_some]
  dsimp only
  rw [if_pos rfl, bzz, Option.bind_some]
  dsimp only
  rw [if_pos rfl, tzz, Option.bind_some]
  dsimp only
  rw [if_pos rfl]
theorem awake_of (n : Nat) : carillonlaw09_awake.f (n + 62) = some true := by
  unfold carillonlaw09_awake.f
  have hf : fok 0 0 0 0 0 0 0 0 0 0 0 0 0 0 0 0 0 0 0 0 0 0 0 [] = true := by decide +kernel
  rw [fPut_of 0 0 0 0 0 0 0 0 0 0 0 0 0 0 0 0 0 0 0 0 0 0 0 [] (n + 60) (by omega), hf, if_pos rfl, Option.bind_some]
  dsimp only
  rw [frame_zz, gzz, Option.bind_some, if_pos rfl, str_size, if_pos (by decide)]
  rfl
end Go.Proofs.Ytiomlbkakiienaa.Frp
