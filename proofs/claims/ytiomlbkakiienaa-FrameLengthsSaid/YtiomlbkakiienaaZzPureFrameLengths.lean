/- Just as many bytes as there may be, and two more: a closed statement. -/
import Derived.Test.YtiomlbkakiienaaZzPx12
import Derived.Test.YtiomlbkakiienaaZzFrm
set_option linter.unusedVariables false
namespace Go.Proofs.Ytiomlbkakiienaa.Pure
open Go.RowKit Go.Proofs.Ytiomlbkakiienaa.P Go.Proofs.Ytiomlbkakiienaa.Lib Go.Proofs.Ytiomlbkakiienaa.Oct Go.Proofs.Ytiomlbkakiienaa.Hdr Go.Proofs.Ytiomlbkakiienaa.Bod Go.Proofs.Ytiomlbkakiienaa.Frm Go.Proofs.YtiomlbkakiienaaW.PrintWords Go.Proofs.YtiomlbkakiienaaW.PrintLast Go.Proofs.YtiomlbkakiienaaW.PrintMore
open Tlv (okl oks encs okT encs_length encs_by gets gets_back tput_of tget_of tget_in wq bytes_by bytes_str str_bytes few_len rd_at dd same_of same_self few)
def big (n : Nat) : List S43 := [⟨9, strOfNums (List.replicate n 0)⟩]
theorem ok352 : fok 12 0 0 0 0 0 0 0 0 0 0 0 0 0 0 0 0 0 0 0 0 0 0 (big 352) = true := by decide +kernel
theorem ok354 : fok 12 0 0 0 0 0 0 0 0 0 0 0 0 0 0 0 0 0 0 0 0 0 0 (big 354) = false := by decide +kernel
theorem len352 : fn 12 0 0 0 0 0 0 0 0 0 0 0 0 0 0 0 0 0 0 0 0 0 0 (big 352) = 400 := by decide +kernel
theorem FrameLengths : carillonlaw09_FrameLengths.Pure := by
  obtain ⟨K, hK⟩ : ∃ K : Nat, 60 ≤ K := ⟨60, Nat.le_refl _⟩
  refine ⟨K + 2, ?_⟩
  have haw2 := awake_of K hK
  unfold carillonlaw09_FrameLengths.f
  have hw : wrap64 (352 + 2) = 354 := by decide +kernel
  have hb : [(⟨9, strOfNums (List.replicate (352 : Int).toNat (0 : Int))⟩ : S43)] = big 352 := rfl
  have hc : [(⟨9, strOfNums (List.replicate (354 : Int).toNat (0 : Int))⟩ : S43)] = big 354 := rfl
  have hl := frame_length 12 0 0 0 0 0 0 0 0 0 0 0 0 0 0 0 0 0 0 0 0 0 0 (big 352)
  rw [len352] at hl
  rw [hw, hb, hc, fPut_of _ _ _ _ _ _ _ _ _ _ _ _ _ _ _ _ _ _ _ _ _ _ _ (big 352) K hK, ok352, if_pos rfl, Option.bind_some, if_pos (by decide), if_pos (by decide), fPut_of _ _ _ _ _ _ _ _ _ _ _ _ _ _ _ _ _ _ _ _ _ _ _ (big 354) K hK, ok354, if_neg Bool.false_ne_true, Option.bind_some]
  dsimp only
  rw [fGet_of _ (by rw [str_size]; omega) K hK, bytes_str (frame_by _ _ _ _ _ _ _ _ _ _ _ _ _ _ _ _ _ _ _ _ _ _ _ _), fget_frame _ _ _ _ _ _ _ _ _ _ _ _ _ _ _ _ _ _ _ _ _ _ _ (big 352) (K + 2) (by omega) ok352 (by omega) (by omega) (by omega) (by omega), Option.bind_some, if_pos rfl, if_neg Bool.false_ne_true, str_size, if_pos hl, if_pos rfl, if_pos (by decide), if_pos (by rfl), if_pos (by decide), if_pos (by decide +kernel), haw2]
  rfl
end Go.Proofs.Ytiomlbkakiienaa.Pure
