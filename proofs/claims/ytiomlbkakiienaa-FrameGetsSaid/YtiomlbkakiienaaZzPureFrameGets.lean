/- Any bytes are read as the document says, in any domain: for every string and every domain. -/
import Derived.Test.YtiomlbkakiienaaZzPx12
import Derived.Test.YtiomlbkakiienaaZzFrg
set_option linter.unusedVariables false
namespace Go.Proofs.Ytiomlbkakiienaa.Pure
open Go.RowKit Go.Proofs.Ytiomlbkakiienaa.P Go.Proofs.Ytiomlbkakiienaa.Lib Go.Proofs.Ytiomlbkakiienaa.Oct Go.Proofs.Ytiomlbkakiienaa.Hdr Go.Proofs.Ytiomlbkakiienaa.Bod Go.Proofs.Ytiomlbkakiienaa.Ref Go.Proofs.Ytiomlbkakiienaa.Frm Go.Proofs.YtiomlbkakiienaaW.PrintWords Go.Proofs.YtiomlbkakiienaaW.PrintLast Go.Proofs.YtiomlbkakiienaaW.PrintMore
open Tlv (gets gets_len rtget_of rget_yes wq bytes_by bytes_str same_self)
open Frg (rfGet_of fget_len awake_of)
theorem FrameGets : carillonlaw09_FrameGets.Pure := by
  intro s d hs hd
  refine ⟨0 + 62, ?_⟩
  have haw := awake_of 0
  unfold carillonlaw09_FrameGets.f
  by_cases h : (s.size : Int) > 1000
  · rw [if_pos h, haw]
    rfl
  have hg := fGet_of s (by omega) (0 + 60) (by omega)
  have hr := rfGet_of s (by omega) (0 + 60) (by omega)
  have hn := fget_len (0 + 60 + 2) (bytesOf s)
  rw [show 0 + 60 + 2 = 0 + 62 from rfl] at hg hr hn
  obtain ⟨H, e1, e2, e3⟩ : ∃ H, frame_Here.f (0 + 62) s d = some H ∧ carillonref09_Here.f (0 + 62) s d = some H ∧ H.2.2.2.2.2.2.2.2.2.2.2.2.2.2.2.2.2.2.2.2.2.2.2.1.length ≤ 8 := by
    unfold frame_Here.f carillonref09_Here.f
    rw [hg, hr, Option.bind_some]
    by_cases c1 : (fget (0 + 62) (bytesOf s)).2.2.2.2.2.2.2.2.2.2.2.2.2.2.2.2.2.2.2.2.2.2.2.2 = 0
    · by_cases c2 : (fget (0 + 62) (bytesOf s)).2.1 = d
      · exact ⟨_, by rw [if_pos c1, if_pos c2], by rw [if_pos c1, if_pos c2], hn⟩
      · exact ⟨_, by rw [if_pos c1, if_neg c2], by rw [if_pos c1, if_neg c2], by simp⟩
    · exact ⟨_, by rw [if_neg c1], by rw [if_neg c1], hn⟩
  rw [if_neg h, hg, Option.bind_some, hr, Option.bind_some, e1, Option.bind_some, e2, Option.bind_some, same_self _ (by omega) (0 + 62) (by omega), same_self _ (by omega) (0 + 62) (by omega), haw]
  simp only [Option.bind_some, beq_self_eq_true, Bool.and_self, if_true]
end Go.Proofs.Ytiomlbkakiienaa.Pure
