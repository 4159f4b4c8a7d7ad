/- Paths, management, faults, made of anything and read of any TLV: as the document has it: for every row of identities, every number, every string and every TLV. -/
import Derived.Test.YtgmiokocipmbaaaZzPx15
import Derived.Test.YtgmiokocipmbaaaZzTlv
namespace Go.Proofs.Ytgmiokocipmbaaa.Pure
open Go.RowKit Go.Proofs.Ytgmiokocipmbaaa.P Go.Proofs.Ytgmiokocipmbaaa.Lib Go.Proofs.Ytgmiokocipmbaaa.Oct Go.Proofs.Ytgmiokocipmbaaa.Ref Go.Proofs.Ytgmiokocipmbaaa.Tlv Go.Proofs.YtgmiokocipmbaaaW.PrintWords Go.Proofs.YtgmiokocipmbaaaW.PrintLast Go.Proofs.YtgmiokocipmbaaaW.PrintMore
theorem TlvKinds : carillonlaw08_TlvKinds.Pure := by
  intro l a d e t s hlm hl hlw haw hd hew htw hsz
  refine ⟨60, ?_⟩
  unfold carillonlaw08_TlvKinds.f
  have haw2 := awake_of 60 (by omega)
  by_cases h1 : (l.length : Int) > 40
  · rw [if_pos h1, haw2]; rfl
  rw [if_neg h1]
  by_cases h2 : (d.size : Int) > 900
  · rw [if_pos h2, haw2]; rfl
  rw [if_neg h2]
  by_cases h3 : (s.size : Int) > 900
  · rw [if_pos h3, haw2]; rfl
  rw [if_neg h3]
  have hi : carillonlaw00_Ids.f l = some l := by
    unfold carillonlaw00_Ids.f
    rw [if_pos (by simp; omega), List.nil_append]
  rw [hi, Option.bind_some, tpath_of l 60 (by omega), Option.bind_some, rtpath_of l 60 (by omega), Option.bind_some, tman_of, Option.bind_some, rtman_of _ _ 60 (by omega), Option.bind_some, tflt_of _ _ 60 (by omega), Option.bind_some, rtflt_of _ _ 60 (by omega), Option.bind_some]
  rw [if_pos (by simp), if_pos (by simp), if_pos (by simp), if_pos (by simp), if_pos (by simp), if_pos (by simp)]
  rw [tpo_of t s 60 (by omega), Option.bind_some, rtpo_of t s 60 (by omega), Option.bind_some, tmo_of t s (by omega) 60 (by omega), Option.bind_some, rtmo_of t s (by omega) 60 (by omega), Option.bind_some, tfo_of t s (by omega) 60 (by omega), Option.bind_some, rtfo_of t s (by omega) 60 (by omega), Option.bind_some]
  have hp := pathOf_len 60 t s
  rw [sameIds_self _ (by omega) 60 (by omega), Option.bind_some, if_pos rfl, if_pos (by simp), if_pos rfl, if_pos (by simp), if_pos (by simp), if_pos rfl, if_pos rfl, if_pos (by simp), haw2]
  rfl
end Go.Proofs.Ytgmiokocipmbaaa.Pure
