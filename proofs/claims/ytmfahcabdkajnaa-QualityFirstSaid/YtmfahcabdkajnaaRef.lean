/- What the document's own functions on bytes answer, in plain words. -/
import Derived.Test.YtmfahcabdkajnaaPx0
import Derived.Test.YtmfahcabdkajnaaOct
namespace Go.Proofs.Ytmfahcabdkajnaa.Ref
open Go.RowKit Go.Proofs.Ytmfahcabdkajnaa.P Go.Proofs.Ytmfahcabdkajnaa.Lib Go.Proofs.Ytmfahcabdkajnaa.Oct Go.Proofs.YtmfahcabdkajnaaW.PrintWords Go.Proofs.YtmfahcabdkajnaaW.PrintLast Go.Proofs.YtmfahcabdkajnaaW.PrintMore
theorem cut_get {l : List Int} {a n : Int} (h : has l a n) (i : Nat) (hi : (i : Int) < n) : ∃ hq : (a + i).toNat < l.length, (cut l a n)[i]'(by rw [cut_length h]; unfold has at h; omega) = l[(a + i).toNat] := by
  have h' := h
  unfold has at h'
  refine ⟨by omega, ?_⟩
  unfold cut
  rw [List.getElem_drop, List.getElem_take]
  congr 1
  omega
theorem rd_cut {l : List Int} {a n : Int} (h : has l a n) (i : Nat) (hi : (i : Int) < n) : rd l (a + i) = (cut l a n)[i]'(by rw [cut_length h]; unfold has at h; omega) := by
  obtain ⟨hq, e⟩ := cut_get h i hi
  rw [e]
  simp [rd, hq]
theorem enc_get (u : Int) : ∀ (n i : Nat), i < n → (enc u n)[i]? = some ((u / 256 ^ (n - (i + 1))) % 256)
  | 0, i, h => by omega
  | n + 1, 0, _ => by simp [enc]
  | n + 1, i + 1, h => by
    have ih := enc_get u n i (by omega)
    rw [show n + 1 - (i + 1 + 1) = n - (i + 1) by omega, ← ih]
    simp [enc]
end Go.Proofs.Ytmfahcabdkajnaa.Ref
