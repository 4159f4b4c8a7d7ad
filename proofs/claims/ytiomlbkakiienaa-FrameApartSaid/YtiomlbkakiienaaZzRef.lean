/- What the document's own functions on bytes answer, in plain words. -/
import Derived.Test.YtiomlbkakiienaaZzPx0
import Derived.Test.YtiomlbkakiienaaZzOct
namespace Go.Proofs.Ytiomlbkakiienaa.Ref
open Go.RowKit Go.Proofs.Ytiomlbkakiienaa.P Go.Proofs.Ytiomlbkakiienaa.Lib Go.Proofs.Ytiomlbkakiienaa.Oct Go.Proofs.YtiomlbkakiienaaW.PrintWords Go.Proofs.YtiomlbkakiienaaW.PrintLast Go.Proofs.YtiomlbkakiienaaW.PrintMore
theorem cut_get {l : List Int} {a n : Int} (h : has l a n) (i : Nat) (hi : (i : Int) < n) : ∃ hq : (a + i).toNat < l.length, (cut l a n)[i]'(by rw [cut_length h]; unfold has at h; omega) = l[(a + i).toNat] := by
  have h' := h
  unfold has at h'
  refine ⟨by omega, ?_⟩
  unfold cut
  rw [List.getElem_drop, List.getElem_take]
  congr 1
  omega
theorem rd_cut {l : List Int} {a n : Int} (h : has l a n) (i : Nat) (hi : (i : Int) < n) : rd l (a + i) = (cut l a n)[i]'(by rw [cut_length h]; unfold has at h; omega) := by
  obtain ⟨hq, e⟩ := cut_get h i hi
  rw [e]
  simp [rd, hq]
end Go.Proofs.Ytiomlbkakiienaa.Ref
