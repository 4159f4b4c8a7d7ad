/- What the given program's functions on ports' identities answer, in plain words. -/
import Derived.Test.YtinlfcfcpolodaaZzPx0
import Derived.Test.YtinlfcfcpolodaaZzPx1
import Derived.Test.YtinlfcfcpolodaaZzOct
namespace Go.Proofs.Ytinlfcfcpolodaa.Idt
open Go.RowKit Go.Proofs.Ytinlfcfcpolodaa.P Go.Proofs.Ytinlfcfcpolodaa.Lib Go.Proofs.Ytinlfcfcpolodaa.Oct Go.Proofs.YtinlfcfcpolodaaW.PrintWords Go.Proofs.YtinlfcfcpolodaaW.PrintLast Go.Proofs.YtinlfcfcpolodaaW.PrintMore
def macBytes (l : List Int) : List Int := l.take 3 ++ [255, 254] ++ l.drop 3
theorem macBytes_length (l : List Int) (h : l.length = 6) : (macBytes l).length = 8 := by simp [macBytes, h]
theorem macBytes_by {l : List Int} (h : By l) : By (macBytes l) := by
  refine ((h.take 3).app ?_).app (h.drop 3)
  intro x hx
  simp only [List.mem_cons, List.not_mem_nil, or_false] at hx
  rcases hx with rfl | rfl <;> omega
theorem cut_all (l : List Int) (n : Int) (h : n = l.length) : cut l 0 n = l := by
  unfold cut
  rw [List.take_of_length_le (by omega)]
  rfl
theorem mac_of (l : List Int) (hb : By l) (K : Nat) (hK : 9 < K) : ident_FromMac.f K l = some (if l.length = 6 then (dec (macBytes l), true) else (0, false)) := by
  unfold ident_FromMac.f
  by_cases h : l.length = 6
  · have hL := macBytes_length l h
    have g := getId_of (macBytes l) (macBytes_by hb) (by omega) 0 (by omega) K (by omega)
    rw [if_pos ⟨by omega, by omega, by omega⟩, cut_all _ _ (by omega)] at g
    rw [if_pos (by omega), if_pos (by omega), if_pos (by simp; omega), if_pos h]
    simp only [Option.bind_some, List.nil_append]
    rw [if_pos (by simp; omega), if_pos (by simp; omega)]
    unfold macBytes at g
    rw [g]
    rfl
  · rw [if_neg (by omega), if_neg h]
end Go.Proofs.Ytinlfcfcpolodaa.Idt
