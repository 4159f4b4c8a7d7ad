/- What the given program's functions on ports' identities answer, in plain words. -/
import Derived.Test.YtiomlbkakiienaaZzPx0
import Derived.Test.YtiomlbkakiienaaZzPx2
import Derived.Test.YtiomlbkakiienaaZzPx4
import Derived.Test.YtiomlbkakiienaaZzOct
import Derived.Test.YtiomlbkakiienaaZzRef
namespace Go.Proofs.Ytiomlbkakiienaa.Idt
open Go.RowKit Go.Proofs.Ytiomlbkakiienaa.P Go.Proofs.Ytiomlbkakiienaa.Lib Go.Proofs.Ytiomlbkakiienaa.Oct Go.Proofs.Ytiomlbkakiienaa.Ref Go.Proofs.YtiomlbkakiienaaW.PrintWords Go.Proofs.YtiomlbkakiienaaW.PrintLast Go.Proofs.YtiomlbkakiienaaW.PrintMore
theorem idGet_of (l : List Int) (hb : By l) (hl : l.length ≤ 4611686018427387904) (a : Int) (ha : -9223372036854775808 ≤ a ∧ a ≤ 9223372036854775807) (K : Nat) (hK : 8 < K) :
    ident_Get.f (K + 1) l a = some (if has l a 10 then (dec (cut l a 8), dec (cut l (a + 8) 2), true) else (0, 0, false)) := by
  unfold ident_Get.f
  by_cases h1 : a < 0
  · rw [if_pos h1, ident_Get.j0, if_pos rfl, if_neg (by unfold has; omega)]
  · rw [if_neg h1]
    by_cases h2 : a > (l.length : Int)
    · rw [if_pos h2, ident_Get.j0, if_pos rfl, if_neg (by unfold has; omega)]
    · rw [if_neg h2]
      have hw : wrap64 ((l.length : Int) - a) = (l.length : Int) - a := w64 _ (by omega) (by omega)
      rw [hw, ident_Get.j0]
      clear hw
      by_cases h3 : (l.length : Int) - a < 10
      · rw [if_pos (decide_eq_true h3), if_neg (by unfold has; omega)]
      · have hh : has l a 10 := ⟨by omega, by omega, by omega⟩
        have h8 : has l a 8 := ⟨by omega, by omega, by omega⟩
        have h82 : has l (a + 8) 2 := ⟨by omega, by omega, by omega⟩
        have g1 := getId_of l hb hl a ha K hK
        have g2 := get_yes l hb hl (a + 8) 2 h82 (by omega) (by omega) K hK
        have hw : wrap64 (a + 8) = a + 8 := w64 _ (by omega) (by omega)
        rw [if_neg (by simpa using h3), if_pos hh, hw, g1, g2, if_pos h8]
        rfl
end Go.Proofs.Ytiomlbkakiienaa.Idt
