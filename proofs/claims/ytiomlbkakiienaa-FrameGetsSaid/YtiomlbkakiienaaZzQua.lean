/- What the given program's functions on qualities answer, in plain words. -/
import Derived.Test.YtiomlbkakiienaaZzPx0
import Derived.Test.YtiomlbkakiienaaZzPx2
import Derived.Test.YtiomlbkakiienaaZzPx3
import Derived.Test.YtiomlbkakiienaaZzPx5
import Derived.Test.YtiomlbkakiienaaZzPx9
import Derived.Test.YtiomlbkakiienaaZzOct
import Derived.Test.YtiomlbkakiienaaZzRef
namespace Go.Proofs.Ytiomlbkakiienaa.Qua
open Go.RowKit Go.Proofs.Ytiomlbkakiienaa.P Go.Proofs.Ytiomlbkakiienaa.Lib Go.Proofs.Ytiomlbkakiienaa.Oct Go.Proofs.Ytiomlbkakiienaa.Ref Go.Proofs.YtiomlbkakiienaaW.PrintWords Go.Proofs.YtiomlbkakiienaaW.PrintLast Go.Proofs.YtiomlbkakiienaaW.PrintMore
def quAt (l : List Int) (a : Int) : Int × Int × Int × Bool := if has l a 4 then (dec (cut l a 1), dec (cut l (a + 1) 1), dec (cut l (a + 2) 2), true) else (0, 0, 0, false)
theorem quGet_of (l : List Int) (hb : By l) (hl : l.length ≤ 4611686018427387904) (a : Int) (ha : -9223372036854775808 ≤ a ∧ a ≤ 9223372036854775807) (K : Nat) (hK : 8 < K) :
    quality_Get.f (K + 1) l a = some (quAt l a) := by
  unfold quality_Get.f quAt
  by_cases h1 : a < 0
  · rw [if_pos h1, quality_Get.j0, if_pos rfl, if_neg (by unfold has; omega)]
  · rw [if_neg h1]
    by_cases h2 : a > (l.length : Int)
    · rw [if_pos h2, quality_Get.j0, if_pos rfl, if_neg (by unfold has; omega)]
    · rw [if_neg h2]
      have hw : wrap64 ((l.length : Int) - a) = (l.length : Int) - a := w64 _ (by omega) (by omega)
      rw [hw, quality_Get.j0]
      clear hw
      by_cases h3 : (l.length : Int) - a < 4
      · rw [if_pos (decide_eq_true h3), if_neg (by unfold has; omega)]
      · have hh : has l a 4 := ⟨by omega, by omega, by omega⟩
        have w1 : wrap64 (a + 1) = a + 1 := w64 _ (by omega) (by omega)
        have w2 : wrap64 (a + 2) = a + 2 := w64 _ (by omega) (by omega)
        rw [if_neg (by simpa using h3), w1, w2, get_yes l hb hl a 1 ⟨by omega, by omega, by omega⟩ (by omega) (by omega) K hK, get_yes l hb hl (a + 1) 1 ⟨by omega, by omega, by omega⟩ (by omega) (by omega) K hK, get_yes l hb hl (a + 2) 2 ⟨by omega, by omega, by omega⟩ (by omega) (by omega) K hK, if_pos hh]
        rfl
theorem rquGet_of (l : List Int) (hb : By l) (hl : l.length ≤ 4611686018427387904) (a : Int) (K : Nat) (hK : 8 < K) :
    carillonref05_Get.f (K + 1) l a = some (quAt l a) := by
  unfold carillonref05_Get.f quAt
  have g := rget_of l hb hl a 4 (by omega) K hK
  by_cases h : has l a 4
  · have h' := h
    unfold has at h'
    rw [if_pos ⟨by omega, by omega, h⟩] at g
    have r1 := dec_range (cut_by hb a 1)
    have r2 := dec_range (cut_by hb (a + 1) 1)
    have r3 := dec_range (cut_by hb (a + 2) 2)
    have l1 : (cut l a 1).length = 1 := cut_length (l := l) (a := a) (n := 1) ⟨by omega, by omega, by omega⟩
    have l2 : (cut l (a + 1) 1).length = 1 := cut_length (l := l) (a := a + 1) (n := 1) ⟨by omega, by omega, by omega⟩
    have l3 : (cut l (a + 2) 2).length = 2 := cut_length (l := l) (a := a + 2) (n := 2) ⟨by omega, by omega, by omega⟩
    have e1 := cut_split l a 1 3 (by omega) (by omega) (by omega)
    have e2 := cut_split l (a + 1) 1 2 (by omega) (by omega) (by omega)
    rw [show (1 : Int) + 3 = 4 from rfl] at e1
    rw [show (1 : Int) + 2 = 3 from rfl, show a + 1 + 1 = a + 2 by omega] at e2
    have p1 : (256 : Int) ^ 1 = 256 := by decide +kernel
    have p2 : (256 : Int) ^ 2 = 65536 := by decide +kernel
    have p3 : (256 : Int) ^ 3 = 16777216 := by decide +kernel
    rw [l1, p1] at r1
    rw [l2, p1] at r2
    rw [l3, p2] at r3
    rw [e1, e2, dec_append, dec_append, List.length_append, l2, l3, show 1 + 2 = 3 from rfl, p3, p2] at g
    rw [g, if_pos h]
    simp only [Option.bind_some]
    rw [if_pos trivial]
    clear g e1 e2 l1 l2 l3 p1 p2 p3
    generalize dec (cut l a 1) = x at *
    generalize dec (cut l (a + 1) 1) = y at *
    generalize dec (cut l (a + 2) 2) = z at *
    have t1 : Int.tdiv (x * 16777216 + (y * 65536 + z)) 16777216 = x := by rw [td _ _ (by omega), if_pos (.inl (by omega))]; omega
    have t2 : Int.tdiv (x * 16777216 + (y * 65536 + z)) 65536 = x * 256 + y := by rw [td _ _ (by omega), if_pos (.inl (by omega))]; omega
    have t3 : Int.tmod (x * 256 + y) 256 = y := by rw [tm _ _ (by omega), if_pos (.inl (by omega))]; omega
    have t4 : Int.tmod (x * 16777216 + (y * 65536 + z)) 65536 = z := by rw [tm _ _ (by omega), if_pos (.inl (by omega))]; omega
    have w1 : wrap64 x = x := w64 _ (by omega) (by omega)
    have w2 : wrap64 (x * 256 + y) = x * 256 + y := w64 _ (by omega) (by omega)
    rw [t1, t2, t4, w1, w2, t3]
  · rw [if_neg (fun h' => h h'.2.2)] at g
    rw [g, if_neg h]
    simp
end Go.Proofs.Ytiomlbkakiienaa.Qua
