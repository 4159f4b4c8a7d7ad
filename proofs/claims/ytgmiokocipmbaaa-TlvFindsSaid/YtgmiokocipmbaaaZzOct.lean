/- What the bytes' functions of the given program answer, in plain words: numbers put and read, the highest byte first. -/
import Derived.Test.YtgmiokocipmbaaaZzPx0
import Derived.Test.YtgmiokocipmbaaaZzPx1
import Derived.Test.YtgmiokocipmbaaaZzLib
import Derived.Laws.BitsAllLaws
namespace Go.Proofs.Ytgmiokocipmbaaa.Oct
open Go.RowKit Go.Proofs.Ytgmiokocipmbaaa.P Go.Proofs.Ytgmiokocipmbaaa.Lib Go.Proofs.YtgmiokocipmbaaaW.PrintWords Go.Proofs.YtgmiokocipmbaaaW.PrintLast Go.Proofs.YtgmiokocipmbaaaW.PrintMore
theorem bytes_enc (v : Int) (n : Nat) : octets_Put.bytes v n = enc v n := by
  induction n with
  | zero => rfl
  | succ n ih => simp only [octets_Put.bytes, enc, ih]
theorem put_of (l : List Int) (v n : Int) (h1 : 1 ≤ n) (h8 : n ≤ 8) (hl : l.length ≤ 140737488355320) : octets_Put.f l v n = some (l ++ enc v n.toNat) := by
  unfold octets_Put.f
  rw [if_pos ⟨h1, hl⟩, bytes_enc]
  have : mn n 8 = n := by unfold mn; split <;> omega
  rw [this]
theorem put2 (l : List Int) (v : Int) (hl : l.length ≤ 140737488355320) : octets_Put.f l v 2 = some (l ++ enc v 2) := put_of l v 2 (by omega) (by omega) hl
def has (l : List Int) (a n : Int) : Prop := 0 ≤ n ∧ 0 ≤ a ∧ a + n ≤ l.length
instance (l : List Int) (a n : Int) : Decidable (has l a n) := by unfold has; infer_instance
theorem putId_of (l : List Int) (v : Int) (hl : l.length ≤ 140737488355320) : octets_PutId.f l v = some (l ++ enc v 8) := by
  unfold octets_PutId.f
  rw [put_of l _ 8 (by omega) (by omega) hl]
  simp only [Option.bind_some]
  congr 2
  apply enc_congr
  rw [show (8 : Int).toNat = 8 from rfl, pow8]
  unfold wrap64
  omega
end Go.Proofs.Ytgmiokocipmbaaa.Oct
