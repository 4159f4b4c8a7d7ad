/- What the bytes' functions of the given program answer, in plain words: numbers put and read, the highest byte first. -/
import Derived.Test.YtiomlbkakiienaaZzPx0
import Derived.Test.YtiomlbkakiienaaZzPx2
import Derived.Test.YtiomlbkakiienaaZzPx4
import Derived.Test.YtiomlbkakiienaaZzLib
import Derived.Laws.BitsAllLaws
namespace Go.Proofs.Ytiomlbkakiienaa.Oct
open Go.RowKit Go.Proofs.Ytiomlbkakiienaa.P Go.Proofs.Ytiomlbkakiienaa.Lib Go.Proofs.YtiomlbkakiienaaW.PrintWords Go.Proofs.YtiomlbkakiienaaW.PrintLast Go.Proofs.YtiomlbkakiienaaW.PrintMore
theorem bytes_enc (v : Int) (n : Nat) : octets_Put.bytes v n = enc v n := by
  induction n with
  | zero => rfl
  | succ n ih => simp only [octets_Put.bytes, enc, ih]
theorem put_of (l : List Int) (v n : Int) (h1 : 1 ≤ n) (h8 : n ≤ 8) (hl : l.length ≤ 140737488355320) : octets_Put.f l v n = some (l ++ enc v n.toNat) := by
  unfold octets_Put.f
  rw [if_pos ⟨h1, hl⟩, bytes_enc]
  have : mn n 8 = n := by unfold mn; split <;> omega
  rw [this]
theorem put1 (l : List Int) (v : Int) (hl : l.length ≤ 140737488355320) : octets_Put.f l v 1 = some (l ++ enc v 1) := put_of l v 1 (by omega) (by omega) hl
theorem put2 (l : List Int) (v : Int) (hl : l.length ≤ 140737488355320) : octets_Put.f l v 2 = some (l ++ enc v 2) := put_of l v 2 (by omega) (by omega) hl
theorem put4 (l : List Int) (v : Int) (hl : l.length ≤ 140737488355320) : octets_Put.f l v 4 = some (l ++ enc v 4) := put_of l v 4 (by omega) (by omega) hl
theorem put6 (l : List Int) (v : Int) (hl : l.length ≤ 140737488355320) : octets_Put.f l v 6 = some (l ++ enc v 6) := put_of l v 6 (by omega) (by omega) hl
theorem put8 (l : List Int) (v : Int) (hl : l.length ≤ 140737488355320) : octets_Put.f l v 8 = some (l ++ enc v 8) := put_of l v 8 (by omega) (by omega) hl
def has (l : List Int) (a n : Int) : Prop := 0 ≤ n ∧ 0 ≤ a ∧ a + n ≤ l.length
instance (l : List Int) (a n : Int) : Decidable (has l a n) := by unfold has; infer_instance
def cut (l : List Int) (a n : Int) : List Int := (l.take (a + n).toNat).drop a.toNat
theorem cut_app (p q r : List Int) (a n : Int) (ha : a = p.length) (hn : n = q.length) : cut (p ++ q ++ r) a n = q := by
  unfold cut
  have h1 : (a + n).toNat = (p ++ q).length := by rw [List.length_append]; omega
  have h2 : a.toNat = p.length := by omega
  rw [h1, h2, List.take_left, List.drop_left]
theorem wrapu_of (x : Int) (h : 0 ≤ x) (h2 : x < 18446744073709551616) : IntKind.u64.wrap x = x := by
  simp [IntKind.wrap, IntKind.signed, IntKind.bits]
  omega
theorem wrapu (x : Int) : IntKind.u64.wrap x = x % 18446744073709551616 := by
  simp [IntKind.wrap, IntKind.signed, IntKind.bits]
theorem w64 (x : Int) (h : -9223372036854775808 ≤ x) (h2 : x ≤ 9223372036854775807) : wrap64 x = x := by unfold wrap64; omega
def sgn (n : Nat) (v : Int) : Int := if 2 * v < 256 ^ n then v else v - 256 ^ n
theorem putId_of (l : List Int) (v : Int) (hl : l.length ≤ 140737488355320) : octets_PutId.f l v = some (l ++ enc v 8) := by
  unfold octets_PutId.f
  rw [put_of l _ 8 (by omega) (by omega) hl]
  simp only [Option.bind_some]
  congr 2
  apply enc_congr
  rw [show (8 : Int).toNat = 8 from rfl, pow8]
  unfold wrap64
  omega
end Go.Proofs.Ytiomlbkakiienaa.Oct
