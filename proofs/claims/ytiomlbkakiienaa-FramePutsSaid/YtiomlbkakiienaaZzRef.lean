/- What the document's own functions on bytes answer, in plain words. -/
import Derived.Test.YtiomlbkakiienaaZzPx0
import Derived.Test.YtiomlbkakiienaaZzPx6
import Derived.Test.YtiomlbkakiienaaZzPx9
import Derived.Test.YtiomlbkakiienaaZzOct
namespace Go.Proofs.Ytiomlbkakiienaa.Ref
open Go.RowKit Go.Proofs.Ytiomlbkakiienaa.P Go.Proofs.Ytiomlbkakiienaa.Lib Go.Proofs.Ytiomlbkakiienaa.Oct Go.Proofs.YtiomlbkakiienaaW.PrintWords Go.Proofs.YtiomlbkakiienaaW.PrintLast Go.Proofs.YtiomlbkakiienaaW.PrintMore
theorem enc_get (u : Int) : ∀ (n i : Nat), i < n → (enc u n)[i]? = some ((u / 256 ^ (n - (i + 1))) % 256)
  | 0, i, h => by omega
  | n + 1, 0, _ => by simp [enc]
  | n + 1, i + 1, h => by
    have ih := enc_get u n i (by omega)
    rw [show n + 1 - (i + 1 + 1) = n - (i + 1) by omega, ← ih]
    simp [enc]
theorem rput_from (U : Int) (h0 : 0 ≤ U) (h1 : U ≤ 18446744073709551615) (n : Nat) (hn : n ≤ 8) (d : Nat) : ∀ (k : Nat) (l : List Int), d ≤ n → l.length = n → l.drop d = (enc U n).drop d → d < k →
    carillonref01_Put.l0 k l (U / 256 ^ (n - d)) ((d : Int) - 1) = some (enc U n) := by
  induction d with
  | zero =>
    intro k l _ hl hd hk
    obtain ⟨k, rfl⟩ : ∃ m, k = m + 1 := ⟨k - 1, by omega⟩
    rw [List.drop_zero, List.drop_zero] at hd
    rw [carillonref01_Put.l0, if_neg (by omega), hd]
  | succ d ih =>
    intro k l hdn hl hd hk
    obtain ⟨k, rfl⟩ : ∃ m, k = m + 1 := ⟨k - 1, by omega⟩
    have hp := pow_pos (n - (d + 1))
    have hv0 : 0 ≤ U / 256 ^ (n - (d + 1)) := Int.ediv_nonneg h0 (by omega)
    have hvU : U / 256 ^ (n - (d + 1)) ≤ U := Int.ediv_le_self _ h0
    have hnext : U / 256 ^ (n - (d + 1)) / 256 = U / 256 ^ (n - d) := by
      rw [Int.ediv_ediv_of_nonneg (by omega), ← Int.pow_succ, show (n - (d + 1)).succ = n - d by omega]
    have hget := enc_get U n d (by omega)
    have hih := ih k (l.set d ((U / 256 ^ (n - (d + 1))) % 256)) (by omega) (by simpa using hl)
    rw [← hnext] at hih
    clear ih hnext hp
    generalize U / 256 ^ (n - (d + 1)) = v at *
    have q : ((d + 1 : Nat) : Int) - 1 = (d : Int) := by omega
    have w1 : wrap64 ((d : Int) - 1) = (d : Int) - 1 := w64 _ (by omega) (by omega)
    have w2 : IntKind.u64.wrap (v / 256) = v / 256 := wrapu_of _ (by omega) (by omega)
    have w3 : (Int.tmod v 256) % 256 = v % 256 := by rw [tm v 256 (by omega), if_pos (Or.inl hv0)]; omega
    have w4 : Int.tdiv v 256 = v / 256 := by rw [td v 256 (by omega), if_pos (Or.inl hv0)]
    rw [carillonref01_Put.l0, q, if_pos (by omega), if_pos (by omega), if_pos (by omega), w4, w3, w2, w1, Int.toNat_natCast]
    refine hih ?_ (by omega)
    have hlt : d < (l.set d (v % 256)).length := by rw [List.length_set]; omega
    have hle : d < (enc U n).length := by rw [enc_length]; omega
    rw [List.drop_eq_getElem_cons hlt, List.drop_eq_getElem_cons hle, List.drop_set_of_lt (by omega), hd, List.getElem_set_self]
    congr 1
    have := List.getElem?_eq_getElem hle
    rw [hget] at this
    exact (Option.some.inj this)
theorem dvd8 (n : Nat) (h : n ≤ 8) : (256 : Int) ^ n ∣ 18446744073709551616 := ⟨256 ^ (8 - n), by rw [← pow8, ← Int.pow_add, show n + (8 - n) = 8 by omega]⟩
theorem rput_of (v a1 : Int) (K : Nat) (hK : 8 < K) : carillonref01_Put.f K v a1 = some (enc v (mn (mx a1 0) 8).toNat) := by
  have hm : 0 ≤ mn (mx a1 0) 8 ∧ mn (mx a1 0) 8 ≤ 8 := by
    unfold mn mx
    constructor <;> (repeat' split) <;> omega
  unfold carillonref01_Put.f
  rw [if_pos hm.1, if_pos (by omega)]
  generalize mn (mx a1 0) 8 = m at *
  obtain ⟨n, rfl⟩ : ∃ n : Nat, m = n := ⟨m.toNat, by omega⟩
  have hu := wrapu v
  have hu0 : 0 ≤ IntKind.u64.wrap v := by rw [hu]; omega
  have hu1 : IntKind.u64.wrap v ≤ 18446744073709551615 := by rw [hu]; omega
  have h := rput_from (IntKind.u64.wrap v) hu0 hu1 n (by omega) n K (List.replicate n 0) (Nat.le_refl _) (by simp) (by rw [List.drop_of_length_le (by simp), List.drop_of_length_le (by simp [enc_length])]) (by omega)
  rw [Nat.sub_self, Int.pow_zero, Int.ediv_one] at h
  rw [Int.toNat_natCast, h]
  congr 1
  apply enc_congr
  rw [hu, Int.emod_emod_of_dvd _ (dvd8 n (by omega))]
theorem rput1 (v : Int) (K : Nat) (hK : 8 < K) : carillonref01_Put.f K v 1 = some (enc v 1) := rput_of v 1 K hK
theorem rput2 (v : Int) (K : Nat) (hK : 8 < K) : carillonref01_Put.f K v 2 = some (enc v 2) := rput_of v 2 K hK
theorem rput4 (v : Int) (K : Nat) (hK : 8 < K) : carillonref01_Put.f K v 4 = some (enc v 4) := rput_of v 4 K hK
theorem rput6 (v : Int) (K : Nat) (hK : 8 < K) : carillonref01_Put.f K v 6 = some (enc v 6) := rput_of v 6 K hK
theorem rput8 (v : Int) (K : Nat) (hK : 8 < K) : carillonref01_Put.f K v 8 = some (enc v 8) := rput_of v 8 K hK
theorem rputId_of (v : Int) (K : Nat) (hK : 8 < K) : carillonref01_PutId.f K v = some (enc v 8) := by
  unfold carillonref01_PutId.f
  rw [rput8 _ K hK]
  simp only [Option.bind_some]
  congr 1
  apply enc_congr
  rw [pow8]
  unfold wrap64
  omega
theorem rIdPut_of (c p : Int) (K : Nat) (hK : 8 < K) : carillonref04_Put.f K c p = some (enc c 8 ++ enc p 2) := by
  unfold carillonref04_Put.f
  rw [rputId_of c K hK, rput2 p K hK]
  simp only [Option.bind_some]
  rw [if_pos (by simp [enc_length])]
end Go.Proofs.Ytiomlbkakiienaa.Ref
