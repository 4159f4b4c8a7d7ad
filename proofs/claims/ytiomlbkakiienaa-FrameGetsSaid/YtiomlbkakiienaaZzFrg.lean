/- The document's own reading of a frame, and that the package is awake, for the statement on frames that are read. -/
import Derived.Test.YtiomlbkakiienaaZzPx0
import Derived.Test.YtiomlbkakiienaaZzPx3
import Derived.Test.YtiomlbkakiienaaZzPx7
import Derived.Test.YtiomlbkakiienaaZzPx9
import Derived.Test.YtiomlbkakiienaaZzPx10
import Derived.Test.YtiomlbkakiienaaZzPx11
import Derived.Test.YtiomlbkakiienaaZzLib
import Derived.Test.YtiomlbkakiienaaZzOct
import Derived.Test.YtiomlbkakiienaaZzRef
import Derived.Test.YtiomlbkakiienaaZzStm
import Derived.Test.YtiomlbkakiienaaZzIdt
import Derived.Test.YtiomlbkakiienaaZzQua
import Derived.Test.YtiomlbkakiienaaZzHdr
import Derived.Test.YtiomlbkakiienaaZzBod
import Derived.Test.YtiomlbkakiienaaZzTlv
import Derived.Test.YtiomlbkakiienaaZzFrm
set_option linter.unusedVariables false
namespace Go.Proofs.Ytiomlbkakiienaa.Frg
open Go.RowKit Go.Proofs.Ytiomlbkakiienaa.P Go.Proofs.Ytiomlbkakiienaa.Lib Go.Proofs.Ytiomlbkakiienaa.Oct Go.Proofs.Ytiomlbkakiienaa.Hdr Go.Proofs.Ytiomlbkakiienaa.Bod Go.Proofs.Ytiomlbkakiienaa.Ref Go.Proofs.Ytiomlbkakiienaa.Frm Go.Proofs.YtiomlbkakiienaaW.PrintWords Go.Proofs.YtiomlbkakiienaaW.PrintLast Go.Proofs.YtiomlbkakiienaaW.PrintMore
open Tlv (gets gets_len rtget_of rget_yes wq bytes_by bytes_str same_self)
section
variable (l : List Int) (hb : By l) (hl : l.length ≤ 4611686018427387904) (m0 m1 m2 m3 m4 m5 m6 m7 m8 m9 m10 m11 m12 m13 m14 m15 m16 m17 m18 m19 m20 m21 m22 : Int) (z0 z1 z2 z3 z4 z5 z6 z7 z8 z9 z10 z11 z12 z13 z14 z15 z16 z17 z18 z19 z20 z21 z22 : Int) (e : Int) (K : Nat) (hK : 9 < K)
include hb hl hK
theorem rgj2 (a : Int) (h11 : m0 = 11 → has l a 20) (h13 : m0 = 13 → has l a 4) : carillonref07_Get.j2 (K + 2) l a m0 m1 m2 m3 m4 m5 m6 m7 m8 m9 m10 m11 m12 m13 m14 m15 m16 m17 m18 m19 m20 m21 m22 z0 z1 z2 z3 z4 z5 z6 z7 z8 z9 z10 z11 z12 z13 z14 z15 z16 z17 z18 z19 z20 z21 z22 e =
    some (m0, m1, m2, m3, m4, m5, m6, m7, m8, m9, m10, pick11 m0 (sgn 2 (dec (cut l a 2))) m11, pick11 m0 (dec (cut l (a + 3) 1)) m12, pick11 m0 (dec (cut l (a + 4) 1)) m13, pick11 m0 (dec (cut l (a + 5) 1)) m14, pick11 m0 (dec (cut l (a + 6) 2)) m15, pick11 m0 (dec (cut l (a + 8) 1)) m16, pick11 m0 (dec (cut l (a + 9) 8)) m17, pick11 m0 (dec (cut l (a + 17) 2)) m18, pick11 m0 (dec (cut l (a + 19) 1)) m19, pick13 m0 (dec (cut l a 1)) m20, pick13 m0 (dec (cut l (a + 1) 1)) m21, pick13 m0 (dec (cut l (a + 2) 1) % 16) m22, e, 0) := by
  unfold carillonref07_Get.j2 carillonref07_Get.j3
  unfold pick11 pick13
  by_cases h1 : m0 = 11
  · have h := h11 h1
    have h0 := h
    unfold has at h0
    have w3 : wrap64 (a + 3) = a + 3 := w64 _ (by omega) (by omega)
    have w4 : wrap64 (a + 4) = a + 4 := w64 _ (by omega) (by omega)
    have w8_ : wrap64 (a + 8) = a + 8 := w64 _ (by omega) (by omega)
    have w9 : wrap64 (a + 9) = a + 9 := w64 _ (by omega) (by omega)
    have w17 : wrap64 (a + 17) = a + 17 := w64 _ (by omega) (by omega)
    have w19 : wrap64 (a + 19) = a + 19 := w64 _ (by omega) (by omega)
    have hh : ∀ i m : Int, 0 ≤ i → 0 ≤ m → i + m ≤ 20 → has l (a + i) m := fun i m q1 q2 q3 => ⟨q2, by omega, by omega⟩
    have hq : has l a 2 := by have := hh 0 2 (by omega) (by omega) (by omega); rwa [Int.add_zero] at this
    have rr : ∀ i : Int, 0 ≤ i → i ≤ 19 → wrap64 (rd l (a + i)) = dec (cut l (a + i) 1) := fun i q1 q2 => by
      have := rd_by hb (a + i) (by omega) (by omega)
      rw [rd_dec (hh i 1 q1 (by omega) (by omega)), w64 _ (by omega) (by omega)]
    rw [if_pos h1, rsigned_of l hb hl a 2 (by omega) (by omega) (K + 1) (by omega), if_pos hq, Option.bind_some, w3, if_pos (by omega), if_pos (by omega), w4, Qua.rquGet_of l hb hl (a + 4) (K + 1) (by omega), Option.bind_some, w8_, if_pos (by omega), if_pos (by omega), w9, rid_of l hb hl (a + 9) (K + 2) (by omega), if_pos (hh 9 8 (by omega) (by omega) (by omega)), Option.bind_some, w17, rget_yes l hb hl (a + 17) 2 (hh 17 2 (by omega) (by omega) (by omega)) (by omega) (by omega) (K + 1) (by omega), Option.bind_some, w19, if_pos (by omega), if_pos (by omega), rr 3 (by omega) (by omega), rr 8 (by omega) (by omega), rr 19 (by omega) (by omega)]
    unfold Qua.quAt
    rw [if_pos (hh 4 4 (by omega) (by omega) (by omega))]
    simp only [if_pos h1, show ¬ m0 = 13 by omega, if_false]
    rw [show a + 4 + 1 = a + 5 by omega, show a + 4 + 2 = a + 6 by omega]
    rfl
  · rw [if_neg h1]
    by_cases h2 : m0 = 13
    · have h := h13 h2
      have h0 := h
      unfold has at h0
      have w1 : wrap64 (a + 1) = a + 1 := w64 _ (by omega) (by omega)
      have w2 : wrap64 (a + 2) = a + 2 := w64 _ (by omega) (by omega)
      have hh : ∀ i : Int, 0 ≤ i → i ≤ 3 → has l (a + i) 1 := fun i q1 q2 => ⟨by omega, by omega, by omega⟩
      have hq : has l a 1 := ⟨by omega, by omega, by omega⟩
      have r0 := rd_by hb a (by omega) (by omega)
      have r1 := rd_by hb (a + 1) (by omega) (by omega)
      have r2 := rd_by hb (a + 2) (by omega) (by omega)
      have tm : Int.tmod (rd l (a + 2)) 16 = rd l (a + 2) % 16 := Int.tmod_eq_emod_of_nonneg r2.1
      rw [if_pos h2, if_pos (by omega), if_pos (by omega), w1, if_pos (by omega), if_pos (by omega), w2, if_pos (by omega), if_pos (by omega), tm, w64 (rd l a) (by omega) (by omega), w64 (rd l (a + 1)) (by omega) (by omega), w64 (rd l (a + 2) % 16) (by omega) (by omega)]
      rw [rd_dec hq, rd_dec (hh 1 (by omega) (by omega)), rd_dec (hh 2 (by omega) (by omega))]
      simp only [if_neg h1, if_pos h2]
    · rw [if_neg h2]
      simp only [if_neg h1, if_neg h2]
theorem rgj1 (a : Int) (ha : 0 ≤ a) (hT : tgt m0 = true → has l a 10) (h11 : m0 = 11 → has l (aft m0 a) 20) (h13 : m0 = 13 → has l (aft m0 a) 4) (h64 : a ≤ 9223372036854775000) : carillonref07_Get.j1 (K + 2) l a m0 m1 m2 m3 m4 m5 m6 m7 m8 m9 m10 m11 m12 m13 m14 m15 m16 m17 m18 m19 m20 m21 m22 z0 z1 z2 z3 z4 z5 z6 z7 z8 z9 z10 z11 z12 z13 z14 z15 z16 z17 z18 z19 z20 z21 z22 e = some (brest l a e m0 m1 m2 m3 m4 m5 m6 m7 m8 m9 m10 m11 m12 m13 m14 m15 m16 m17 m18 m19 m20 m21 m22) := by
  unfold carillonref07_Get.j1 brest pickT
  rw [rtargeted_of, Option.bind_some]
  cases h1 : tgt m0 with
  | true =>
    have e : aft m0 a = a + 10 := by unfold aft; rw [if_pos h1]
    rw [e] at h11 h13 ⊢
    rw [if_pos rfl, rIdGet_of l hb hl a (by omega) (K + 1) (by omega), if_pos (hT h1), Option.bind_some, w64 _ (by omega) (by omega), rgj2 l hb hl _ _ _ _ _ _ _ _ _ _ _ _ _ _ _ _ _ _ _ _ _ _ _ _ _ _ _ _ _ _ _ _ _ _ _ _ _ _ _ _ _ _ _ _ _ _ _ K hK (a + 10) h11 h13]
    rfl
  | false =>
    have e : aft m0 a = a := by unfold aft; rw [if_neg (by rw [h1]; simp)]
    rw [e] at h11 h13 ⊢
    rw [if_neg Bool.false_ne_true, rgj2 l hb hl _ _ _ _ _ _ _ _ _ _ _ _ _ _ _ _ _ _ _ _ _ _ _ _ _ _ _ _ _ _ _ _ _ _ _ _ _ _ _ _ _ _ _ _ _ _ _ K hK a h11 h13]
    rfl
end
theorem rbGet_of (l : List Int) (hb : By l) (hl : l.length ≤ 4611686018427387904) (m0 m1 m2 m3 m4 m5 m6 m7 m8 m9 m10 m11 m12 m13 m14 m15 m16 m17 m18 m19 m20 m21 m22 a : Int) (ha : -9223372036854775808 ≤ a ∧ a ≤ 9223372036854775807) (K : Nat) (hK : 9 < K) : carillonref07_Get.f (K + 2) m0 m1 m2 m3 m4 m5 m6 m7 m8 m9 m10 m11 m12 m13 m14 m15 m16 m17 m18 m19 m20 m21 m22 l a = some (bget l a m0 m1 m2 m3 m4 m5 m6 m7 m8 m9 m10 m11 m12 m13 m14 m15 m16 m17 m18 m19 m20 m21 m22) := by
  have hbl := blen_range m0
  unfold carillonref07_Get.f bget
  by_cases h1 : a < 0
  · rw [if_pos h1, if_neg (fun h => by have := h.2.1; omega)]
    rfl
  rw [if_neg h1]
  by_cases h2 : a > (l.length : Int)
  · rw [if_pos h2, if_neg (fun h => by have := h.2.2; omega)]
    rfl
  rw [if_neg h2, rlen_of, Option.bind_some, w64 ((l.length : Int) - a) (by omega) (by omega)]
  by_cases h3 : blen m0 > (l.length : Int) - a
  · rw [if_pos h3, if_neg (fun h => by have := h.2.2; omega)]
    rfl
  have hf : wrap64 (a + blen m0) = a + blen m0 := w64 _ (by omega) (by omega)
  rw [if_neg h3, Option.bind_some, rKnown_of, Option.bind_some, hf, if_pos (show has l a (blen m0) from ⟨by omega, by omega, by omega⟩)]
  have sub : ∀ i m : Int, 0 ≤ i → 0 ≤ m → i + m ≤ blen m0 → has l (a + i) m := fun i m q1 q2 q3 => ⟨q2, by omega, by omega⟩
  have sub0 : ∀ m : Int, 0 ≤ m → m ≤ blen m0 → has l a m := fun m q1 q2 => ⟨q1, by omega, by omega⟩
  have stp : kn m0 = true → stm m0 = true → 10 ≤ blen m0 → (tgt m0 = true → has l (a + 10) 10) → (m0 = 11 → has l (aft m0 (a + 10)) 20) → (m0 = 13 → has l (aft m0 (a + 10)) 4) →
      (if kn m0 = true then ((carillonref07_stamped.f m0).bind fun t29 => (if t29 = true then ((carillonref02_Get.f (K + 2) l a).bind fun t33 => (if t33.2 = true then (carillonref07_Get.j1 (K + 2) l (wrap64 (a + 10)) m0 m1 m2 m3 m4 m5 m6 m7 t33.1 m9 m10 m11 m12 m13 m14 m15 m16 m17 m18 m19 m20 m21 m22 0 0 0 0 0 0 0 0 0 0 0 0 0 0 0 0 0 0 0 0 0 0 0 (a + blen m0)) else (some (0, 0, 0, 0, 0, 0, 0, 0, 0, 0, 0, 0, 0, 0, 0, 0, 0, 0, 0, 0, 0, 0, 0, 0, 10)))) else (carillonref07_Get.j1 (K + 2) l a m0 m1 m2 m3 m4 m5 m6 m7 m8 m9 m10 m11 m12 m13 m14 m15 m16 m17 m18 m19 m20 m21 m22 0 0 0 0 0 0 0 0 0 0 0 0 0 0 0 0 0 0 0 0 0 0 0 (a + blen m0)))) else (some (m0, m1, m2, m3, m4, m5, m6, m7, m8, m9, m10, m11, m12, m13, m14, m15, m16, m17, m18, m19, m20, m21, m22, a, 0)))
      = some (if kn m0 = true ∧ stm m0 = true then (if (Stm.stampAt l a).2 = true then brest l (a + 10) (a + blen m0) m0 m1 m2 m3 m4 m5 m6 m7 (Stm.stampAt l a).1 m9 m10 m11 m12 m13 m14 m15 m16 m17 m18 m19 m20 m21 m22 else bz 10) else brest l a (a + blen m0) m0 m1 m2 m3 m4 m5 m6 m7 m8 m9 m10 m11 m12 m13 m14 m15 m16 m17 m18 m19 m20 m21 m22) := by
    intro k1 k2 k4 hT h11 h13
    rw [if_pos k1, rstamped_of, Option.bind_some, if_pos k2, if_pos (show kn m0 = true ∧ stm m0 = true from ⟨k1, k2⟩), Stm.rstGet_of l hb hl a ha K (by omega), Option.bind_some]
    by_cases hs : (Stm.stampAt l a).2 = true
    · rw [if_pos hs, if_pos hs, w64 (a + 10) (by omega) (by omega), rgj1 l hb hl _ _ _ _ _ _ _ _ _ _ _ _ _ _ _ _ _ _ _ _ _ _ _ _ _ _ _ _ _ _ _ _ _ _ _ _ _ _ _ _ _ _ _ _ _ _ _ K hK (a + 10) (by omega) hT h11 h13 (by omega)]
    · rw [if_neg hs, if_neg hs]
      rfl
  rcases kinds m0 with ⟨k0, k1, k2, k3, k4⟩ | ⟨k0, k1, k2, k3, k4⟩ | ⟨k0, k9, k1, k2, k3, k4⟩ | ⟨k0, k9, k1, k2, k3, k4⟩ | ⟨k0, k9, k1, k2, k3, k4⟩ | ⟨k0, k9, k1, k2, k3, k4⟩
  · have e : aft m0 (a + 10) = a + 10 := by unfold aft; rw [k3]; rfl
    exact stp k1 k2 (by omega) (fun h => by rw [k3] at h; cases h) (fun _ => by rw [e]; exact sub 10 20 (by omega) (by omega) (by omega)) (fun h => by omega)
  · have e : aft m0 a = a + 10 := by unfold aft; rw [k3]; rfl
    rw [if_pos k1, rstamped_of, Option.bind_some, if_neg (by rw [k2]; simp), if_neg (fun h => by rw [k2] at h; cases h.2), rgj1 l hb hl _ _ _ _ _ _ _ _ _ _ _ _ _ _ _ _ _ _ _ _ _ _ _ _ _ _ _ _ _ _ _ _ _ _ _ _ _ _ _ _ _ _ _ _ _ _ _ K hK a (by omega) (fun _ => sub0 10 (by omega) (by omega)) (fun h => by omega) (fun _ => by rw [e]; exact sub 10 4 (by omega) (by omega) (by omega)) (by omega)]
  · exact stp k1 k2 (by omega) (fun _ => sub 10 10 (by omega) (by omega) (by omega)) (fun h => absurd h k0) (fun h => absurd h k9)
  · exact stp k1 k2 (by omega) (fun h => by rw [k3] at h; cases h) (fun h => absurd h k0) (fun h => absurd h k9)
  · rw [if_pos k1, rstamped_of, Option.bind_some, if_neg (by rw [k2]; simp), if_neg (fun h => by rw [k2] at h; cases h.2), rgj1 l hb hl _ _ _ _ _ _ _ _ _ _ _ _ _ _ _ _ _ _ _ _ _ _ _ _ _ _ _ _ _ _ _ _ _ _ _ _ _ _ _ _ _ _ _ _ _ _ _ K hK a (by omega) (fun _ => sub0 10 (by omega) (by omega)) (fun h => absurd h k0) (fun h => absurd h k9) (by omega)]
  · rw [if_neg (by rw [k1]; simp), if_neg (fun h => by rw [k1] at h; cases h.1)]
    unfold brest pickT pick11 pick13
    simp only [k3, Bool.false_eq_true, if_false, if_neg k0, if_neg k9, k4, Int.add_zero]
theorem rfGet_of (s : ByteArray) (hs : s.size ≤ 140737488355328) (K : Nat) (hK : 60 ≤ K) : carillonref09_Get.f (K + 2) s = some (fget (K + 2) (bytesOf s)) := by
  unfold carillonref09_Get.f fget
  have hl : (bytesOf s).length = s.size := bytesOf_length s
  rw [if_pos (by omega), show K + 2 = (K + 1) + 1 from rfl, rhGet_of (bytesOf s) (bytes_by s) (by omega) (K + 1) (by omega), Option.bind_some, show K + 1 + 1 = K + 2 from rfl]
  generalize hget (bytesOf s) = h
  dsimp only
  by_cases h1 : h.2.2.2.2.2.2.2.2.2.2.2.2.2.2.2.2.2.2.2.2.2.2.2.2 = 0
  · rw [if_pos h1, if_pos h1, rbGet_of (bytesOf s) (bytes_by s) (by omega) _ _ _ _ _ _ _ _ _ _ _ _ _ _ _ _ _ _ _ _ _ _ _ 34 (by omega) K (by omega), Option.bind_some]
    generalize bget (bytesOf s) 34 h.1 h.2.1 h.2.2.1 h.2.2.2.1 h.2.2.2.2.1 h.2.2.2.2.2.1 h.2.2.2.2.2.2.1 h.2.2.2.2.2.2.2.1 h.2.2.2.2.2.2.2.2.1 h.2.2.2.2.2.2.2.2.2.1 h.2.2.2.2.2.2.2.2.2.2.1 h.2.2.2.2.2.2.2.2.2.2.2.1 h.2.2.2.2.2.2.2.2.2.2.2.2.1 h.2.2.2.2.2.2.2.2.2.2.2.2.2.1 h.2.2.2.2.2.2.2.2.2.2.2.2.2.2.1 h.2.2.2.2.2.2.2.2.2.2.2.2.2.2.2.1 h.2.2.2.2.2.2.2.2.2.2.2.2.2.2.2.2.1 h.2.2.2.2.2.2.2.2.2.2.2.2.2.2.2.2.2.1 h.2.2.2.2.2.2.2.2.2.2.2.2.2.2.2.2.2.2.1 h.2.2.2.2.2.2.2.2.2.2.2.2.2.2.2.2.2.2.2.1 h.2.2.2.2.2.2.2.2.2.2.2.2.2.2.2.2.2.2.2.2.1 h.2.2.2.2.2.2.2.2.2.2.2.2.2.2.2.2.2.2.2.2.2.1 h.2.2.2.2.2.2.2.2.2.2.2.2.2.2.2.2.2.2.2.2.2.2.1 = b
    by_cases h2 : b.2.2.2.2.2.2.2.2.2.2.2.2.2.2.2.2.2.2.2.2.2.2.2.2 = 0
    · rw [if_pos h2, if_pos h2, rtget_of (bytesOf s) (bytes_by s) (by omega) _ (K + 2) (by omega), Option.bind_some]
      generalize (if 0 ≤ b.2.2.2.2.2.2.2.2.2.2.2.2.2.2.2.2.2.2.2.2.2.2.2.1 ∧ b.2.2.2.2.2.2.2.2.2.2.2.2.2.2.2.2.2.2.2.2.2.2.2.1 ≤ ((bytesOf s).length : Int) then gets (bytesOf s) (K + 2) b.2.2.2.2.2.2.2.2.2.2.2.2.2.2.2.2.2.2.2.2.2.2.2.1 [] else ([], 1)) = t
      by_cases h3 : t.2 = 0
      · rw [if_pos h3, if_pos h3]
      · rw [if_neg h3, if_neg h3]; rfl
    · rw [if_neg h2, if_neg h2]; rfl
  · rw [if_neg h1, if_neg h1]; rfl
theorem fget_len (k : Nat) (l : List Int) : (fget k l).2.2.2.2.2.2.2.2.2.2.2.2.2.2.2.2.2.2.2.2.2.2.2.1.length ≤ 8 := by
  unfold fget
  dsimp only
  repeat' split
  all_goals first | exact gets_len l k _ [] (by simp) | exact Nat.zero_le _
def zz : List Int := [0, 18, 0, 44, 0, 0, 0, 0, 0, 0, 0, 0, 0, 0, 0, 0, 0, 0, 0, 0, 0, 0, 0, 0, 0, 0, 0, 0, 0, 0, 0, 0, 0, 0, 0, 0, 0, 0, 0, 0, 0, 0, 0, 0]
theorem zz_by : By zz := by unfold By; decide +kernel
theorem bzz (n : Nat) : body_Put.f (n + 62) [] 0 0 0 0 0 0 0 0 0 0 0 0 0 0 0 0 0 0 0 0 0 0 0 = some ([0, 0, 0, 0, 0, 0, 0, 0, 0, 0], true) := by kernel_rfl
theorem tzz (n : Nat) : tlv_Put.f (n + 62) [0, 0, 0, 0, 0, 0, 0, 0, 0, 0] [] = some ([0, 0, 0, 0, 0, 0, 0, 0, 0, 0], true) := by kernel_rfl
theorem hzz (n : Nat) : header_Put.f (n + 62) 0 0 0 0 0 0 0 0 0 0 0 0 0 0 0 0 0 0 0 0 0 0 0 44 = some (zz.take 34, true) := by kernel_rfl
theorem pzz (n : Nat) : frame_Put.f (n + 62) 0 0 0 0 0 0 0 0 0 0 0 0 0 0 0 0 0 0 0 0 0 0 0 [] = some (strOfNums zz, true) := by
  unfold frame_Put.f
  rw [bzz, Option.bind_some]
  dsimp only
  rw [if_pos rfl, tzz, Option.bind_some]
  dsimp only
  rw [if_pos rfl, show wrap64 (34 + (([0, 0, 0, 0, 0, 0, 0, 0, 0, 0] : List Int).length : Int)) = 44 by decide +kernel, hzz, Option.bind_some]
  dsimp only
  rw [if_pos rfl, str_size, str_size, if_pos (by decide), str_app]
  rfl
theorem gzz (n : Nat) : fget (n + 62) zz = (0, 0, 0, 0, 0, 0, 0, 0, 0, 0, 0, 0, 0, 0, 0, 0, 0, 0, 0, 0, 0, 0, 0, [], 0) := by kernel_rfl
theorem awake_of (n : Nat) : carillonlaw09_awake.f (n + 62) = some true := by
  unfold carillonlaw09_awake.f
  rw [pzz, Option.bind_some]
  dsimp only
  rw [fGet_of _ (by rw [str_size]; decide) (n + 60) (by omega), bytes_str zz_by, gzz, Option.bind_some, if_pos rfl, str_size, if_pos (by decide)]
  rfl
end Go.Proofs.Ytiomlbkakiienaa.Frg
