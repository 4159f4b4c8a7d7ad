/- What the functions on frames answer, in plain words: header, body and TLVs one behind the other. -/
import Derived.Test.YtiomlbkakiienaaZzPx0
import Derived.Test.YtiomlbkakiienaaZzPx1
import Derived.Test.YtiomlbkakiienaaZzPx4
import Derived.Test.YtiomlbkakiienaaZzLib
import Derived.Test.YtiomlbkakiienaaZzOct
import Derived.Test.YtiomlbkakiienaaZzHdr
import Derived.Test.YtiomlbkakiienaaZzHdw
import Derived.Test.YtiomlbkakiienaaZzBod
import Derived.Test.YtiomlbkakiienaaZzTlv
set_option linter.unusedVariables false
namespace Go.Proofs.Ytiomlbkakiienaa.Frm
open Go.RowKit Go.Proofs.Ytiomlbkakiienaa.P Go.Proofs.Ytiomlbkakiienaa.Lib Go.Proofs.Ytiomlbkakiienaa.Oct Go.Proofs.Ytiomlbkakiienaa.Hdr Go.Proofs.Ytiomlbkakiienaa.Bod Go.Proofs.YtiomlbkakiienaaW.PrintWords Go.Proofs.YtiomlbkakiienaaW.PrintLast Go.Proofs.YtiomlbkakiienaaW.PrintMore
open Tlv (okl oks encs okT encs_length encs_by gets gets_back wq bytes_by bytes_str str_bytes few_len rd_at dd few)
open Tlv (tput_of)
theorem few_from (l : List S43) (hl : l.length ≤ 4611686018427387904) : ∀ (q p : List S43) (k : Nat), l = p ++ q → q.length < k → carillonlaw09_few.l0 k l (p.length : Int) = some ((q.all fun x => decide (x.f1.size ≤ 600)) && decide (l.length ≤ 20)) := by
  intro q
  induction q with
  | nil =>
    intro p k e hk
    obtain ⟨k, rfl⟩ : ∃ j, k = j + 1 := ⟨k - 1, by simp at hk; omega⟩
    rw [carillonlaw09_few.l0, if_neg (by rw [e]; simp)]
    simp only [List.all_nil, Bool.true_and]
    exact dd (by omega)
  | cons x q ih =>
    intro p k e hk
    obtain ⟨k, rfl⟩ : ∃ j, k = j + 1 := ⟨k - 1, by simp at hk; omega⟩
    have hlen : l.length = p.length + (q.length + 1) := by rw [e]; simp
    have hw : wrap64 ((p.length : Int) + 1) = ((p ++ [x]).length : Int) := by rw [wq _ (by omega)]; simp
    rw [carillonlaw09_few.l0, if_pos (by omega), if_pos (by omega), hw]
    have hx : rd_T43 l (p.length : Int) = x := by rw [e]; exact rd_at p x q
    rw [hx, List.all_cons]
    by_cases h : (x.f1.size : Int) > 600
    · rw [if_pos h, decide_eq_false (by omega), Bool.false_and, Bool.false_and]
    · rw [if_neg h, decide_eq_true (by omega), Bool.true_and]
      exact ih (p ++ [x]) k (by rw [e]; simp) (by simp at hk; omega)
theorem few_of (l : List S43) (hl : l.length ≤ 4611686018427387904) (k : Nat) (hk : l.length < k) : carillonlaw09_few.f k l = some (few l) := few_from l hl l [] k rfl hk
def fn (m0 m1 m2 m3 m4 m5 m6 m7 m8 m9 m10 m11 m12 m13 m14 m15 m16 m17 m18 m19 m20 m21 m22 : Int) (l : List S43) : Int := 34 + (((bbytes m0 m8 m9 m10 m11 m12 m13 m14 m15 m16 m17 m18 m19 m20 m21 m22).length + (encs l).length : Nat) : Int)
def fok (m0 m1 m2 m3 m4 m5 m6 m7 m8 m9 m10 m11 m12 m13 m14 m15 m16 m17 m18 m19 m20 m21 m22 : Int) (l : List S43) : Bool := bok m0 m1 m2 m3 m4 m5 m6 m7 m8 m9 m10 m11 m12 m13 m14 m15 m16 m17 m18 m19 m20 m21 m22 && (okl l && decide (fn m0 m1 m2 m3 m4 m5 m6 m7 m8 m9 m10 m11 m12 m13 m14 m15 m16 m17 m18 m19 m20 m21 m22 l ≤ 400))
def frame (m0 m1 m2 m3 m4 m5 m6 m7 m8 m9 m10 m11 m12 m13 m14 m15 m16 m17 m18 m19 m20 m21 m22 : Int) (l : List S43) : List Int := hdr m0 m1 m2 m3 m4 m5 m6 m7 (fn m0 m1 m2 m3 m4 m5 m6 m7 m8 m9 m10 m11 m12 m13 m14 m15 m16 m17 m18 m19 m20 m21 m22 l) ++ (bbytes m0 m8 m9 m10 m11 m12 m13 m14 m15 m16 m17 m18 m19 m20 m21 m22 ++ encs l)
theorem frame_by (m0 m1 m2 m3 m4 m5 m6 m7 m8 m9 m10 m11 m12 m13 m14 m15 m16 m17 m18 m19 m20 m21 m22 : Int) (l : List S43) : By (frame m0 m1 m2 m3 m4 m5 m6 m7 m8 m9 m10 m11 m12 m13 m14 m15 m16 m17 m18 m19 m20 m21 m22 l) := (hdr_by _ _ _ _ _ _ _ _ _).app ((bbytes_by _ _ _ _ _ _ _ _ _ _ _ _ _ _ _ _).app (encs_by l))
theorem frame_length (m0 m1 m2 m3 m4 m5 m6 m7 m8 m9 m10 m11 m12 m13 m14 m15 m16 m17 m18 m19 m20 m21 m22 : Int) (l : List S43) : ((frame m0 m1 m2 m3 m4 m5 m6 m7 m8 m9 m10 m11 m12 m13 m14 m15 m16 m17 m18 m19 m20 m21 m22 l).length : Int) = fn m0 m1 m2 m3 m4 m5 m6 m7 m8 m9 m10 m11 m12 m13 m14 m15 m16 m17 m18 m19 m20 m21 m22 l := by
  unfold frame fn
  rw [List.length_append, hdr_length, List.length_append]
  omega
theorem bok_hok {m0 m1 m2 m3 m4 m5 m6 m7 m8 m9 m10 m11 m12 m13 m14 m15 m16 m17 m18 m19 m20 m21 m22 : Int} (h : bok m0 m1 m2 m3 m4 m5 m6 m7 m8 m9 m10 m11 m12 m13 m14 m15 m16 m17 m18 m19 m20 m21 m22 = true) : hok m0 m1 m2 m5 m6 m7 = true := by
  unfold bok at h
  exact (Bool.and_eq_true_iff.1 h).1
theorem okl_len {l : List S43} (h : okl l = true) : (encs l).length ≤ 3232 := by
  unfold okl at h
  rw [Bool.and_eq_true, decide_eq_true_eq] at h
  have := encs_length l h.2
  omega
theorem fPut_of (m0 m1 m2 m3 m4 m5 m6 m7 m8 m9 m10 m11 m12 m13 m14 m15 m16 m17 m18 m19 m20 m21 m22 : Int) (l : List S43) (K : Nat) (hK : 60 ≤ K) : frame_Put.f (K + 2) m0 m1 m2 m3 m4 m5 m6 m7 m8 m9 m10 m11 m12 m13 m14 m15 m16 m17 m18 m19 m20 m21 m22 l = some (if fok m0 m1 m2 m3 m4 m5 m6 m7 m8 m9 m10 m11 m12 m13 m14 m15 m16 m17 m18 m19 m20 m21 m22 l = true then (strOfNums (frame m0 m1 m2 m3 m4 m5 m6 m7 m8 m9 m10 m11 m12 m13 m14 m15 m16 m17 m18 m19 m20 m21 m22 l), true) else ((⟨#[]⟩ : ByteArray), false)) := by
  unfold frame_Put.f fok
  have no : frame_Put.j1 (K + 2) = some ((⟨#[]⟩ : ByteArray), false) := rfl
  rw [no, show K + 2 = (K + 1) + 1 from rfl, bPut_of [] (by simp) m0 m1 m2 m3 m4 m5 m6 m7 m8 m9 m10 m11 m12 m13 m14 m15 m16 m17 m18 m19 m20 m21 m22 (K + 1), Option.bind_some]
  cases hb : bok m0 m1 m2 m3 m4 m5 m6 m7 m8 m9 m10 m11 m12 m13 m14 m15 m16 m17 m18 m19 m20 m21 m22 with
  | false =>
    rw [if_neg Bool.false_ne_true]
    dsimp only
    rw [if_neg Bool.false_ne_true, Bool.false_and, if_neg Bool.false_ne_true]
  | true =>
    have hle := bbytes_le m0 m8 m9 m10 m11 m12 m13 m14 m15 m16 m17 m18 m19 m20 m21 m22
    rw [if_pos rfl]
    dsimp only
    rw [if_pos rfl, List.nil_append, tput_of (bbytes m0 m8 m9 m10 m11 m12 m13 m14 m15 m16 m17 m18 m19 m20 m21 m22) (by omega) l (K + 1 + 1) (by omega), Option.bind_some, Bool.true_and]
    cases ho : okl l with
    | false =>
      rw [if_neg Bool.false_ne_true]
      dsimp only
      rw [if_neg Bool.false_ne_true, Bool.false_and, if_neg Bool.false_ne_true]
    | true =>
      have hel := okl_len ho
      have hlen : (bbytes m0 m8 m9 m10 m11 m12 m13 m14 m15 m16 m17 m18 m19 m20 m21 m22 ++ encs l).length = (bbytes m0 m8 m9 m10 m11 m12 m13 m14 m15 m16 m17 m18 m19 m20 m21 m22).length + (encs l).length := List.length_append
      rw [if_pos rfl]
      dsimp only
      rw [if_pos rfl, Bool.true_and, hlen, wq (34 + (((bbytes m0 m8 m9 m10 m11 m12 m13 m14 m15 m16 m17 m18 m19 m20 m21 m22).length + (encs l).length : Nat) : Int)) (by omega), show K + 1 + 1 = K + 2 from rfl, hPut_of, Option.bind_some, bok_hok hb, Bool.true_and]
      have hfn : fn m0 m1 m2 m3 m4 m5 m6 m7 m8 m9 m10 m11 m12 m13 m14 m15 m16 m17 m18 m19 m20 m21 m22 l = 34 + (((bbytes m0 m8 m9 m10 m11 m12 m13 m14 m15 m16 m17 m18 m19 m20 m21 m22).length + (encs l).length : Nat) : Int) := rfl
      rw [← hfn]
      by_cases hw : fn m0 m1 m2 m3 m4 m5 m6 m7 m8 m9 m10 m11 m12 m13 m14 m15 m16 m17 m18 m19 m20 m21 m22 l ≤ 400
      · have hw2 : within (fn m0 m1 m2 m3 m4 m5 m6 m7 m8 m9 m10 m11 m12 m13 m14 m15 m16 m17 m18 m19 m20 m21 m22 l) 34 400 = true := decide_eq_true (by omega)
        have hfl := frame_length m0 m1 m2 m3 m4 m5 m6 m7 m8 m9 m10 m11 m12 m13 m14 m15 m16 m17 m18 m19 m20 m21 m22 l
        rw [hw2, if_pos rfl, decide_eq_true hw]
        dsimp only
        rw [if_pos rfl, if_pos rfl, str_size, str_size, hdr_length, hlen, if_pos (by omega), str_app]
        rfl
      · have hw2 : within (fn m0 m1 m2 m3 m4 m5 m6 m7 m8 m9 m10 m11 m12 m13 m14 m15 m16 m17 m18 m19 m20 m21 m22 l) 34 400 = false := decide_eq_false (by omega)
        rw [hw2, if_neg Bool.false_ne_true, decide_eq_false hw]
        dsimp only
        rw [if_neg Bool.false_ne_true, if_neg Bool.false_ne_true]
def fz (e : Int) : Int × Int × Int × Int × Int × Int × Int × Int × Int × Int × Int × Int × Int × Int × Int × Int × Int × Int × Int × Int × Int × Int × Int × List S43 × Int := (0, 0, 0, 0, 0, 0, 0, 0, 0, 0, 0, 0, 0, 0, 0, 0, 0, 0, 0, 0, 0, 0, 0, [], e)
end Go.Proofs.Ytiomlbkakiienaa.Frm
