/- What the functions on TLVs answer, in plain words: the given program's and the document's. -/
import Derived.Test.YtgmiokocipmbaaaZzPx0
import Derived.Test.YtgmiokocipmbaaaZzPx2
import Derived.Test.YtgmiokocipmbaaaZzPx3
import Derived.Test.YtgmiokocipmbaaaZzPx4
import Derived.Test.YtgmiokocipmbaaaZzPx5
import Derived.Test.YtgmiokocipmbaaaZzPx6
import Derived.Test.YtgmiokocipmbaaaZzPx8
import Derived.Test.YtgmiokocipmbaaaZzPx1
import Derived.Test.YtgmiokocipmbaaaZzPx11
import Derived.Test.YtgmiokocipmbaaaZzPx12
import Derived.Test.YtgmiokocipmbaaaZzPx13
import Derived.Test.YtgmiokocipmbaaaZzPx14
import Derived.Test.YtgmiokocipmbaaaZzLib
import Derived.Test.YtgmiokocipmbaaaZzOct
import Derived.Test.YtgmiokocipmbaaaZzRef
namespace Go.Proofs.Ytgmiokocipmbaaa.Tlv
open Go.RowKit Go.Proofs.Ytgmiokocipmbaaa.P Go.Proofs.Ytgmiokocipmbaaa.Lib Go.Proofs.Ytgmiokocipmbaaa.Oct Go.Proofs.Ytgmiokocipmbaaa.Ref Go.Proofs.YtgmiokocipmbaaaW.PrintWords Go.Proofs.YtgmiokocipmbaaaW.PrintLast Go.Proofs.YtgmiokocipmbaaaW.PrintMore
theorem dd {p q : Prop} [Decidable p] [Decidable q] (h : p ↔ q) : some (decide p) = some (decide q) := by rw [decide_eq_decide.2 h]
theorem bytes_by (s : ByteArray) : By (bytesOf s) := fun x hx => by
  unfold bytesOf at hx
  obtain ⟨b, _, rfl⟩ := List.mem_map.1 hx
  have := b.toNat_lt
  omega
theorem wq (x : Int) (h : -9223372036854775808 ≤ x ∧ x ≤ 9223372036854775807) : wrap64 x = x := by unfold wrap64; omega
def okT (t : Int) (d : ByteArray) : Bool := decide (0 ≤ t ∧ t ≤ 65535 ∧ d.size % 2 = 0 ∧ d.size ≤ 400)
theorem tin_of (v a b : Int) : tlv_in.f v a b = some (decide (a ≤ v ∧ v ≤ b)) := by
  unfold tlv_in.f
  by_cases h : v ≥ a
  · rw [if_pos h]; exact dd (by omega)
  · rw [if_neg h, decide_eq_false (by omega)]
theorem tcheck_of (t : Int) (d : ByteArray) : tlv_Check.f t d = some (okT t d) := by
  unfold tlv_Check.f okT
  rw [tin_of, Option.bind_some]
  by_cases h : 0 ≤ t ∧ t ≤ 65535
  · rw [if_pos (decide_eq_true h)]
    by_cases h2 : ((d.size : Int) % 2) = 0
    · rw [if_pos h2]; exact dd (by omega)
    · rw [if_neg h2, decide_eq_false (by omega)]
  · rw [if_neg (by simpa using h), decide_eq_false (by omega)]
def knT (t : Int) (s : Nat) : Bool := if t = 1 then decide (2 ≤ s) else if t = 2 then decide (8 ≤ s) else if t = 3 then decide (6 ≤ s) else if t = 4 then decide (s = 6) else if t = 5 then decide (s = 8) else if t = 6 ∨ t = 7 then decide (s = 2) else if t = 8 then decide (s % 8 = 0 ∧ s ≤ 128) else if t = 9 then decide (16 ≤ s) else decide (t = 32776)
theorem tm8 (s : Nat) : Int.tmod (s : Int) 8 = (s : Int) % 8 := by rw [tm _ _ (by omega), if_pos (Or.inl (by omega))]
theorem tm2 (s : Nat) : Int.tmod (s : Int) 2 = (s : Int) % 2 := by rw [tm _ _ (by omega), if_pos (Or.inl (by omega))]
theorem known_of (t : Int) (d : ByteArray) : tlv_Known.f t d = some (knT t d.size) := by
  unfold tlv_Known.f knT
  by_cases h1 : t = 1
  · rw [if_pos h1, if_pos h1]; exact dd (by omega)
  rw [if_neg h1, if_neg h1]
  by_cases h2 : t = 2
  · rw [if_pos h2, if_pos h2]; exact dd (by omega)
  rw [if_neg h2, if_neg h2]
  by_cases h3 : t = 3
  · rw [if_pos h3, if_pos h3]; exact dd (by omega)
  rw [if_neg h3, if_neg h3]
  by_cases h4 : t = 4
  · rw [if_pos h4, if_pos h4]; exact dd (by omega)
  rw [if_neg h4, if_neg h4]
  by_cases h5 : t = 5
  · rw [if_pos h5, if_pos h5]; exact dd (by omega)
  rw [if_neg h5, if_neg h5]
  have e67 : ((if t = 6 then decide (t = 6) else decide (t = 7)) = true) ↔ (t = 6 ∨ t = 7) := by
    by_cases h6 : t = 6
    · rw [if_pos h6]; simp [h6]
    · rw [if_neg h6]; simp [h6]
  by_cases h6 : t = 6 ∨ t = 7
  · rw [if_pos (e67.2 h6), if_pos h6]; exact dd (by omega)
  rw [if_neg (fun e => h6 (e67.1 e)), if_neg h6]
  by_cases h8 : t = 8
  · rw [if_pos h8, if_pos h8, tm8]
    by_cases hm : ((d.size : Int) % 8) = 0
    · rw [if_pos hm]; exact dd (by omega)
    · rw [if_neg hm, decide_eq_false (by omega)]
  rw [if_neg h8, if_neg h8]
  by_cases h9 : t = 9
  · rw [if_pos h9, if_pos h9]; exact dd (by omega)
  rw [if_neg h9, if_neg h9]
theorem rknown_of (t : Int) (d : ByteArray) : carillonref08_Known.f t d = some (knT t d.size) := by
  unfold carillonref08_Known.f knT
  have e167 : ((if t = 1 then decide (t = 1) else (if t = 6 then decide (t = 6) else decide (t = 7))) = true) ↔ (t = 1 ∨ t = 6 ∨ t = 7) := by
    by_cases h1 : t = 1
    · rw [if_pos h1]; simp [h1]
    · rw [if_neg h1]
      by_cases h6 : t = 6
      · rw [if_pos h6]; simp [h6]
      · rw [if_neg h6]; simp [h1, h6]
  by_cases h1 : t = 1
  · rw [if_pos (e167.2 (Or.inl h1)), if_pos h1]
    by_cases a : (d.size : Int) = 2
    · rw [if_pos a, decide_eq_true (by omega)]
    · rw [if_neg a]
      by_cases b : (d.size : Int) > 2
      · rw [if_pos b]; exact dd (by omega)
      · rw [if_neg b, decide_eq_false (by omega)]
  by_cases h6 : t = 6 ∨ t = 7
  · rw [if_pos (e167.2 (Or.inr h6)), if_neg h1, if_neg (show ¬ t = 2 by omega), if_neg (show ¬ t = 3 by omega), if_neg (show ¬ t = 4 by omega), if_neg (show ¬ t = 5 by omega), if_pos h6]
    by_cases a : (d.size : Int) = 2
    · rw [if_pos a, decide_eq_true (by omega)]
    · rw [if_neg a]
      by_cases b : (d.size : Int) > 2
      · rw [if_pos b]; exact dd (by omega)
      · rw [if_neg b, decide_eq_false (by omega)]
  rw [if_neg (fun e => by rcases e167.1 e with q | q; exact h1 q; exact h6 q), if_neg h1]
  by_cases h2 : t = 2
  · rw [if_pos h2, if_pos h2]; exact dd (by omega)
  rw [if_neg h2, if_neg h2]
  by_cases h3 : t = 3
  · rw [if_pos h3, if_pos h3]; exact dd (by omega)
  rw [if_neg h3, if_neg h3]
  by_cases h4 : t = 4
  · rw [if_pos h4, if_pos h4]; exact dd (by omega)
  rw [if_neg h4, if_neg h4]
  by_cases h5 : t = 5
  · rw [if_pos h5, if_pos h5]; exact dd (by omega)
  rw [if_neg h5, if_neg h5, if_neg h6]
  by_cases h8 : t = 8
  · rw [if_pos h8, if_pos h8, tm8]
    by_cases hm : ((d.size : Int) % 8) = 0
    · rw [if_pos hm]; exact dd (by omega)
    · rw [if_neg hm, decide_eq_false (by omega)]
  rw [if_neg h8, if_neg h8]
  by_cases h9 : t = 9
  · rw [if_pos h9, if_pos h9]; exact dd (by omega)
  rw [if_neg h9, if_neg h9]
def enc1 (x : S26) : List Int := enc x.f0 2 ++ (enc (x.f1.size : Int) 2 ++ bytesOf x.f1)
def encs (l : List S26) : List Int := l.flatMap enc1
def oks (l : List S26) : Bool := l.all fun x => okT x.f0 x.f1
def okl (l : List S26) : Bool := decide (l.length ≤ 8) && oks l
theorem enc1_length (x : S26) : (enc1 x).length = 4 + x.f1.size := by
  simp only [enc1, List.length_append, enc_length, bytesOf_length]
  omega
theorem encs_cons (x : S26) (l : List S26) : encs (x :: l) = enc1 x ++ encs l := by simp [encs]
theorem encs_nil : encs [] = [] := rfl
theorem oks_cons (x : S26) (l : List S26) : oks (x :: l) = (okT x.f0 x.f1 && oks l) := by simp [oks]
theorem okT_size {t : Int} {d : ByteArray} (h : okT t d = true) : 0 ≤ t ∧ t ≤ 65535 ∧ d.size % 2 = 0 ∧ d.size ≤ 400 := of_decide_eq_true h
theorem encs_length : ∀ l : List S26, oks l = true → (encs l).length ≤ 404 * l.length
  | [], _ => by simp [encs]
  | x :: l, h => by
    rw [oks_cons, Bool.and_eq_true] at h
    have := encs_length l h.2
    have := okT_size h.1
    rw [encs_cons, List.length_append, enc1_length, List.length_cons]
    omega
theorem rd_at (p : List S26) (x : S26) (q : List S26) : rd_T26 (p ++ x :: q) (p.length : Int) = x := by simp [rd_T26, List.getD]
theorem tput_from (K : Nat) (y0 : List Int) : ∀ (q p : List S26) (acc : List Int) (k : Nat), q.length < k → (p ++ q).length ≤ 1000 → acc.length + 404 * q.length ≤ 140737488355000 →
    tlv_Put.l1 K k y0 acc (p ++ q) ((p ++ q).length : Int) (p.length : Int) = some (if oks q = true then (acc ++ encs q, true) else (y0, false)) := by
  intro q
  induction q with
  | nil =>
    intro p acc k hk _ _
    obtain ⟨k, rfl⟩ : ∃ j, k = j + 1 := ⟨k - 1, by simp at hk; omega⟩
    rw [tlv_Put.l1, if_neg (by simp), if_pos (show oks [] = true from rfl), encs_nil, List.append_nil]
  | cons x q ih =>
    intro p acc k hk hp ha
    obtain ⟨k, rfl⟩ : ∃ j, k = j + 1 := ⟨k - 1, by simp at hk; omega⟩
    simp only [List.length_append, List.length_cons] at hk hp ha
    have hw : wrap64 ((p.length : Int) + 1) = ((p ++ [x]).length : Int) := by rw [wq _ (by omega)]; simp
    rw [tlv_Put.l1, if_pos (by simp only [List.length_append, List.length_cons]; omega), if_pos (by omega), if_pos (by simp only [List.length_append, List.length_cons]; omega), rd_at, tcheck_of, Option.bind_some, oks_cons, hw]
    cases h : okT x.f0 x.f1 with
    | false => rw [if_neg Bool.false_ne_true, Bool.false_and, if_neg Bool.false_ne_true]
    | true =>
      have hs := okT_size h
      rw [if_pos rfl, Bool.true_and, put2 _ _ (by omega), Option.bind_some, put2 _ _ (by simp only [List.length_append, enc_length]; omega), Option.bind_some, if_pos (by simp only [List.length_append, enc_length]; omega)]
      have e := ih (p ++ [x]) (acc ++ enc x.f0 2 ++ enc (x.f1.size : Int) 2 ++ bytesOf x.f1) k (by omega) (by simp only [List.length_append, List.length_cons, List.length_nil]; omega) (by simp only [List.length_append, enc_length, bytesOf_length]; omega)
      rw [List.append_assoc p [x] q, List.singleton_append] at e
      rw [e, encs_cons]
      simp only [enc1, List.append_assoc]
theorem tput_of (l0 : List Int) (hl : l0.length ≤ 140737488351300) (l : List S26) (k : Nat) (hk : 8 < k) : tlv_Put.f k l0 l = some (if okl l = true then (l0 ++ encs l, true) else (l0, false)) := by
  unfold tlv_Put.f okl
  by_cases h : l.length ≤ 8
  · rw [if_neg (by omega), decide_eq_true h, Bool.true_and]
    exact tput_from k l0 l [] l0 k (by omega) (by simp; omega) (by omega)
  · rw [if_pos (by omega), decide_eq_false h, Bool.false_and, if_neg Bool.false_ne_true]
theorem rget_yes (l : List Int) (hb : By l) (hl : l.length ≤ 4611686018427387904) (a n : Int) (h : has l a n) (h1 : 1 ≤ n) (h7 : n ≤ 7) (K : Nat) (hK : 8 < K) : carillonref01_Get.f (K + 1) l a n = some (dec (cut l a n), true) := by
  rw [rget_of l hb hl a n (by omega) K hK, if_pos ⟨h1, h7, h⟩]
def ids8 (l : List Int) : List Int := l.flatMap fun v => enc v 8
theorem ids8_cons (v : Int) (l : List Int) : ids8 (v :: l) = enc v 8 ++ ids8 l := by simp [ids8]
theorem rdi (p : List Int) (x : Int) (q : List Int) : rd (p ++ x :: q) (p.length : Int) = x := by simp [rd, List.getD]
def pathT (l : List Int) : Int × ByteArray × Bool := if l.length ≤ 16 then (8, strOfNums (ids8 l), true) else (0, (⟨#[]⟩ : ByteArray), false)
theorem tpath_from (l : List Int) (hl : l.length ≤ 16) : ∀ (q p acc : List Int) (k : Nat), l = p ++ q → q.length < k → acc.length + 8 * q.length ≤ 1000 → tlv_Path.l0 k acc l (l.length : Int) (p.length : Int) = some (8, strOfNums (acc ++ ids8 q), true) := by
  intro q
  induction q with
  | nil =>
    intro p acc k e hk _
    obtain ⟨k, rfl⟩ : ∃ j, k = j + 1 := ⟨k - 1, by simp at hk; omega⟩
    rw [tlv_Path.l0, if_neg (by rw [e]; simp)]
    simp [ids8]
  | cons x q ih =>
    intro p acc k e hk ha
    obtain ⟨k, rfl⟩ : ∃ j, k = j + 1 := ⟨k - 1, by simp at hk; omega⟩
    simp only [List.length_cons] at ha hk
    have hlen : l.length = p.length + (q.length + 1) := by rw [e]; simp
    have hw : wrap64 ((p.length : Int) + 1) = ((p ++ [x]).length : Int) := by rw [wq _ (by omega)]; simp
    have hx : rd l (p.length : Int) = x := by rw [e]; exact rdi p x q
    rw [tlv_Path.l0, if_pos (by omega), if_pos (by omega), if_pos (by omega), hw, hx, putId_of _ _ (by omega), Option.bind_some, ih (p ++ [x]) _ k (by rw [e]; simp) (by omega) (by simp only [List.length_append, enc_length]; omega), ids8_cons, List.append_assoc]
theorem tpath_of (l : List Int) (k : Nat) (hk : 16 < k) : tlv_Path.f k l = some (pathT l) := by
  unfold tlv_Path.f pathT
  by_cases h : l.length ≤ 16
  · rw [if_neg (by omega), if_pos h]
    have := tpath_from l h l [] [] k rfl (by omega) (by simp; omega)
    rwa [List.nil_append] at this
  · rw [if_pos (by omega), if_neg h]
theorem rtpath_from (l : List Int) (hl : l.length ≤ 16) : ∀ (q p acc : List Int) (k : Nat), l = p ++ q → q.length + 9 < k → acc.length + 8 * q.length ≤ 1000 → carillonref08_Path.l0 k l acc (p.length : Int) = some (8, strOfNums (acc ++ ids8 q), true) := by
  intro q
  induction q with
  | nil =>
    intro p acc k e hk _
    obtain ⟨k, rfl⟩ : ∃ j, k = j + 1 := ⟨k - 1, by simp at hk; omega⟩
    rw [carillonref08_Path.l0, if_neg (by rw [e]; simp)]
    simp [ids8]
  | cons x q ih =>
    intro p acc k e hk ha
    obtain ⟨k, rfl⟩ : ∃ j, k = j + 1 := ⟨k - 1, by simp at hk; omega⟩
    simp only [List.length_cons] at ha hk
    have hlen : l.length = p.length + (q.length + 1) := by rw [e]; simp
    have hw : wrap64 ((p.length : Int) + 1) = ((p ++ [x]).length : Int) := by rw [wq _ (by omega)]; simp
    have hx : rd l (p.length : Int) = x := by rw [e]; exact rdi p x q
    rw [carillonref08_Path.l0, if_pos (by omega), if_pos (by omega), hw, hx, rputId_of _ k (by omega), Option.bind_some, if_pos (by rw [enc_length]; omega), ih (p ++ [x]) _ k (by rw [e]; simp) (by omega) (by simp only [List.length_append, enc_length]; omega), ids8_cons, List.append_assoc]
theorem rtpath_of (l : List Int) (k : Nat) (hk : 30 < k) : carillonref08_Path.f k l = some (pathT l) := by
  unfold carillonref08_Path.f pathT
  by_cases h : l.length ≤ 16
  · rw [if_neg (by omega), if_pos h]
    have := rtpath_from l h l [] [] k rfl (by omega) (by simp; omega)
    rwa [List.nil_append] at this
  · rw [if_pos (by omega), if_neg h]
def padM (t : Int) (d : ByteArray) : List Int := if (2 + d.size) % 2 = 0 then enc t 2 ++ bytesOf d else enc t 2 ++ bytesOf d ++ [0]
theorem padM_length (t : Int) (d : ByteArray) : (padM t d).length = 2 + d.size + d.size % 2 := by
  unfold padM
  by_cases h : (2 + d.size) % 2 = 0
  · rw [if_pos h]; simp only [List.length_append, enc_length, bytesOf_length]; omega
  · rw [if_neg h]; simp only [List.length_append, enc_length, bytesOf_length, List.length_singleton]; omega
def manT (t : Int) (d : ByteArray) : Int × ByteArray × Bool := if 0 ≤ t ∧ t ≤ 65535 ∧ (padM t d).length ≤ 400 then (1, strOfNums (padM t d), true) else (0, (⟨#[]⟩ : ByteArray), false)
theorem tman_of (t : Int) (d : ByteArray) : tlv_Manage.f t d = some (manT t d) := by
  unfold tlv_Manage.f manT
  have hp := padM_length t d
  rw [tin_of, Option.bind_some]
  by_cases h : 0 ≤ t ∧ t ≤ 65535
  · rw [if_pos (decide_eq_true h)]
    by_cases h4 : (d.size : Int) > 400
    · rw [if_pos h4, if_neg (by omega)]
    · rw [if_neg h4, put2 _ _ (by simp), Option.bind_some, List.nil_append, if_pos (by rw [enc_length]; omega)]
      have hlen : (enc t 2 ++ bytesOf d).length = 2 + d.size := by simp only [List.length_append, enc_length, bytesOf_length]
      rw [hlen, tm2]
      by_cases h2 : (2 + d.size) % 2 = 0
      · rw [if_pos (by omega)]
        have e : padM t d = enc t 2 ++ bytesOf d := by unfold padM; rw [if_pos h2]
        by_cases h5 : (padM t d).length ≤ 400
        · rw [if_neg (by omega), if_pos ⟨h.1, h.2, h5⟩, e]
        · rw [if_pos (by omega), if_neg (by omega)]
      · rw [if_neg (by omega), if_pos (by simp only [List.length_singleton]; omega)]
        have e : padM t d = enc t 2 ++ bytesOf d ++ [0] := by unfold padM; rw [if_neg h2]
        rw [← e]
        by_cases h5 : (padM t d).length ≤ 400
        · rw [if_neg (by omega), if_pos ⟨h.1, h.2, h5⟩]
        · rw [if_pos (by omega), if_neg (by omega)]
  · rw [if_neg (by simpa using h), if_neg (by omega)]
theorem rtman_of (t : Int) (d : ByteArray) (K : Nat) (hK : 9 < K) : carillonref08_Manage.f K t d = some (manT t d) := by
  obtain ⟨K, rfl⟩ : ∃ j, K = j + 1 := ⟨K - 1, by omega⟩
  have hp := padM_length t d
  have no : ¬ (0 ≤ t ∧ t ≤ 65535 ∧ (padM t d).length ≤ 400) → carillonref08_Manage.j0 (K + 1) t d true = some (manT t d) := by
    intro h
    rw [carillonref08_Manage.j0, if_pos rfl]
    unfold manT
    rw [if_neg h]
  unfold carillonref08_Manage.f
  by_cases h0 : t < 0
  · rw [if_pos h0]; exact no (by omega)
  rw [if_neg h0]
  by_cases h1 : t > 65535
  · rw [if_pos h1]; exact no (by omega)
  rw [if_neg h1]
  by_cases h4 : (d.size : Int) > 400
  · rw [decide_eq_true h4]; exact no (by omega)
  rw [decide_eq_false h4, carillonref08_Manage.j0, if_neg Bool.false_ne_true, rput2 _ K (by omega), Option.bind_some, if_pos (by rw [enc_length]; omega), Option.bind_some]
  have hlen : (enc t 2 ++ bytesOf d).length = 2 + d.size := by simp only [List.length_append, enc_length, bytesOf_length]
  rw [hlen]
  unfold manT
  by_cases h2 : (2 + d.size) % 2 = 0
  · rw [if_pos (by omega)]
    have e : padM t d = enc t 2 ++ bytesOf d := by unfold padM; rw [if_pos h2]
    by_cases h5 : (padM t d).length ≤ 400
    · rw [if_neg (by omega), if_pos ⟨by omega, by omega, h5⟩, e]
    · rw [if_pos (by omega), if_neg (by omega)]
  · rw [if_neg (by omega), if_pos (by omega), Option.bind_some]
    have e : padM t d = enc t 2 ++ bytesOf d ++ [0] := by unfold padM; rw [if_neg h2]
    rw [← e]
    by_cases h5 : (padM t d).length ≤ 400
    · rw [if_neg (by omega), if_pos ⟨by omega, by omega, h5⟩]
    · rw [if_pos (by omega), if_neg (by omega)]
def fltT (a b : Int) : Int × ByteArray × Bool := if (0 ≤ a ∧ a ≤ 65535) ∧ 0 ≤ b ∧ b ≤ 65535 then (2, strOfNums (enc a 2 ++ enc b 2 ++ enc 0 4), true) else (0, (⟨#[]⟩ : ByteArray), false)
theorem tflt_of (a b : Int) (K : Nat) (hK : 9 < K) : tlv_Fault.f K a b = some (fltT a b) := by
  obtain ⟨K, rfl⟩ : ∃ j, K = j + 1 := ⟨K - 1, by omega⟩
  unfold tlv_Fault.f fltT
  rw [tin_of, Option.bind_some]
  by_cases h : 0 ≤ a ∧ a ≤ 65535
  · rw [if_pos (decide_eq_true h), tin_of, Option.bind_some]
    by_cases h2 : 0 ≤ b ∧ b ≤ 65535
    · rw [decide_eq_true h2, tlv_Fault.j0, if_neg (by simp), put2 _ _ (by simp), Option.bind_some, put2 _ _ (by simp [enc_length]), Option.bind_some, put4 _ _ (by simp [enc_length]), Option.bind_some, if_pos ⟨h, h2⟩, List.nil_append]
    · rw [decide_eq_false h2, tlv_Fault.j0, if_pos (show (!false) = true from rfl), if_neg (by omega)]
  · rw [if_neg (by simpa using h), tlv_Fault.j0, if_pos rfl, if_neg (by omega)]
theorem rtflt_of (a b : Int) (K : Nat) (hK : 9 < K) : carillonref08_Fault.f K a b = some (fltT a b) := by
  obtain ⟨K, rfl⟩ : ∃ j, K = j + 1 := ⟨K - 1, by omega⟩
  have no : ¬ ((0 ≤ a ∧ a ≤ 65535) ∧ 0 ≤ b ∧ b ≤ 65535) → carillonref08_Fault.j0 (K + 1) a b true = some (fltT a b) := by
    intro h
    rw [carillonref08_Fault.j0, if_pos rfl]
    unfold fltT
    rw [if_neg h]
  unfold carillonref08_Fault.f
  by_cases h0 : a < 0
  · rw [if_pos h0]; exact no (by omega)
  rw [if_neg h0]
  by_cases h1 : a > 65535
  · rw [if_pos h1]; exact no (by omega)
  rw [if_neg h1]
  by_cases h2 : b < 0
  · rw [if_pos h2]; exact no (by omega)
  rw [if_neg h2]
  by_cases h3 : b > 65535
  · rw [decide_eq_true h3]; exact no (by omega)
  rw [decide_eq_false h3, carillonref08_Fault.j0, if_neg Bool.false_ne_true, rput2 _ K (by omega), Option.bind_some, rput2 _ K (by omega), Option.bind_some, if_pos (by simp only [enc_length]; omega), Option.bind_some, Option.bind_some, if_pos (by simp only [enc_length, List.length_append, List.length_cons, List.length_nil]; omega)]
  unfold fltT
  rw [if_pos ⟨by omega, by omega⟩]
  rfl
def idsOf (l : List Int) : Nat → Int → List Int → List Int
  | 0, _, acc => acc
  | n + 1, i, acc => if i < (l.length : Int) then idsOf l n (i + 8) (acc ++ [(if has l i 8 then (dec (cut l i 8), true) else (0, false)).1]) else acc
theorem tpo_from (t : Int) (d : ByteArray) (hd : d.size ≤ 128) (K : Nat) (hK : 9 < K) : ∀ (n : Nat) (i : Int) (acc : List Int), 0 ≤ i → i ≤ 135 → 136 ≤ i + 8 * n → acc.length ≤ i → tlv_PathOf.l1 K n t d acc i = some (idsOf (bytesOf d) n i acc, true) := by
  intro n
  induction n with
  | zero => intro i acc _ h1 h2; omega
  | succ n ih =>
    intro i acc h0 h1 h2 h3
    rw [tlv_PathOf.l1, idsOf, bytesOf_length]
    by_cases h : i < (d.size : Int)
    · rw [if_pos h, if_pos h, if_pos (by omega), getId_of _ (bytes_by d) (by rw [bytesOf_length]; omega) i (by omega) K (by omega), Option.bind_some, if_pos (by simp only [List.length_singleton]; omega), wq _ (by omega)]
      exact ih _ _ (by omega) (by omega) (by omega) (by simp only [List.length_append, List.length_singleton]; omega)
    · rw [if_neg h, if_neg h]
theorem rtpo_from (t : Int) (d : ByteArray) (hd : d.size ≤ 128) (K : Nat) (hK : 9 < K) : ∀ (n : Nat) (i : Int) (acc : List Int), 0 ≤ i → i ≤ 135 → 136 ≤ i + 8 * n → acc.length ≤ i → carillonref08_PathOf.l1 K n t d acc i = some (idsOf (bytesOf d) n i acc, true) := by
  intro n
  induction n with
  | zero => intro i acc _ h1 h2; omega
  | succ n ih =>
    intro i acc h0 h1 h2 h3
    rw [carillonref08_PathOf.l1, idsOf, bytesOf_length]
    by_cases h : i < (d.size : Int)
    · rw [if_pos h, if_pos h, if_pos (by omega), rid_of _ (bytes_by d) (by rw [bytesOf_length]; omega) i K (by omega), Option.bind_some, if_pos (by simp only [List.length_singleton]; omega), wq _ (by omega)]
      exact ih _ _ (by omega) (by omega) (by omega) (by simp only [List.length_append, List.length_singleton]; omega)
    · rw [if_neg h, if_neg h]
def pathOf (k : Nat) (t : Int) (d : ByteArray) : List Int × Bool := if t = 8 ∧ knT t d.size = true then (idsOf (bytesOf d) k 0 [], true) else ([], false)
theorem idsOf_len (l : List Int) : ∀ (n : Nat) (i : Int) (acc : List Int), 0 ≤ i → 8 * (idsOf l n i acc).length ≤ 8 * acc.length + (l.length - i).toNat + 7 := by
  intro n
  induction n with
  | zero => intro i acc h; simp only [idsOf]; omega
  | succ n ih =>
    intro i acc h
    rw [idsOf]
    split
    · have := ih (i + 8) (acc ++ [(if has l i 8 then (dec (cut l i 8), true) else (0, false)).1]) (by omega)
      simp only [List.length_append, List.length_singleton] at this
      omega
    · omega
theorem kn8 {s : Nat} (h : knT 8 s = true) : s % 8 = 0 ∧ s ≤ 128 := by
  unfold knT at h
  simpa using h
theorem kn1 {s : Nat} (h : knT 1 s = true) : 2 ≤ s := by
  unfold knT at h
  simpa using h
theorem kn2 {s : Nat} (h : knT 2 s = true) : 8 ≤ s := by
  unfold knT at h
  simpa using h
theorem tpo_of (t : Int) (d : ByteArray) (k : Nat) (hk : 20 < k) : tlv_PathOf.f k t d = some (pathOf k t d) := by
  unfold tlv_PathOf.f pathOf
  by_cases h : t = 8
  · rw [if_pos h, known_of, Option.bind_some]
    by_cases h2 : knT t d.size = true
    · rw [if_pos h2, if_pos ⟨h, h2⟩]
      rw [h] at h2
      exact tpo_from t d (kn8 h2).2 k (by omega) k 0 [] (by omega) (by omega) (by omega) (by simp)
    · rw [if_neg h2, if_neg (fun e => h2 e.2)]
  · rw [if_neg h, if_neg (fun e => h e.1)]
theorem rtpo_of (t : Int) (d : ByteArray) (k : Nat) (hk : 20 < k) : carillonref08_PathOf.f k t d = some (pathOf k t d) := by
  unfold carillonref08_PathOf.f pathOf
  by_cases h : t = 8
  · rw [if_pos h, rknown_of, Option.bind_some]
    by_cases h2 : knT t d.size = true
    · rw [if_pos h2, if_pos ⟨h, h2⟩]
      rw [h] at h2
      exact rtpo_from t d (kn8 h2).2 k (by omega) k 0 [] (by omega) (by omega) (by omega) (by simp)
    · rw [if_neg h2, if_neg (fun e => h2 e.2)]
  · rw [if_neg h, if_neg (fun e => h e.1)]
theorem pathOf_len (k : Nat) (t : Int) (d : ByteArray) : (pathOf k t d).1.length ≤ 20 := by
  unfold pathOf
  split
  · next h =>
    have h8 := h.2
    rw [h.1] at h8
    have := kn8 h8
    have h2 := idsOf_len (bytesOf d) k 0 [] (by omega)
    rw [bytesOf_length] at h2
    simp only [List.length_nil] at h2
    show (idsOf (bytesOf d) k 0 []).length ≤ 20
    omega
  · simp
def manOf (t : Int) (d : ByteArray) : Int × ByteArray × Bool := if t = 1 ∧ knT t d.size = true then (dec (cut (bytesOf d) 0 2), d.extract (2 : Int).toNat ((d.size : Int) : Int).toNat, true) else (0, (⟨#[]⟩ : ByteArray), false)
def fltOf (t : Int) (d : ByteArray) : Int × Int × Bool := if t = 2 ∧ knT t d.size = true then (dec (cut (bytesOf d) 0 2), dec (cut (bytesOf d) 2 2), true) else (0, 0, false)
theorem tmo_of (t : Int) (d : ByteArray) (hd : d.size ≤ 4611686018427387904) (k : Nat) (hk : 20 < k) : tlv_ManageOf.f k t d = some (manOf t d) := by
  unfold tlv_ManageOf.f manOf
  by_cases h : t = 1
  · rw [if_pos h, known_of, Option.bind_some]
    by_cases h2 : knT t d.size = true
    · rw [if_pos h2, if_pos (show t = 1 ∧ knT t d.size = true from ⟨h, h2⟩), if_pos (show d.size ≤ 9223372036854775807 by omega)]
      rw [h] at h2
      have := kn1 h2
      rw [get_yes _ (bytes_by d) (by rw [bytesOf_length]; omega) 0 2 (by unfold has; rw [bytesOf_length]; omega) (by omega) (by omega) k (by omega), Option.bind_some, if_pos (by omega)]
    · rw [if_neg h2, if_neg (fun e => h2 e.2)]
  · rw [if_neg h, if_neg (fun e => h e.1)]
theorem rtmo_of (t : Int) (d : ByteArray) (hd : d.size ≤ 4611686018427387904) (k : Nat) (hk : 20 < k) : carillonref08_ManageOf.f k t d = some (manOf t d) := by
  obtain ⟨k, rfl⟩ : ∃ j, k = j + 1 := ⟨k - 1, by omega⟩
  unfold carillonref08_ManageOf.f manOf
  by_cases h : t = 1
  · rw [if_pos h, rknown_of, Option.bind_some]
    by_cases h2 : knT t d.size = true
    · rw [if_pos h2, if_pos (show t = 1 ∧ knT t d.size = true from ⟨h, h2⟩), if_pos (show d.size ≤ 9223372036854775807 by omega)]
      rw [h] at h2
      have := kn1 h2
      rw [rget_yes _ (bytes_by d) (by rw [bytesOf_length]; omega) 0 2 (by unfold has; rw [bytesOf_length]; omega) (by omega) (by omega) k (by omega), Option.bind_some, if_pos (by omega)]
    · rw [if_neg h2, if_neg (fun e => h2 e.2)]
  · rw [if_neg h, if_neg (fun e => h e.1)]
theorem tfo_of (t : Int) (d : ByteArray) (hd : d.size ≤ 4611686018427387904) (k : Nat) (hk : 20 < k) : tlv_FaultOf.f k t d = some (fltOf t d) := by
  unfold tlv_FaultOf.f fltOf
  by_cases h : t = 2
  · rw [if_pos h, known_of, Option.bind_some]
    by_cases h2 : knT t d.size = true
    · rw [if_pos h2, if_pos (show t = 2 ∧ knT t d.size = true from ⟨h, h2⟩), if_pos (show d.size ≤ 9223372036854775807 by omega)]
      rw [h] at h2
      have := kn2 h2
      rw [get_yes _ (bytes_by d) (by rw [bytesOf_length]; omega) 0 2 (by unfold has; rw [bytesOf_length]; omega) (by omega) (by omega) k (by omega), Option.bind_some, get_yes _ (bytes_by d) (by rw [bytesOf_length]; omega) 2 2 (by unfold has; rw [bytesOf_length]; omega) (by omega) (by omega) k (by omega), Option.bind_some]
    · rw [if_neg h2, if_neg (fun e => h2 e.2)]
  · rw [if_neg h, if_neg (fun e => h e.1)]
theorem rtfo_of (t : Int) (d : ByteArray) (hd : d.size ≤ 4611686018427387904) (k : Nat) (hk : 20 < k) : carillonref08_FaultOf.f k t d = some (fltOf t d) := by
  obtain ⟨k, rfl⟩ : ∃ j, k = j + 1 := ⟨k - 1, by omega⟩
  unfold carillonref08_FaultOf.f fltOf
  by_cases h : t = 2
  · rw [if_pos h, rknown_of, Option.bind_some]
    by_cases h2 : knT t d.size = true
    · rw [if_pos h2, if_pos (show t = 2 ∧ knT t d.size = true from ⟨h, h2⟩), if_pos (show d.size ≤ 9223372036854775807 by omega)]
      rw [h] at h2
      have := kn2 h2
      rw [rget_yes _ (bytes_by d) (by rw [bytesOf_length]; omega) 0 2 (by unfold has; rw [bytesOf_length]; omega) (by omega) (by omega) k (by omega), Option.bind_some, rget_yes _ (bytes_by d) (by rw [bytesOf_length]; omega) 2 2 (by unfold has; rw [bytesOf_length]; omega) (by omega) (by omega) k (by omega), Option.bind_some]
    · rw [if_neg h2, if_neg (fun e => h2 e.2)]
  · rw [if_neg h, if_neg (fun e => h e.1)]
/-! ### Rows that are compared -/
theorem sameIds_from (l : List Int) (hl : l.length ≤ 4611686018427387904) : ∀ (q p : List Int) (k : Nat), l = p ++ q → q.length < k → carillonlaw00_SameIds.l0 k l l (p.length : Int) = some true := by
  intro q
  induction q with
  | nil =>
    intro p k e hk
    obtain ⟨k, rfl⟩ : ∃ j, k = j + 1 := ⟨k - 1, by simp at hk; omega⟩
    rw [carillonlaw00_SameIds.l0, if_neg (by rw [e]; simp)]
  | cons x q ih =>
    intro p k e hk
    obtain ⟨k, rfl⟩ : ∃ j, k = j + 1 := ⟨k - 1, by simp at hk; omega⟩
    have hlen : l.length = p.length + (q.length + 1) := by rw [e]; simp
    have hw : wrap64 ((p.length : Int) + 1) = ((p ++ [x]).length : Int) := by rw [wq _ (by omega)]; simp
    rw [carillonlaw00_SameIds.l0, if_pos (by omega), if_pos (by omega), if_pos (by omega), if_pos rfl, hw]
    exact ih (p ++ [x]) k (by rw [e]; simp) (by simp at hk; omega)
theorem sameIds_self (l : List Int) (hl : l.length ≤ 4611686018427387904) (k : Nat) (hk : l.length < k) : carillonlaw00_SameIds.f k l l = some true := by
  unfold carillonlaw00_SameIds.f
  rw [if_pos rfl]
  exact sameIds_from l hl l [] k rfl hk
/-! ### What is put is got -/
theorem awake_of (k : Nat) (hk : 30 < k) : carillonlaw08_awake.f k = some true := by
  unfold carillonlaw08_awake.f
  rw [tpath_of _ k (by omega), Option.bind_some, tput_of [] (by simp) _ k (by omega), Option.bind_some]
  have e1 : pathT [1] = (8, strOfNums (enc 1 8), true) := by decide +kernel
  rw [e1]
  have e2 : okl [(⟨8, strOfNums (enc 1 8)⟩ : S26)] = true := by decide +kernel
  rw [e2]
  decide +kernel
end Go.Proofs.Ytgmiokocipmbaaa.Tlv
