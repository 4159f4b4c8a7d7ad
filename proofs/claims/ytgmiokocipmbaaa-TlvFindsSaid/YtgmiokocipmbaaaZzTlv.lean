/- What the functions on TLVs answer, in plain words: the given program's and the document's. -/
import Derived.Test.YtgmiokocipmbaaaZzPx0
import Derived.Test.YtgmiokocipmbaaaZzPx1
import Derived.Test.YtgmiokocipmbaaaZzLib
import Derived.Test.YtgmiokocipmbaaaZzOct
namespace Go.Proofs.Ytgmiokocipmbaaa.Tlv
open Go.RowKit Go.Proofs.Ytgmiokocipmbaaa.P Go.Proofs.Ytgmiokocipmbaaa.Lib Go.Proofs.Ytgmiokocipmbaaa.Oct Go.Proofs.YtgmiokocipmbaaaW.PrintWords Go.Proofs.YtgmiokocipmbaaaW.PrintLast Go.Proofs.YtgmiokocipmbaaaW.PrintMore
theorem dd {p q : Prop} [Decidable p] [Decidable q] (h : p ↔ q) : some (decide p) = some (decide q) := by rw [decide_eq_decide.2 h]
theorem wq (x : Int) (h : -9223372036854775808 ≤ x ∧ x ≤ 9223372036854775807) : wrap64 x = x := by unfold wrap64; omega
def okT (t : Int) (d : ByteArray) : Bool := decide (0 ≤ t ∧ t ≤ 65535 ∧ d.size % 2 = 0 ∧ d.size ≤ 400)
theorem tin_of (v a b : Int) : tlv_in.f v a b = some (decide (a ≤ v ∧ v ≤ b)) := by
  unfold tlv_in.f
  by_cases h : v ≥ a
  · rw [if_pos h]; exact dd (by omega)
  · rw [if_neg h, decide_eq_false (by omega)]
theorem tcheck_of (t : Int) (d : ByteArray) : tlv_Check.f t d = some (okT t d) := by
  unfold tlv_Check.f okT
  rw [tin_of, Option.bind_some]
  by_cases h : 0 ≤ t ∧ t ≤ 65535
  · rw [if_pos (decide_eq_true h)]
    by_cases h2 : ((d.size : Int) % 2) = 0
    · rw [if_pos h2]; exact dd (by omega)
    · rw [if_neg h2, decide_eq_false (by omega)]
  · rw [if_neg (by simpa using h), decide_eq_false (by omega)]
def enc1 (x : S26) : List Int := enc x.f0 2 ++ (enc (x.f1.size : Int) 2 ++ bytesOf x.f1)
def encs (l : List S26) : List Int := l.flatMap enc1
def oks (l : List S26) : Bool := l.all fun x => okT x.f0 x.f1
def okl (l : List S26) : Bool := decide (l.length ≤ 8) && oks l
theorem enc1_length (x : S26) : (enc1 x).length = 4 + x.f1.size := by
  simp only [enc1, List.length_append, enc_length, bytesOf_length]
  omega
theorem encs_cons (x : S26) (l : List S26) : encs (x :: l) = enc1 x ++ encs l := by simp [encs]
theorem encs_nil : encs [] = [] := rfl
theorem oks_cons (x : S26) (l : List S26) : oks (x :: l) = (okT x.f0 x.f1 && oks l) := by simp [oks]
theorem okT_size {t : Int} {d : ByteArray} (h : okT t d = true) : 0 ≤ t ∧ t ≤ 65535 ∧ d.size % 2 = 0 ∧ d.size ≤ 400 := of_decide_eq_true h
theorem encs_length : ∀ l : List S26, oks l = true → (encs l).length ≤ 404 * l.length
  | [], _ => by simp [encs]
  | x :: l, h => by
    rw [oks_cons, Bool.and_eq_true] at h
    have := encs_length l h.2
    have := okT_size h.1
    rw [encs_cons, List.length_append, enc1_length, List.length_cons]
    omega
theorem rd_at (p : List S26) (x : S26) (q : List S26) : rd_T26 (p ++ x :: q) (p.length : Int) = x := by simp [rd_T26, List.getD]
theorem tput_from (K : Nat) (y0 : List Int) : ∀ (q p : List S26) (acc : List Int) (k : Nat), q.length < k → (p ++ q).length ≤ 1000 → acc.length + 404 * q.length ≤ 140737488355000 →
    tlv_Put.l1 K k y0 acc (p ++ q) ((p ++ q).length : Int) (p.length : Int) = some (if oks q = true then (acc ++ encs q, true) else (y0, false)) := by
  intro q
  induction q with
  | nil =>
    intro p acc k hk _ _
    obtain ⟨k, rfl⟩ : ∃ j, k = j + 1 := ⟨k - 1, by simp at hk; omega⟩
    rw [tlv_Put.l1, if_neg (by simp), if_pos (show oks [] = true from rfl), encs_nil, List.append_nil]
  | cons x q ih =>
    intro p acc k hk hp ha
    obtain ⟨k, rfl⟩ : ∃ j, k = j + 1 := ⟨k - 1, by simp at hk; omega⟩
    simp only [List.length_append, List.length_cons] at hk hp ha
    have hw : wrap64 ((p.length : Int) + 1) = ((p ++ [x]).length : Int) := by rw [wq _ (by omega)]; simp
    rw [tlv_Put.l1, if_pos (by simp only [List.length_append, List.length_cons]; omega), if_pos (by omega), if_pos (by simp only [List.length_append, List.length_cons]; omega), rd_at, tcheck_of, Option.bind_some, oks_cons, hw]
    cases h : okT x.f0 x.f1 with
    | false => rw [if_neg Bool.false_ne_true, Bool.false_and, if_neg Bool.false_ne_true]
    | true =>
      have hs := okT_size h
      rw [if_pos rfl, Bool.true_and, put2 _ _ (by omega), Option.bind_some, put2 _ _ (by simp only [List.length_append, enc_length]; omega), Option.bind_some, if_pos (by simp only [List.length_append, enc_length]; omega)]
      have e := ih (p ++ [x]) (acc ++ enc x.f0 2 ++ enc (x.f1.size : Int) 2 ++ bytesOf x.f1) k (by omega) (by simp only [List.length_append, List.length_cons, List.length_nil]; omega) (by simp only [List.length_append, enc_length, bytesOf_length]; omega)
      rw [List.append_assoc p [x] q, List.singleton_append] at e
      rw [e, encs_cons]
      simp only [enc1, List.append_assoc]
theorem tput_of (l0 : List Int) (hl : l0.length ≤ 140737488351300) (l : List S26) (k : Nat) (hk : 8 < k) : tlv_Put.f k l0 l = some (if okl l = true then (l0 ++ encs l, true) else (l0, false)) := by
  unfold tlv_Put.f okl
  by_cases h : l.length ≤ 8
  · rw [if_neg (by omega), decide_eq_true h, Bool.true_and]
    exact tput_from k l0 l [] l0 k (by omega) (by simp; omega) (by omega)
  · rw [if_pos (by omega), decide_eq_false h, Bool.false_and, if_neg Bool.false_ne_true]
def few (l : List S26) : Bool := (l.all fun x => decide (x.f1.size ≤ 600)) && decide (l.length ≤ 20)
theorem few_from (l : List S26) (hl : l.length ≤ 4611686018427387904) : ∀ (q p : List S26) (k : Nat), l = p ++ q → q.length < k → carillonlaw08_few.l0 k l (p.length : Int) = some ((q.all fun x => decide (x.f1.size ≤ 600)) && decide (l.length ≤ 20)) := by
  intro q
  induction q with
  | nil =>
    intro p k e hk
    obtain ⟨k, rfl⟩ : ∃ j, k = j + 1 := ⟨k - 1, by simp at hk; omega⟩
    rw [carillonlaw08_few.l0, if_neg (by rw [e]; simp)]
    simp only [List.all_nil, Bool.true_and]
    exact dd (by omega)
  | cons x q ih =>
    intro p k e hk
    obtain ⟨k, rfl⟩ : ∃ j, k = j + 1 := ⟨k - 1, by simp at hk; omega⟩
    have hlen : l.length = p.length + (q.length + 1) := by rw [e]; simp
    have hw : wrap64 ((p.length : Int) + 1) = ((p ++ [x]).length : Int) := by rw [wq _ (by omega)]; simp
    rw [carillonlaw08_few.l0, if_pos (by omega), if_pos (by omega), hw]
    have hx : rd_T26 l (p.length : Int) = x := by rw [e]; exact rd_at p x q
    rw [hx, List.all_cons]
    by_cases h : (x.f1.size : Int) > 600
    · rw [if_pos h, decide_eq_false (by omega), Bool.false_and, Bool.false_and]
    · rw [if_neg h, decide_eq_true (by omega), Bool.true_and]
      exact ih (p ++ [x]) k (by rw [e]; simp) (by simp at hk; omega)
theorem few_of (l : List S26) (hl : l.length ≤ 4611686018427387904) (k : Nat) (hk : l.length < k) : carillonlaw08_few.f k l = some (few l) := few_from l hl l [] k rfl hk
theorem few_len {l : List S26} (h : few l = true) : l.length ≤ 20 ∧ ∀ x ∈ l, x.f1.size ≤ 600 := by
  unfold few at h
  simp only [Bool.and_eq_true, decide_eq_true_eq, List.all_eq_true] at h
  exact ⟨h.2, h.1⟩
def findT (t : Int) : List S26 → Int × ByteArray × Bool
  | [] => (0, (⟨#[]⟩ : ByteArray), false)
  | x :: q => if x.f0 = t then (x.f0, x.f1, true) else findT t q
theorem tfind_from (t : Int) (l : List S26) (hl : l.length ≤ 4611686018427387904) : ∀ (q p : List S26) (k : Nat), l = p ++ q → q.length < k → tlv_Find.l0 k t l (l.length : Int) (p.length : Int) = some (findT t q) := by
  intro q
  induction q with
  | nil =>
    intro p k e hk
    obtain ⟨k, rfl⟩ : ∃ j, k = j + 1 := ⟨k - 1, by simp at hk; omega⟩
    rw [tlv_Find.l0, if_neg (by rw [e]; simp)]
    rfl
  | cons x q ih =>
    intro p k e hk
    obtain ⟨k, rfl⟩ : ∃ j, k = j + 1 := ⟨k - 1, by simp at hk; omega⟩
    have hlen : l.length = p.length + (q.length + 1) := by rw [e]; simp
    have hw : wrap64 ((p.length : Int) + 1) = ((p ++ [x]).length : Int) := by rw [wq _ (by omega)]; simp
    have hx : rd_T26 l (p.length : Int) = x := by rw [e]; exact rd_at p x q
    rw [tlv_Find.l0, if_pos (by omega), if_pos (by omega), if_pos (by omega), hw, hx, findT]
    by_cases h : x.f0 = t
    · rw [if_pos h, if_pos h]
    · rw [if_neg h, if_neg h]
      exact ih (p ++ [x]) k (by rw [e]; simp) (by simp at hk; omega)
theorem tfind_of (t : Int) (l : List S26) (hl : l.length ≤ 4611686018427387904) (k : Nat) (hk : l.length < k) : tlv_Find.f k l t = some (findT t l) := tfind_from t l hl l [] k rfl hk
def ids8 (l : List Int) : List Int := l.flatMap fun v => enc v 8
theorem ids8_cons (v : Int) (l : List Int) : ids8 (v :: l) = enc v 8 ++ ids8 l := by simp [ids8]
theorem rdi (p : List Int) (x : Int) (q : List Int) : rd (p ++ x :: q) (p.length : Int) = x := by simp [rd, List.getD]
def pathT (l : List Int) : Int × ByteArray × Bool := if l.length ≤ 16 then (8, strOfNums (ids8 l), true) else (0, (⟨#[]⟩ : ByteArray), false)
theorem tpath_from (l : List Int) (hl : l.length ≤ 16) : ∀ (q p acc : List Int) (k : Nat), l = p ++ q → q.length < k → acc.length + 8 * q.length ≤ 1000 → tlv_Path.l0 k acc l (l.length : Int) (p.length : Int) = some (8, strOfNums (acc ++ ids8 q), true) := by
  intro q
  induction q with
  | nil =>
    intro p acc k e hk _
    obtain ⟨k, rfl⟩ : ∃ j, k = j + 1 := ⟨k - 1, by simp at hk; omega⟩
    rw [tlv_Path.l0, if_neg (by rw [e]; simp)]
    simp [ids8]
  | cons x q ih =>
    intro p acc k e hk ha
    obtain ⟨k, rfl⟩ : ∃ j, k = j + 1 := ⟨k - 1, by simp at hk; omega⟩
    simp only [List.length_cons] at ha hk
    have hlen : l.length = p.length + (q.length + 1) := by rw [e]; simp
    have hw : wrap64 ((p.length : Int) + 1) = ((p ++ [x]).length : Int) := by rw [wq _ (by omega)]; simp
    have hx : rd l (p.length : Int) = x := by rw [e]; exact rdi p x q
    rw [tlv_Path.l0, if_pos (by omega), if_pos (by omega), if_pos (by omega), hw, hx, putId_of _ _ (by omega), Option.bind_some, ih (p ++ [x]) _ k (by rw [e]; simp) (by omega) (by simp only [List.length_append, enc_length]; omega), ids8_cons, List.append_assoc]
theorem tpath_of (l : List Int) (k : Nat) (hk : 16 < k) : tlv_Path.f k l = some (pathT l) := by
  unfold tlv_Path.f pathT
  by_cases h : l.length ≤ 16
  · rw [if_neg (by omega), if_pos h]
    have := tpath_from l h l [] [] k rfl (by omega) (by simp; omega)
    rwa [List.nil_append] at this
  · rw [if_pos (by omega), if_neg h]
theorem awake_of (k : Nat) (hk : 30 < k) : carillonlaw08_awake.f k = some true := by
  unfold carillonlaw08_awake.f
  rw [tpath_of _ k (by omega), Option.bind_some, tput_of [] (by simp) _ k (by omega), Option.bind_some]
  have e1 : pathT [1] = (8, strOfNums (enc 1 8), true) := by decide +kernel
  rw [e1]
  have e2 : okl [(⟨8, strOfNums (enc 1 8)⟩ : S26)] = true := by decide +kernel
  rw [e2]
  decide +kernel
end Go.Proofs.Ytgmiokocipmbaaa.Tlv
