/- What the functions on TLVs answer, in plain words: the given program's and the document's. -/
import Derived.Test.YtiomlbkakiienaaZzPx0
import Derived.Test.YtiomlbkakiienaaZzPx3
import Derived.Test.YtiomlbkakiienaaZzPx6
import Derived.Test.YtiomlbkakiienaaZzLib
import Derived.Test.YtiomlbkakiienaaZzOct
import Derived.Test.YtiomlbkakiienaaZzRef
namespace Go.Proofs.Ytiomlbkakiienaa.Tlv
open Go.RowKit Go.Proofs.Ytiomlbkakiienaa.P Go.Proofs.Ytiomlbkakiienaa.Lib Go.Proofs.Ytiomlbkakiienaa.Oct Go.Proofs.Ytiomlbkakiienaa.Ref Go.Proofs.YtiomlbkakiienaaW.PrintWords Go.Proofs.YtiomlbkakiienaaW.PrintLast Go.Proofs.YtiomlbkakiienaaW.PrintMore
theorem dd {p q : Prop} [Decidable p] [Decidable q] (h : p ↔ q) : some (decide p) = some (decide q) := by rw [decide_eq_decide.2 h]
theorem bytes_by (s : ByteArray) : By (bytesOf s) := fun x hx => by
  unfold bytesOf at hx
  obtain ⟨b, _, rfl⟩ := List.mem_map.1 hx
  have := b.toNat_lt
  omega
theorem str_bytes (s : ByteArray) : strOfNums (bytesOf s) = s := by
  unfold strOfNums bytesOf
  rw [List.map_map]
  have : (fun n : Int => UInt8.ofNat n.toNat) ∘ (fun b : UInt8 => (b.toNat : Int)) = id := by
    funext b
    simp
  rw [this, List.map_id]
theorem bytes_str {l : List Int} (h : By l) : bytesOf (strOfNums l) = l := by
  unfold strOfNums bytesOf
  simp only [List.map_map]
  conv => rhs; rw [← List.map_id l]
  apply List.map_congr_left
  intro x hx
  have := h x hx
  simp only [Function.comp_apply, id]
  rw [UInt8.toNat_ofNat', show (2 : Nat) ^ 8 = 256 from rfl]
  omega
theorem wq (x : Int) (h : -9223372036854775808 ≤ x ∧ x ≤ 9223372036854775807) : wrap64 x = x := by unfold wrap64; omega
def okT (t : Int) (d : ByteArray) : Bool := decide (0 ≤ t ∧ t ≤ 65535 ∧ d.size % 2 = 0 ∧ d.size ≤ 400)
theorem tin_of (v a b : Int) : tlv_in.f v a b = some (decide (a ≤ v ∧ v ≤ b)) := by
  unfold tlv_in.f
  by_cases h : v ≥ a
  · rw [if_pos h]; exact dd (by omega)
  · rw [if_neg h, decide_eq_false (by omega)]
theorem tcheck_of (t : Int) (d : ByteArray) : tlv_Check.f t d = some (okT t d) := by
  unfold tlv_Check.f okT
  rw [tin_of, Option.bind_some]
  by_cases h : 0 ≤ t ∧ t ≤ 65535
  · rw [if_pos (decide_eq_true h)]
    by_cases h2 : ((d.size : Int) % 2) = 0
    · rw [if_pos h2]; exact dd (by omega)
    · rw [if_neg h2, decide_eq_false (by omega)]
  · rw [if_neg (by simpa using h), decide_eq_false (by omega)]
theorem rtcheck_of (t : Int) (d : ByteArray) : carillonref08_Check.f t d = some (okT t d) := by
  unfold carillonref08_Check.f okT
  by_cases h : t ≥ 0
  · rw [if_pos h]
    by_cases h1 : t ≤ 65535
    · rw [if_pos h1]
      by_cases h2 : ((d.size : Int) % 2) = 0
      · rw [if_pos h2]; exact dd (by omega)
      · rw [if_neg h2, decide_eq_false (by omega)]
    · rw [if_neg h1, decide_eq_false (by omega)]
  · rw [if_neg h, decide_eq_false (by omega)]
def enc1 (x : S43) : List Int := enc x.f0 2 ++ (enc (x.f1.size : Int) 2 ++ bytesOf x.f1)
def encs (l : List S43) : List Int := l.flatMap enc1
def oks (l : List S43) : Bool := l.all fun x => okT x.f0 x.f1
def okl (l : List S43) : Bool := decide (l.length ≤ 8) && oks l
theorem enc1_length (x : S43) : (enc1 x).length = 4 + x.f1.size := by
  simp only [enc1, List.length_append, enc_length, bytesOf_length]
  omega
theorem encs_cons (x : S43) (l : List S43) : encs (x :: l) = enc1 x ++ encs l := by simp [encs]
theorem encs_nil : encs [] = [] := rfl
theorem oks_cons (x : S43) (l : List S43) : oks (x :: l) = (okT x.f0 x.f1 && oks l) := by simp [oks]
theorem enc1_by (x : S43) : By (enc1 x) := (enc_by _ _).app ((enc_by _ _).app (bytes_by _))
theorem encs_by : ∀ l : List S43, By (encs l)
  | [] => By.nil
  | x :: l => by rw [encs_cons]; exact (enc1_by x).app (encs_by l)
theorem okT_size {t : Int} {d : ByteArray} (h : okT t d = true) : 0 ≤ t ∧ t ≤ 65535 ∧ d.size % 2 = 0 ∧ d.size ≤ 400 := of_decide_eq_true h
theorem encs_length : ∀ l : List S43, oks l = true → (encs l).length ≤ 404 * l.length
  | [], _ => by simp [encs]
  | x :: l, h => by
    rw [oks_cons, Bool.and_eq_true] at h
    have := encs_length l h.2
    have := okT_size h.1
    rw [encs_cons, List.length_append, enc1_length, List.length_cons]
    omega
theorem rd_at (p : List S43) (x : S43) (q : List S43) : rd_T43 (p ++ x :: q) (p.length : Int) = x := by simp [rd_T43, List.getD]
theorem tput_from (K : Nat) (y0 : List Int) : ∀ (q p : List S43) (acc : List Int) (k : Nat), q.length < k → (p ++ q).length ≤ 1000 → acc.length + 404 * q.length ≤ 140737488355000 →
    tlv_Put.l1 K k y0 acc (p ++ q) ((p ++ q).length : Int) (p.length : Int) = some (if oks q = true then (acc ++ encs q, true) else (y0, false)) := by
  intro q
  induction q with
  | nil =>
    intro p acc k hk _ _
    obtain ⟨k, rfl⟩ : ∃ j, k = j + 1 := ⟨k - 1, by simp at hk; omega⟩
    rw [tlv_Put.l1, if_neg (by simp), if_pos (show oks [] = true from rfl), encs_nil, List.append_nil]
  | cons x q ih =>
    intro p acc k hk hp ha
    obtain ⟨k, rfl⟩ : ∃ j, k = j + 1 := ⟨k - 1, by simp at hk; omega⟩
    simp only [List.length_append, List.length_cons] at hk hp ha
    have hw : wrap64 ((p.length : Int) + 1) = ((p ++ [x]).length : Int) := by rw [wq _ (by omega)]; simp
    rw [tlv_Put.l1, if_pos (by simp only [List.length_append, List.length_cons]; omega), if_pos (by omega), if_pos (by simp only [List.length_append, List.length_cons]; omega), rd_at, tcheck_of, Option.bind_some, oks_cons, hw]
    cases h : okT x.f0 x.f1 with
    | false => rw [if_neg Bool.false_ne_true, Bool.false_and, if_neg Bool.false_ne_true]
    | true =>
      have hs := okT_size h
      rw [if_pos rfl, Bool.true_and, put2 _ _ (by omega), Option.bind_some, put2 _ _ (by simp only [List.length_append, enc_length]; omega), Option.bind_some, if_pos (by simp only [List.length_append, enc_length]; omega)]
      have e := ih (p ++ [x]) (acc ++ enc x.f0 2 ++ enc (x.f1.size : Int) 2 ++ bytesOf x.f1) k (by omega) (by simp only [List.length_append, List.length_cons, List.length_nil]; omega) (by simp only [List.length_append, enc_length, bytesOf_length]; omega)
      rw [List.append_assoc p [x] q, List.singleton_append] at e
      rw [e, encs_cons]
      simp only [enc1, List.append_assoc]
theorem tput_of (l0 : List Int) (hl : l0.length ≤ 140737488351300) (l : List S43) (k : Nat) (hk : 8 < k) : tlv_Put.f k l0 l = some (if okl l = true then (l0 ++ encs l, true) else (l0, false)) := by
  unfold tlv_Put.f okl
  by_cases h : l.length ≤ 8
  · rw [if_neg (by omega), decide_eq_true h, Bool.true_and]
    exact tput_from k l0 l [] l0 k (by omega) (by simp; omega) (by omega)
  · rw [if_pos (by omega), decide_eq_false h, Bool.false_and, if_neg Bool.false_ne_true]
theorem rtput_from (K : Nat) (hK : 8 < K) : ∀ (q p : List S43) (acc : List Int) (k : Nat), q.length < k → (p ++ q).length ≤ 1000 → acc.length + 404 * q.length ≤ 140737488355000 →
    carillonref08_Put.l1 K k (p ++ q) acc (p.length : Int) = some (if oks q = true then (acc ++ encs q, true) else ([], false)) := by
  intro q
  induction q with
  | nil =>
    intro p acc k hk _ _
    obtain ⟨k, rfl⟩ : ∃ j, k = j + 1 := ⟨k - 1, by simp at hk; omega⟩
    rw [carillonref08_Put.l1, if_neg (by simp), if_pos (show oks [] = true from rfl), encs_nil, List.append_nil]
  | cons x q ih =>
    intro p acc k hk hp ha
    obtain ⟨k, rfl⟩ : ∃ j, k = j + 1 := ⟨k - 1, by simp at hk; omega⟩
    simp only [List.length_append, List.length_cons] at hk hp ha
    have hw : wrap64 ((p.length : Int) + 1) = ((p ++ [x]).length : Int) := by rw [wq _ (by omega)]; simp
    rw [carillonref08_Put.l1, if_pos (by simp only [List.length_append, List.length_cons]; omega), if_pos (by omega), rd_at, rtcheck_of, Option.bind_some, oks_cons, hw]
    cases h : okT x.f0 x.f1 with
    | false => rw [if_neg Bool.false_ne_true, Bool.false_and, if_neg Bool.false_ne_true]
    | true =>
      have hs := okT_size h
      rw [if_pos rfl, Bool.true_and, rput2 _ _ hK, Option.bind_some, if_pos (by simp only [enc_length]; omega), rput2 _ _ hK, Option.bind_some, if_pos (by simp only [List.length_append, enc_length]; omega), if_pos (by simp only [List.length_append, enc_length]; omega)]
      have e := ih (p ++ [x]) (acc ++ enc x.f0 2 ++ enc (x.f1.size : Int) 2 ++ bytesOf x.f1) k (by omega) (by simp only [List.length_append, List.length_cons, List.length_nil]; omega) (by simp only [List.length_append, enc_length, bytesOf_length]; omega)
      rw [List.append_assoc p [x] q, List.singleton_append] at e
      rw [e, encs_cons]
      simp only [enc1, List.append_assoc]
theorem rtput_of (l : List S43) (k : Nat) (hk : 8 < k) : carillonref08_Put.f k l = some (if okl l = true then (encs l, true) else ([], false)) := by
  unfold carillonref08_Put.f okl
  by_cases h : l.length ≤ 8
  · rw [if_neg (by omega), decide_eq_true h, Bool.true_and]
    exact rtput_from k hk l [] [] k (by omega) (by simp; omega) (by simp; omega)
  · rw [if_pos (by omega), decide_eq_false h, Bool.false_and, if_neg Bool.false_ne_true]
def gets (l : List Int) : Nat → Int → List S43 → List S43 × Int
  | 0, _, acc => (acc, 0)
  | n + 1, a, acc => if a < (l.length : Int) then (if acc.length = 8 then ([], 7) else if (l.length : Int) - a < 4 then ([], 2) else if dec (cut l (a + 2) 2) > (l.length : Int) - a - 4 then ([], 2) else if dec (cut l (a + 2) 2) % 2 = 0 then gets l n (a + 4 + dec (cut l (a + 2) 2)) (acc ++ [⟨dec (cut l a 2), strOfNums (cut l (a + 4) (dec (cut l (a + 2) 2)))⟩]) else ([], 4)) else (acc, 0)
def few (l : List S43) : Bool := (l.all fun x => decide (x.f1.size ≤ 600)) && decide (l.length ≤ 20)
theorem few_len {l : List S43} (h : few l = true) : l.length ≤ 20 ∧ ∀ x ∈ l, x.f1.size ≤ 600 := by
  unfold few at h
  simp only [Bool.and_eq_true, decide_eq_true_eq, List.all_eq_true] at h
  exact ⟨h.2, h.1⟩
theorem dec_enc2 {v : Int} (h0 : 0 ≤ v) (h1 : v ≤ 65535) : dec (enc v 2) = v := by
  rw [dec_enc, show (256 : Int) ^ 2 = 65536 by decide]
  omega
theorem gets_step (p r : List Int) (x : S43) (hx : okT x.f0 x.f1 = true) (n : Nat) (acc : List S43) (ha : acc.length < 8) : gets (p ++ (enc1 x ++ r)) (n + 1) (p.length : Int) acc = gets (p ++ (enc1 x ++ r)) n ((p ++ enc1 x).length : Int) (acc ++ [x]) := by
  have hs := okT_size hx
  have hlen : (p ++ (enc1 x ++ r)).length = p.length + (4 + x.f1.size + r.length) := by rw [List.length_append, List.length_append, enc1_length]
  have c1 : cut (p ++ (enc1 x ++ r)) (p.length : Int) 2 = enc x.f0 2 := by
    have := cut_app p (enc x.f0 2) (enc (x.f1.size : Int) 2 ++ bytesOf x.f1 ++ r) (p.length : Int) 2 rfl (by rw [enc_length]; rfl)
    rw [← this]
    simp only [enc1, List.append_assoc]
  have c2 : cut (p ++ (enc1 x ++ r)) ((p.length : Int) + 2) 2 = enc (x.f1.size : Int) 2 := by
    have := cut_app (p ++ enc x.f0 2) (enc (x.f1.size : Int) 2) (bytesOf x.f1 ++ r) ((p.length : Int) + 2) 2 (by rw [List.length_append, enc_length]; omega) (by rw [enc_length]; rfl)
    rw [← this]
    simp only [enc1, List.append_assoc]
  have c3 : cut (p ++ (enc1 x ++ r)) ((p.length : Int) + 4) (x.f1.size : Int) = bytesOf x.f1 := by
    have := cut_app (p ++ enc x.f0 2 ++ enc (x.f1.size : Int) 2) (bytesOf x.f1) r ((p.length : Int) + 4) (x.f1.size : Int) (by simp only [List.length_append, enc_length]; omega) (by rw [bytesOf_length])
    rw [← this]
    simp only [enc1, List.append_assoc]
  rw [gets, c1, c2, dec_enc2 (by omega) (by omega), dec_enc2 hs.1 hs.2.1, c3, str_bytes, if_pos (by omega), if_neg (by omega), if_neg (by omega), if_neg (by omega), if_pos (by omega)]
  congr 1
  rw [List.length_append, enc1_length]
  omega
theorem gets_encs : ∀ (q : List S43) (p r : List Int) (n : Nat) (acc : List S43), oks q = true → acc.length + q.length ≤ 8 → gets (p ++ (encs q ++ r)) (n + q.length) (p.length : Int) acc = gets (p ++ (encs q ++ r)) n ((p ++ encs q).length : Int) (acc ++ q) := by
  intro q
  induction q with
  | nil =>
    intro p r n acc _ _
    simp [encs]
  | cons x q ih =>
    intro p r n acc hq ha
    rw [oks_cons, Bool.and_eq_true] at hq
    simp only [List.length_cons] at ha
    have e := gets_step p (encs q ++ r) x hq.1 (n + q.length) acc (by omega)
    have e2 := ih (p ++ enc1 x) r n (acc ++ [x]) hq.2 (by simp only [List.length_append, List.length_singleton]; omega)
    rw [encs_cons, List.length_cons, show n + (q.length + 1) = n + q.length + 1 by omega, List.append_assoc (enc1 x) (encs q) r, e]
    rw [List.append_assoc p (enc1 x) (encs q ++ r)] at e2
    rw [e2]
    simp only [List.append_assoc, List.cons_append, List.nil_append]
theorem gets_end (l : List Int) (n : Nat) (acc : List S43) : gets l (n + 1) (l.length : Int) acc = (acc, 0) := by
  rw [gets, if_neg (by omega)]
theorem gets_back (p : List Int) (q : List S43) (hq : okl q = true) (k : Nat) (hk : 9 < k) : gets (p ++ encs q) k (p.length : Int) [] = (q, 0) := by
  unfold okl at hq
  rw [Bool.and_eq_true, decide_eq_true_eq] at hq
  obtain ⟨n, rfl⟩ : ∃ n, k = (n + 1) + q.length := ⟨k - 1 - q.length, by omega⟩
  have := gets_encs q p [] (n + 1) [] hq.2 (by simp; omega)
  rw [List.append_nil] at this
  rw [this, gets_end, List.nil_append]
end Go.Proofs.Ytiomlbkakiienaa.Tlv
