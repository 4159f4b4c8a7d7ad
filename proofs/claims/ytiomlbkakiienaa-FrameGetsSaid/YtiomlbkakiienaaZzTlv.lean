/- What the functions on TLVs answer, in plain words: the given program's and the document's. -/
import Derived.Test.YtiomlbkakiienaaZzPx0
import Derived.Test.YtiomlbkakiienaaZzPx3
import Derived.Test.YtiomlbkakiienaaZzPx7
import Derived.Test.YtiomlbkakiienaaZzPx8
import Derived.Test.YtiomlbkakiienaaZzPx11
import Derived.Test.YtiomlbkakiienaaZzLib
import Derived.Test.YtiomlbkakiienaaZzOct
import Derived.Test.YtiomlbkakiienaaZzRef
namespace Go.Proofs.Ytiomlbkakiienaa.Tlv
open Go.RowKit Go.Proofs.Ytiomlbkakiienaa.P Go.Proofs.Ytiomlbkakiienaa.Lib Go.Proofs.Ytiomlbkakiienaa.Oct Go.Proofs.Ytiomlbkakiienaa.Ref Go.Proofs.YtiomlbkakiienaaW.PrintWords Go.Proofs.YtiomlbkakiienaaW.PrintLast Go.Proofs.YtiomlbkakiienaaW.PrintMore
theorem dd {p q : Prop} [Decidable p] [Decidable q] (h : p ↔ q) : some (decide p) = some (decide q) := by rw [decide_eq_decide.2 h]
theorem bytes_by (s : ByteArray) : By (bytesOf s) := fun x hx => by
  unfold bytesOf at hx
  obtain ⟨b, _, rfl⟩ := List.mem_map.1 hx
  have := b.toNat_lt
  omega
theorem str_bytes (s : ByteArray) : strOfNums (bytesOf s) = s := by
  unfold strOfNums bytesOf
  rw [List.map_map]
  have : (fun n : Int => UInt8.ofNat n.toNat) ∘ (fun b : UInt8 => (b.toNat : Int)) = id := by
    funext b
    simp
  rw [this, List.map_id]
theorem bytes_str {l : List Int} (h : By l) : bytesOf (strOfNums l) = l := by
  unfold strOfNums bytesOf
  simp only [List.map_map]
  conv => rhs; rw [← List.map_id l]
  apply List.map_congr_left
  intro x hx
  have := h x hx
  simp only [Function.comp_apply, id]
  rw [UInt8.toNat_ofNat', show (2 : Nat) ^ 8 = 256 from rfl]
  omega
theorem wq (x : Int) (h : -9223372036854775808 ≤ x ∧ x ≤ 9223372036854775807) : wrap64 x = x := by unfold wrap64; omega
theorem toList_data (s : ByteArray) : s.toList = s.data.toList := by
  have := Go.Proofs.Ytiomlbkakiienaa.Lib.str_list (bytesOf s)
  rw [str_bytes] at this
  rw [this]
  unfold u8s bytesOf
  rw [List.map_map]
  have h : (fun n : Int => UInt8.ofNat n.toNat) ∘ (fun b : UInt8 => (b.toNat : Int)) = id := by
    funext b
    simp
  rw [h, List.map_id]
def okT (t : Int) (d : ByteArray) : Bool := decide (0 ≤ t ∧ t ≤ 65535 ∧ d.size % 2 = 0 ∧ d.size ≤ 400)
def enc1 (x : S43) : List Int := enc x.f0 2 ++ (enc (x.f1.size : Int) 2 ++ bytesOf x.f1)
def encs (l : List S43) : List Int := l.flatMap enc1
def oks (l : List S43) : Bool := l.all fun x => okT x.f0 x.f1
def okl (l : List S43) : Bool := decide (l.length ≤ 8) && oks l
theorem enc1_length (x : S43) : (enc1 x).length = 4 + x.f1.size := by
  simp only [enc1, List.length_append, enc_length, bytesOf_length]
  omega
theorem encs_cons (x : S43) (l : List S43) : encs (x :: l) = enc1 x ++ encs l := by simp [encs]
theorem oks_cons (x : S43) (l : List S43) : oks (x :: l) = (okT x.f0 x.f1 && oks l) := by simp [oks]
theorem enc1_by (x : S43) : By (enc1 x) := (enc_by _ _).app ((enc_by _ _).app (bytes_by _))
theorem encs_by : ∀ l : List S43, By (encs l)
  | [] => By.nil
  | x :: l => by rw [encs_cons]; exact (enc1_by x).app (encs_by l)
theorem okT_size {t : Int} {d : ByteArray} (h : okT t d = true) : 0 ≤ t ∧ t ≤ 65535 ∧ d.size % 2 = 0 ∧ d.size ≤ 400 := of_decide_eq_true h
theorem encs_length : ∀ l : List S43, oks l = true → (encs l).length ≤ 404 * l.length
  | [], _ => by simp [encs]
  | x :: l, h => by
    rw [oks_cons, Bool.and_eq_true] at h
    have := encs_length l h.2
    have := okT_size h.1
    rw [encs_cons, List.length_append, enc1_length, List.length_cons]
    omega
theorem rd_at (p : List S43) (x : S43) (q : List S43) : rd_T43 (p ++ x :: q) (p.length : Int) = x := by simp [rd_T43, List.getD]
def gets (l : List Int) : Nat → Int → List S43 → List S43 × Int
  | 0, _, acc => (acc, 0)
  | n + 1, a, acc => if a < (l.length : Int) then (if acc.length = 8 then ([], 7) else if (l.length : Int) - a < 4 then ([], 2) else if dec (cut l (a + 2) 2) > (l.length : Int) - a - 4 then ([], 2) else if dec (cut l (a + 2) 2) % 2 = 0 then gets l n (a + 4 + dec (cut l (a + 2) 2)) (acc ++ [⟨dec (cut l a 2), strOfNums (cut l (a + 4) (dec (cut l (a + 2) 2)))⟩]) else ([], 4)) else (acc, 0)
theorem dec2 {l : List Int} (hb : By l) (a : Int) (h : has l a 2) : 0 ≤ dec (cut l a 2) ∧ dec (cut l a 2) ≤ 65535 := by
  have h1 := dec_range (cut_by hb a 2)
  rw [cut_length h] at h1
  have : (256 : Int) ^ (2 : Int).toNat = 65536 := by decide
  omega
theorem tget_from (l : List Int) (hb : By l) (hl : l.length ≤ 140737488355328) (K : Nat) (hK : 8 < K) : ∀ (n : Nat) (a : Int) (acc : List S43), 0 ≤ a → a ≤ (l.length : Int) → acc.length ≤ 8 → 9 - acc.length < n →
    tlv_Get.l1 K n l a acc 0 = some (gets l n a acc) := by
  intro n
  induction n with
  | zero => intro a acc _ _ h1 h2; omega
  | succ n ih =>
    intro a acc h0 h1 h8 hn
    rw [tlv_Get.l1, gets]
    by_cases hlt : a < (l.length : Int)
    · rw [if_pos hlt, if_pos hlt, wq (a + 2) (by omega)]
      by_cases h7 : acc.length = 8
      · rw [get_of l hb (by omega) (a + 2) 2 (by omega) (by omega) K hK, Option.bind_some, if_pos (show (acc.length : Int) = 8 by omega), if_pos h7]
      · rw [if_neg h7]
        by_cases h4 : (l.length : Int) - a < 4
        · rw [get_of l hb (by omega) (a + 2) 2 (by omega) (by omega) K hK, if_neg (show ¬ (1 ≤ (2 : Int) ∧ (2 : Int) ≤ 7 ∧ has l (a + 2) 2) by unfold has; omega), Option.bind_some, if_neg (show ¬ (acc.length : Int) = 8 by omega)]
          dsimp only
          rw [if_neg Bool.false_ne_true, if_pos h4]
        · have hh : has l (a + 2) 2 := by unfold has; omega
          have hd := dec2 hb (a + 2) hh
          rw [get_yes l hb (by omega) (a + 2) 2 hh (by omega) (by omega) K hK, Option.bind_some, if_neg (show ¬ (acc.length : Int) = 8 by omega)]
          dsimp only
          rw [if_pos rfl, if_neg h4, wq ((l.length : Int) - a) (by omega), wq ((l.length : Int) - a - 4) (by omega)]
          by_cases h5 : dec (cut l (a + 2) 2) > (l.length : Int) - a - 4
          · rw [if_pos h5, if_pos h5]
          · rw [if_neg h5, if_neg h5, tm _ _ (by omega), if_pos (Or.inl hd.1)]
            by_cases h6 : dec (cut l (a + 2) 2) % 2 = 0
            · rw [if_pos h6, if_pos h6, if_pos rfl, get_yes l hb (by omega) a 2 (by unfold has; omega) (by omega) (by omega) K hK, Option.bind_some, wq (a + 4) (by omega), wq (a + 4 + _) (by omega), wq (4 + _) (by omega), wq (a + (4 + _)) (by omega), if_pos (by omega), if_pos (by omega), if_pos (by omega), if_pos (by simp only [List.length_singleton]; omega), show a + (4 + dec (cut l (a + 2) 2)) = a + 4 + dec (cut l (a + 2) 2) by omega]
              exact ih _ _ (by omega) (by omega) (by simp only [List.length_append, List.length_singleton]; omega) (by simp only [List.length_append, List.length_singleton]; omega)
            · rw [if_neg h6, if_neg h6]
    · rw [if_neg hlt, if_neg hlt, if_pos rfl]
theorem tget_of (l : List Int) (hb : By l) (hl : l.length ≤ 140737488355328) (a : Int) (k : Nat) (hk : 9 < k) : tlv_Get.f k l a = some (if 0 ≤ a ∧ a ≤ (l.length : Int) then gets l k a [] else ([], 1)) := by
  unfold tlv_Get.f
  by_cases h0 : a < 0
  · rw [if_pos h0, if_neg (by omega)]
  · rw [if_neg h0]
    by_cases h1 : a > (l.length : Int)
    · rw [if_pos h1, if_neg (by omega)]
    · rw [if_neg h1, if_pos (by omega)]
      exact tget_from l hb hl k (by omega) k a [] (by omega) (by omega) (by simp) (by simp; omega)
theorem tget_in (l : List Int) (hb : By l) (hl : l.length ≤ 140737488355328) (a : Int) (h0 : 0 ≤ a) (h1 : a ≤ (l.length : Int)) (k : Nat) (hk : 9 < k) : tlv_Get.f k l a = some (gets l k a []) := by
  rw [tget_of l hb hl a k hk, if_pos ⟨h0, h1⟩]
theorem rget_yes (l : List Int) (hb : By l) (hl : l.length ≤ 4611686018427387904) (a n : Int) (h : has l a n) (h1 : 1 ≤ n) (h7 : n ≤ 7) (K : Nat) (hK : 8 < K) : carillonref01_Get.f (K + 1) l a n = some (dec (cut l a n), true) := by
  rw [rget_of l hb hl a n (by omega) K hK, if_pos ⟨h1, h7, h⟩]
theorem rtget_from (l : List Int) (hb : By l) (hl : l.length ≤ 140737488355328) (K : Nat) (hK : 9 < K) : ∀ (n : Nat) (a : Int) (acc : List S43), 0 ≤ a → a ≤ (l.length : Int) → acc.length ≤ 8 → 9 - acc.length < n →
    carillonref08_Get.l1 K n l a acc = some (gets l n a acc) := by
  intro n
  obtain ⟨K, rfl⟩ : ∃ j, K = j + 1 := ⟨K - 1, by omega⟩
  induction n with
  | zero => intro a acc _ _ h1 h2; omega
  | succ n ih =>
    intro a acc h0 h1 h8 hn
    rw [carillonref08_Get.l1, gets]
    by_cases hlt : a < (l.length : Int)
    · rw [if_pos hlt, if_pos hlt]
      by_cases h7 : acc.length = 8
      · rw [if_pos (by omega), if_pos h7]
      · rw [if_neg (by omega), if_neg h7, wq ((l.length : Int) - a) (by omega)]
        by_cases h4 : (l.length : Int) - a < 4
        · rw [if_pos h4, if_pos h4]
        · have hh : has l (a + 2) 2 := by unfold has; omega
          have hd := dec2 hb (a + 2) hh
          rw [if_neg h4, if_neg h4, wq (a + 2) (by omega), rget_yes l hb (by omega) a 2 (by unfold has; omega) (by omega) (by omega) K (by omega), Option.bind_some, rget_yes l hb (by omega) (a + 2) 2 hh (by omega) (by omega) K (by omega), Option.bind_some]
          dsimp only
          rw [wq ((l.length : Int) - a - 4) (by omega)]
          by_cases h5 : dec (cut l (a + 2) 2) > (l.length : Int) - a - 4
          · rw [if_pos h5, if_pos h5]
          · rw [if_neg h5, if_neg h5, tm _ _ (by omega), if_pos (Or.inl hd.1)]
            by_cases h6 : dec (cut l (a + 2) 2) % 2 = 0
            · rw [if_pos h6, if_pos h6, wq (a + 4) (by omega), wq (a + 4 + _) (by omega), if_pos (by omega), if_pos (by omega), if_pos (by omega), if_pos (by simp only [List.length_singleton]; omega)]
              exact ih _ _ (by omega) (by omega) (by simp only [List.length_append, List.length_singleton]; omega) (by simp only [List.length_append, List.length_singleton]; omega)
            · rw [if_neg h6, if_neg h6]
    · rw [if_neg hlt, if_neg hlt]
theorem rtget_of (l : List Int) (hb : By l) (hl : l.length ≤ 140737488355328) (a : Int) (k : Nat) (hk : 9 < k) : carillonref08_Get.f k l a = some (if 0 ≤ a ∧ a ≤ (l.length : Int) then gets l k a [] else ([], 1)) := by
  unfold carillonref08_Get.f
  by_cases h0 : a < 0
  · rw [if_pos h0, if_neg (by omega)]
  · rw [if_neg h0]
    by_cases h1 : a > (l.length : Int)
    · rw [if_pos h1, if_neg (by omega)]
    · rw [if_neg h1, if_pos (by omega)]
      exact rtget_from l hb hl k hk k a [] (by omega) (by omega) (by simp) (by simp; omega)
def few (l : List S43) : Bool := (l.all fun x => decide (x.f1.size ≤ 600)) && decide (l.length ≤ 20)
theorem few_len {l : List S43} (h : few l = true) : l.length ≤ 20 ∧ ∀ x ∈ l, x.f1.size ≤ 600 := by
  unfold few at h
  simp only [Bool.and_eq_true, decide_eq_true_eq, List.all_eq_true] at h
  exact ⟨h.2, h.1⟩
theorem same_from (l m : List S43) (hl : l.length ≤ 4611686018427387904) (hm : l.length = m.length) : ∀ (q p s : List S43) (k : Nat), l = p ++ q → m = p ++ s → q.length < k → ∃ b : Bool, carillonlaw00_SameTlvs.l0 k l m (p.length : Int) = some b ∧ (b = true ↔ q = s) := by
  intro q
  induction q with
  | nil =>
    intro p s k e e2 hk
    obtain ⟨k, rfl⟩ : ∃ j, k = j + 1 := ⟨k - 1, by simp at hk; omega⟩
    rw [carillonlaw00_SameTlvs.l0, if_neg (by rw [e]; simp)]
    refine ⟨true, rfl, fun _ => ?_, fun _ => rfl⟩
    rw [e, e2] at hm
    simp only [List.length_append, List.length_nil] at hm
    exact (List.length_eq_zero_iff.1 (by omega)).symm
  | cons x q ih =>
    intro p s k e e2 hk
    obtain ⟨k, rfl⟩ : ∃ j, k = j + 1 := ⟨k - 1, by simp at hk; omega⟩
    have hlen : l.length = p.length + (q.length + 1) := by rw [e]; simp
    cases s with
    | nil =>
      exfalso
      rw [e2] at hm
      simp at hm
      omega
    | cons y s =>
      have hw : wrap64 ((p.length : Int) + 1) = ((p ++ [x]).length : Int) := by rw [wq _ (by omega)]; simp
      have hx : rd_T43 l (p.length : Int) = x := by rw [e]; exact rd_at p x q
      have hy : rd_T43 m (p.length : Int) = y := by rw [e2]; exact rd_at p y s
      rw [carillonlaw00_SameTlvs.l0, if_pos (by omega), if_pos (by omega), if_pos (by omega), hw, hx, hy]
      by_cases h : x.f0 = y.f0 ∧ x.f1.toList = y.f1.toList
      · have exy : x = y := by
          obtain ⟨x0, x1⟩ := x
          obtain ⟨y0, y1⟩ := y
          simp only at h
          obtain ⟨h1, h2⟩ := h
          subst h1
          congr 1
          rw [← str_bytes x1, ← str_bytes y1]
          congr 1
          unfold bytesOf
          have : x1.data.toList = y1.data.toList := by
            have hx1 : x1.toList = x1.data.toList := Go.Proofs.Ytiomlbkakiienaa.Tlv.toList_data x1
            have hy1 : y1.toList = y1.data.toList := Go.Proofs.Ytiomlbkakiienaa.Tlv.toList_data y1
            rw [← hx1, ← hy1, h2]
          rw [this]
        subst exy
        rw [if_neg (by simp)]
        obtain ⟨b, hb, hb2⟩ := ih (p ++ [x]) s k (by rw [e]; simp) (by rw [e2]; simp) (by simp at hk; omega)
        exact ⟨b, hb, hb2.trans (by simp)⟩
      · refine ⟨false, ?_, fun hc => (by cases hc), fun hc => ?_⟩
        · rw [if_pos]
          by_cases h1 : x.f0 = y.f0
          · have h2 : ¬ x.f1.toList = y.f1.toList := fun e => h ⟨h1, e⟩
            simp [h1, h2]
          · simp [h1]
        · obtain ⟨rfl, _⟩ := List.cons.inj hc
          exact absurd ⟨rfl, rfl⟩ h
theorem same_of (l m : List S43) (hl : l.length ≤ 4611686018427387904) (k : Nat) (hk : l.length < k) : ∃ b : Bool, carillonlaw00_SameTlvs.f k l m = some b ∧ (b = true ↔ l = m) := by
  unfold carillonlaw00_SameTlvs.f
  by_cases h : (l.length : Int) = (m.length : Int)
  · rw [if_pos h]
    exact same_from l m hl (by omega) l [] m k rfl rfl hk
  · rw [if_neg h]
    exact ⟨false, rfl, fun hc => (by cases hc), fun hc => absurd (by rw [hc]) h⟩
theorem same_self (l : List S43) (hl : l.length ≤ 4611686018427387904) (k : Nat) (hk : l.length < k) : carillonlaw00_SameTlvs.f k l l = some true := by
  obtain ⟨b, hb, hb2⟩ := same_of l l hl k hk
  rw [hb, hb2.2 rfl]
theorem dec_enc2 {v : Int} (h0 : 0 ≤ v) (h1 : v ≤ 65535) : dec (enc v 2) = v := by
  rw [dec_enc, show (256 : Int) ^ 2 = 65536 by decide]
  omega
theorem gets_step (p r : List Int) (x : S43) (hx : okT x.f0 x.f1 = true) (n : Nat) (acc : List S43) (ha : acc.length < 8) : gets (p ++ (enc1 x ++ r)) (n + 1) (p.length : Int) acc = gets (p ++ (enc1 x ++ r)) n ((p ++ enc1 x).length : Int) (acc ++ [x]) := by
  have hs := okT_size hx
  have hlen : (p ++ (enc1 x ++ r)).length = p.length + (4 + x.f1.size + r.length) := by rw [List.length_append, List.length_append, enc1_length]
  have c1 : cut (p ++ (enc1 x ++ r)) (p.length : Int) 2 = enc x.f0 2 := by
    have := cut_app p (enc x.f0 2) (enc (x.f1.size : Int) 2 ++ bytesOf x.f1 ++ r) (p.length : Int) 2 rfl (by rw [enc_length]; rfl)
    rw [← this]
    simp only [enc1, List.append_assoc]
  have c2 : cut (p ++ (enc1 x ++ r)) ((p.length : Int) + 2) 2 = enc (x.f1.size : Int) 2 := by
    have := cut_app (p ++ enc x.f0 2) (enc (x.f1.size : Int) 2) (bytesOf x.f1 ++ r) ((p.length : Int) + 2) 2 (by rw [List.length_append, enc_length]; omega) (by rw [enc_length]; rfl)
    rw [← this]
    simp only [enc1, List.append_assoc]
  have c3 : cut (p ++ (enc1 x ++ r)) ((p.length : Int) + 4) (x.f1.size : Int) = bytesOf x.f1 := by
    have := cut_app (p ++ enc x.f0 2 ++ enc (x.f1.size : Int) 2) (bytesOf x.f1) r ((p.length : Int) + 4) (x.f1.size : Int) (by simp only [List.length_append, enc_length]; omega) (by rw [bytesOf_length])
    rw [← this]
    simp only [enc1, List.append_assoc]
  rw [gets, c1, c2, dec_enc2 (by omega) (by omega), dec_enc2 hs.1 hs.2.1, c3, str_bytes, if_pos (by omega), if_neg (by omega), if_neg (by omega), if_neg (by omega), if_pos (by omega)]
  congr 1
  rw [List.length_append, enc1_length]
  omega
theorem gets_encs : ∀ (q : List S43) (p r : List Int) (n : Nat) (acc : List S43), oks q = true → acc.length + q.length ≤ 8 → gets (p ++ (encs q ++ r)) (n + q.length) (p.length : Int) acc = gets (p ++ (encs q ++ r)) n ((p ++ encs q).length : Int) (acc ++ q) := by
  intro q
  induction q with
  | nil =>
    intro p r n acc _ _
    simp [encs]
  | cons x q ih =>
    intro p r n acc hq ha
    rw [oks_cons, Bool.and_eq_true] at hq
    simp only [List.length_cons] at ha
    have e := gets_step p (encs q ++ r) x hq.1 (n + q.length) acc (by omega)
    have e2 := ih (p ++ enc1 x) r n (acc ++ [x]) hq.2 (by simp only [List.length_append, List.length_singleton]; omega)
    rw [encs_cons, List.length_cons, show n + (q.length + 1) = n + q.length + 1 by omega, List.append_assoc (enc1 x) (encs q) r, e]
    rw [List.append_assoc p (enc1 x) (encs q ++ r)] at e2
    rw [e2]
    simp only [List.append_assoc, List.cons_append, List.nil_append]
theorem gets_len (l : List Int) : ∀ (n : Nat) (a : Int) (acc : List S43), acc.length ≤ 8 → (gets l n a acc).1.length ≤ 8 := by
  intro n
  induction n with
  | zero => intro a acc h; exact h
  | succ n ih =>
    intro a acc h
    rw [gets]
    split
    · split
      · simp
      · split
        · simp
        · split
          · simp
          · split
            · exact ih _ _ (by simp only [List.length_append, List.length_singleton]; omega)
            · simp
    · exact h
theorem gets_end (l : List Int) (n : Nat) (acc : List S43) : gets l (n + 1) (l.length : Int) acc = (acc, 0) := by
  rw [gets, if_neg (by omega)]
theorem gets_back (p : List Int) (q : List S43) (hq : okl q = true) (k : Nat) (hk : 9 < k) : gets (p ++ encs q) k (p.length : Int) [] = (q, 0) := by
  unfold okl at hq
  rw [Bool.and_eq_true, decide_eq_true_eq] at hq
  obtain ⟨n, rfl⟩ : ∃ n, k = (n + 1) + q.length := ⟨k - 1 - q.length, by omega⟩
  have := gets_encs q p [] (n + 1) [] hq.2 (by simp; omega)
  rw [List.append_nil] at this
  rw [this, gets_end, List.nil_append]
end Go.Proofs.Ytiomlbkakiienaa.Tlv
