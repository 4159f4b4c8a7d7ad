/- What says nothing may be anything, and what is not version 2, or of no type, is no header: for every message and any bytes. -/
import Derived.Test.YtcflafkafbpibaaPx7
import Derived.Test.YtcflafkafbpibaaHdw
namespace Go.Proofs.Ytcflafkafbpibaa.Pure
open Go.RowKit Go.Proofs.Ytcflafkafbpibaa.P Go.Proofs.Ytcflafkafbpibaa.Lib Go.Proofs.Ytcflafkafbpibaa.Oct Go.Proofs.Ytcflafkafbpibaa.Idt Go.Proofs.Ytcflafkafbpibaa.Ref Go.Proofs.Ytcflafkafbpibaa.Hdr Go.Proofs.YtcflafkafbpibaaW.PrintWords Go.Proofs.YtcflafkafbpibaaW.PrintLast Go.Proofs.YtcflafkafbpibaaW.PrintMore

theorem awake_true {k : Nat} (h : 50 ≤ k) : carillonlaw06_awake.f k = some true := at_rounds (g := fun k => carillonlaw06_awake.f k) (fun k => carillonlaw06_awake.mono k) h (by decide +kernel)
theorem cut_set (l : List Int) (i : Nat) (u a n : Int) (ha : 0 ≤ a) (_ : 0 ≤ n) (h : (i : Int) < a ∨ a + n ≤ i) : cut (l.set i u) a n = cut l a n := by
  unfold cut
  apply List.ext_getElem?
  intro j
  rw [List.getElem?_drop, List.getElem?_drop, List.getElem?_take, List.getElem?_take]
  split
  · rw [List.getElem?_set_ne (by omega)]
  · rfl
theorem rd_set (l : List Int) (i : Nat) (u j : Int) (h : i ≠ j.toNat) : rd (l.set i u) j = rd l j := by
  simp [rd, List.getElem?_set_ne h]
theorem rd_put (l : List Int) (u j : Int) (h : j.toNat < l.length) : rd (l.set j.toNat u) j = u := by
  simp [rd, h]
theorem By.put {l : List Int} (h : By l) (i : Nat) {u : Int} (hu : 0 ≤ u ∧ u ≤ 255) : By (l.set i u) := fun x hx => by
  rcases List.mem_or_eq_of_mem_set hx with h1 | rfl
  · exact h x h1
  · exact hu
theorem ver_of : ∀ n : Fin 256, Go.bits .or .u8 (Go.bits .and .u8 (n.val : Int) 240) 2 % 16 = 2 ∧ 0 ≤ Go.bits .or .u8 (Go.bits .and .u8 (n.val : Int) 240) 2 ∧ Go.bits .or .u8 (Go.bits .and .u8 (n.val : Int) 240) 2 ≤ 255 ∧ IntKind.u8.wrap (4 + Int.tmod (n.val : Int) 4) = 4 + (n.val : Int) % 4 := by decide +kernel
theorem ver (x : Int) (h : 0 ≤ x ∧ x ≤ 255) : Go.bits .or .u8 (Go.bits .and .u8 x 240) 2 % 16 = 2 ∧ 0 ≤ Go.bits .or .u8 (Go.bits .and .u8 x 240) 2 ∧ Go.bits .or .u8 (Go.bits .and .u8 x 240) 2 ≤ 255 ∧ IntKind.u8.wrap (4 + Int.tmod x 4) = 4 + x % 4 := by
  have := ver_of ⟨x.toNat, by omega⟩
  rw [show (((⟨x.toNat, by omega⟩ : Fin 256).val : Nat) : Int) = x by simp; omega] at this
  exact this
/-- What a header's bytes say, byte 0 and byte 1 aside. -/
structure Same (l m : List Int) : Prop where
  len : m.length = l.length
  r4 : rd m 4 = rd l 4
  c2 : cut m 2 2 = cut l 2 2
  c6 : cut m 6 2 = cut l 6 2
  c8 : cut m 8 8 = cut l 8 8
  c20 : cut m 20 8 = cut l 20 8
  c28 : cut m 28 2 = cut l 28 2
  c30 : cut m 30 2 = cut l 30 2
  c33 : cut m 33 1 = cut l 33 1
theorem Same.refl (l : List Int) : Same l l := ⟨rfl, rfl, rfl, rfl, rfl, rfl, rfl, rfl, rfl⟩
theorem Same.put {l m : List Int} (h : Same l m) (i : Nat) (u : Int) (hi : i = 0 ∨ i = 1 ∨ i = 5 ∨ i = 16 ∨ i = 19 ∨ i = 32) : Same l (m.set i u) :=
  ⟨by rw [List.length_set]; exact h.len, (rd_set _ _ _ _ (by omega)).trans h.r4, (cut_set _ _ _ _ _ (by omega) (by omega) (by omega)).trans h.c2, (cut_set _ _ _ _ _ (by omega) (by omega) (by omega)).trans h.c6,
   (cut_set _ _ _ _ _ (by omega) (by omega) (by omega)).trans h.c8, (cut_set _ _ _ _ _ (by omega) (by omega) (by omega)).trans h.c20, (cut_set _ _ _ _ _ (by omega) (by omega) (by omega)).trans h.c28, (cut_set _ _ _ _ _ (by omega) (by omega) (by omega)).trans h.c30, (cut_set _ _ _ _ _ (by omega) (by omega) (by omega)).trans h.c33⟩
theorem Same.get {l m : List Int} (h : Same l m) (h0 : rd m 0 = rd l 0) (h1 : rd m 1 % 16 = rd l 1 % 16) : hget m = hget l := by
  unfold hget
  rw [h.len, h.r4, h.c2, h.c6, h.c8, h.c20, h.c28, h.c30, h.c33, h0, h1]
theorem get_none {m : List Int} (hl : m.length = 34) (h : ¬ (kn (rd m 0) = true ∧ rd m 1 % 16 = 2)) : hget m = hz 4 := by
  unfold hget
  rw [if_neg (by omega), if_neg (fun q => h ⟨q.1, q.2.1⟩)]
set_option maxHeartbeats 4000000 in
theorem HeaderIgnores : carillonlaw06_HeaderIgnores.Pure := by
  intro m0 m1 m2 m3 m4 m5 m6 m7 m8 m9 m10 m11 m12 m13 m14 m15 m16 m17 m18 m19 m20 m21 m22 a b c v _ _ _ h3 h4 _ _ _ _ _ _ _ _ _ _ _ _ _ _ _ _ _ _ ha hb hc hv
  have h3 := wf64 h3
  have h4 := wfu64 h4
  have ha := wfu8 ha
  have hb := wfu8 hb
  have hc := wfu8 hc
  have hv := wfu8 hv
  obtain ⟨K, hK⟩ : ∃ K : Nat, 60 ≤ K := ⟨60, Nat.le_refl _⟩
  refine ⟨K + 2, ?_⟩
  have haw := awake_true (k := K + 2) (by omega)
  unfold carillonlaw06_HeaderIgnores.f
  rw [hPut_of, Option.bind_some, haw]
  have hn : within 34 34 400 = true := rfl
  by_cases h : hok m0 m1 m2 m5 m6 m7 = true
  · rw [h, hn, if_pos (show (true && true) = true from rfl), if_pos rfl]
    dsimp only
    have hg := hget_hdr m0 m1 m2 m3 m4 m5 m6 m7 34 [] h hn h3 h4
    rw [List.append_nil, List.length_nil, if_neg (by omega), if_neg (by omega)] at hg
    have hl := hdr_length m0 m1 m2 m3 m4 m5 m6 m7 34
    have hby := hdr_by m0 m1 m2 m3 m4 m5 m6 m7 34
    generalize hdr m0 m1 m2 m3 m4 m5 m6 m7 34 = x at *
    obtain ⟨q1, q2, q3, q4⟩ := ver v hv
    generalize Go.bits .or .u8 (Go.bits .and .u8 v 240) 2 = u at *
    have e5 : ∀ i : Int, i < 34 → i < (x.length : Int) := fun i hi => by omega
    have s1 := ((((((Same.refl x).put 1 u (by omega)).put 5 a (by omega)).put 16 b (by omega)).put 19 c (by omega)).put 32 a (by omega))
    have b1 := ((((By.put (By.put (By.put (By.put (By.put hby 1 ⟨q2, q3⟩) 5 ha) 16 hb) 19 hc) 32 ha))))
    have k0 : kn (rd x 0) = true ∧ rd x 1 % 16 = 2 := by
      refine Classical.byContradiction fun hne => ?_
      rw [get_none hl hne] at hg
      have := congrArg (fun p : Int × Int × Int × Int × Int × Int × Int × Int × Int × Int × Int × Int × Int × Int × Int × Int × Int × Int × Int × Int × Int × Int × Int × Int × Int => p.2.2.2.2.2.2.2.2.2.2.2.2.2.2.2.2.2.2.2.2.2.2.2.2) hg
      exact absurd this (by simp [hz])
    simp only [List.length_set, hl]
    have t1 : ((1 : Int).toNat) = 1 := rfl
    have t5 : ((5 : Int).toNat) = 5 := rfl
    have t16 : ((16 : Int).toNat) = 16 := rfl
    have t19 : ((19 : Int).toNat) = 19 := rfl
    have t32 : ((32 : Int).toNat) = 32 := rfl
    have t0 : ((0 : Int).toNat) = 0 := rfl
    rw [t1, t5, t16, t19, t32, t0, show K + 2 = (K + 1) + 1 by omega]
    have r1 : rd (((((x.set 1 u).set 5 a).set 16 b).set 19 c).set 32 a) 1 = u := by
      rw [rd_set _ _ _ _ (by omega), rd_set _ _ _ _ (by omega), rd_set _ _ _ _ (by omega), rd_set _ _ _ _ (by omega)]
      exact rd_put x u 1 (by omega)
    have r0 : rd (((((x.set 1 u).set 5 a).set 16 b).set 19 c).set 32 a) 0 = rd x 0 := by
      rw [rd_set _ _ _ _ (by omega), rd_set _ _ _ _ (by omega), rd_set _ _ _ _ (by omega), rd_set _ _ _ _ (by omega), rd_set _ _ _ _ (by omega)]
    have g1 := s1.get r0 (by rw [r1, q1, k0.2])
    generalize hy : ((((x.set 1 u).set 5 a).set 16 b).set 19 c).set 32 a = y at *
    have ly : y.length = 34 := by rw [s1.len, hl]
    have s2 := s1.put 1 v (by omega)
    have b2 := By.put b1 1 hv
    have u1 : rd (y.set 1 v) 1 = v := rd_put y v 1 (by omega)
    have u0 : rd (y.set 1 v) 0 = rd x 0 := by rw [rd_set _ _ _ _ (by omega), r0]
    have b3 := By.put (By.put b2 1 (show (0 : Int) ≤ 2 ∧ (2 : Int) ≤ 255 by omega)) 0 (show 0 ≤ 4 + v % 4 ∧ 4 + v % 4 ≤ 255 by omega)
    have g3 : hget (((y.set 1 v).set 1 2).set 0 (4 + v % 4)) = hz 4 := by
      refine get_none (by simp only [List.length_set, ly]) fun q => ?_
      have e0 : rd (((y.set 1 v).set 1 2).set 0 (4 + v % 4)) 0 = 4 + v % 4 := rd_put _ _ 0 (by simp only [List.length_set, ly]; decide)
      rw [e0] at q
      have := of_decide_eq_true q.1
      omega
    have lm : ∀ m : List Int, m.length = 34 → m.length ≤ 4611686018427387904 := fun m hm => by omega
    rw [hGet_of x hby (lm _ hl) (K + 1) (by omega), hg, Option.bind_some, if_pos (by decide), if_pos (by decide), if_pos (by decide), if_pos (by decide), if_pos (by decide)]
    rw [hGet_of y b1 (lm _ ly) (K + 1) (by omega), g1, hg, Option.bind_some, if_pos rfl, if_pos rfl, if_pos (by simp only [beq_self_eq_true, Bool.and_self]), if_pos (by decide)]
    rw [hGet_of _ b2 (lm _ (by rw [List.length_set, ly])) (K + 1) (by omega), Option.bind_some, if_pos (by decide), if_pos (by decide), q4]
    rw [hGet_of _ b3 (lm _ (by simp only [List.length_set, ly])) (K + 1) (by omega), g3, Option.bind_some, and15_of v hv]
    by_cases h2 : v % 16 = 2
    · rw [s2.get u0 (by rw [u1, h2, k0.2]), hg, h2]
      rfl
    · rw [get_none (by rw [List.length_set, ly]) (fun q => h2 (by rw [← u1]; exact q.2)), decide_eq_false h2]
      rfl
  · rw [Bool.eq_false_iff.2 h, Bool.false_and, if_neg Bool.false_ne_true, if_neg Bool.false_ne_true]
    rfl
end Go.Proofs.Ytcflafkafbpibaa.Pure
