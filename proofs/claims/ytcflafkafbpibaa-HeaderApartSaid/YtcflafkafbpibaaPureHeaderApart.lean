/- Unlike messages have unlike headers: for every two messages. -/
import Derived.Test.YtcflafkafbpibaaPx8
import Derived.Test.YtcflafkafbpibaaHdr
namespace Go.Proofs.Ytcflafkafbpibaa.Pure
open Go.RowKit Go.Proofs.Ytcflafkafbpibaa.P Go.Proofs.Ytcflafkafbpibaa.Lib Go.Proofs.Ytcflafkafbpibaa.Oct Go.Proofs.Ytcflafkafbpibaa.Idt Go.Proofs.Ytcflafkafbpibaa.Hdr Go.Proofs.YtcflafkafbpibaaW.PrintWords Go.Proofs.YtcflafkafbpibaaW.PrintLast Go.Proofs.YtcflafkafbpibaaW.PrintMore

theorem awake_true {k : Nat} (h : 50 ≤ k) : carillonlaw06_awake.f k = some true := at_rounds (g := fun k => carillonlaw06_awake.f k) (fun k => carillonlaw06_awake.mono k) h (by decide +kernel)
theorem kn_range {t : Int} (h : kn t = true) : 0 ≤ t ∧ t ≤ 13 := by
  have := of_decide_eq_true h
  omega
theorem in_range {v a b : Int} (h : within v a b = true) : a ≤ v ∧ v ≤ b := of_decide_eq_true h
theorem HeaderApart : carillonlaw06_HeaderApart.Pure := by
  intro m0 m1 m2 m3 m4 m5 m6 m7 m8 m9 m10 m11 m12 m13 m14 m15 m16 m17 m18 m19 m20 m21 m22 n0 n1 n2 n3 n4 n5 n6 n7 n8 n9 n10 n11 n12 n13 n14 n15 n16 n17 n18 n19 n20 n21 n22
  intro _ _ _ hm3 hm4 _ _ _ _ _ _ _ _ _ _ _ _ _ _ _ _ _ _ _ _ _ hn3 hn4 _ _ _ _ _ _ _ _ _ _ _ _ _ _ _ _ _ _
  have hm3 := wf64 hm3
  have hn3 := wf64 hn3
  have hm4 := wfu64 hm4
  have hn4 := wfu64 hn4
  obtain ⟨K, hK⟩ : ∃ K : Nat, 60 ≤ K := ⟨60, Nat.le_refl _⟩
  refine ⟨K + 2, ?_⟩
  have aw1 := awake_true (k := K + 1) (by omega)
  unfold carillonlaw06_HeaderApart.f
  rw [hPut_of, hPut_of, show within 60 34 400 = true from rfl, Bool.and_true, Bool.and_true]
  simp only [Option.bind_some]
  by_cases h1 : hok m0 m1 m2 m5 m6 m7 = true
  · rw [if_pos h1]
    simp only [if_true]
    by_cases h2 : hok n0 n1 n2 n5 n6 n7 = true
    · rw [if_pos h2]
      simp only [Bool.not_true]
      rw [carillonlaw06_HeaderApart.j0, if_neg (by simp), aw1]
      simp only [Option.bind_some]
      simp only [hok, Bool.and_eq_true] at h1 h2
      obtain ⟨a0, a1, a2, a5, a6, a7⟩ := h1
      obtain ⟨b0, b1, b2, b5, b6, b7⟩ := h2
      have a0 := kn_range a0
      have b0 := kn_range b0
      have a1 := in_range a1
      have b1 := in_range b1
      have a2 := in_range a2
      have b2 := in_range b2
      have a5 := in_range a5
      have b5 := in_range b5
      have a6 := in_range a6
      have b6 := in_range b6
      have a7 := in_range a7
      have b7 := in_range b7
      have p1 : (256 : Int) ^ 1 = 256 := by decide +kernel
      have p2 : (256 : Int) ^ 2 = 65536 := by decide +kernel
      have key : ((strOfNums (hdr m0 m1 m2 m3 m4 m5 m6 m7 60)).toList == (strOfNums (hdr n0 n1 n2 n3 n4 n5 n6 n7 60)).toList) = decide (m0 = n0 ∧ m1 = n1 ∧ m2 = n2 ∧ m3 = n3 ∧ (m4 = n4 ∧ m5 = n5) ∧ m6 = n6 ∧ m7 = n7) := by
        rw [str_eq (hdr_by _ _ _ _ _ _ _ _ _) (hdr_by _ _ _ _ _ _ _ _ _), decide_eq_decide]
        constructor
        · intro h
          unfold hdr at h
          obtain ⟨h, e7⟩ := List.append_inj' h (by simp [enc_length])
          obtain ⟨h, _⟩ := List.append_inj' h (by simp [enc_length])
          obtain ⟨h, e6⟩ := List.append_inj' h (by simp [enc_length])
          obtain ⟨h, e5⟩ := List.append_inj' h (by simp [enc_length])
          obtain ⟨h, e4⟩ := List.append_inj' h (by simp [enc_length])
          obtain ⟨h, _⟩ := List.append_inj' h (by simp [enc_length])
          obtain ⟨h, e3⟩ := List.append_inj' h (by simp [enc_length])
          obtain ⟨h, e2⟩ := List.append_inj' h (by simp [enc_length])
          obtain ⟨h, _⟩ := List.append_inj' h (by simp [enc_length])
          obtain ⟨h, e1⟩ := List.append_inj' h (by simp [enc_length])
          obtain ⟨h, _⟩ := List.append_inj' h (by simp [enc_length])
          have e0 : m0 % 256 = n0 % 256 := by simpa using h
          have e1 := enc_inj e1
          have e2 := enc_inj e2
          have e3 := enc_inj e3
          have e4 := enc_inj e4
          have e5 := enc_inj e5
          have e6 := enc_inj e6
          have e7 := enc_inj e7
          rw [p1] at e1 e7
          rw [p2] at e2 e5 e6
          rw [pow8] at e3 e4
          clear p1 p2
          omega
        · rintro ⟨rfl, rfl, rfl, rfl, ⟨rfl, rfl⟩, rfl, rfl⟩
          rfl
      rw [key]
      by_cases e0 : m0 = n0
      · rw [if_pos e0]
        by_cases e1 : m1 = n1
        · rw [if_pos e1]
          by_cases e2 : m2 = n2
          · rw [if_pos e2]
            by_cases e3 : m3 = n3
            · rw [if_pos e3]
              by_cases e45 : m4 = n4 ∧ m5 = n5
              · rw [if_pos (by simp [e45.1, e45.2])]
                by_cases e6 : m6 = n6
                · rw [if_pos e6, if_pos (by rw [beq_iff_eq, Bool.eq_iff_iff, decide_eq_true_eq, beq_iff_eq]; exact ⟨fun h => h.2.2.2.2.2.2, fun h => ⟨e0, e1, e2, e3, e45, e6, h⟩⟩)]
                · rw [if_neg e6, if_pos (by rw [beq_iff_eq]; exact decide_eq_false (fun h => e6 h.2.2.2.2.2.1))]
              · rw [if_neg (by simpa using e45), if_pos (by rw [beq_iff_eq]; exact decide_eq_false (fun h => e45 h.2.2.2.2.1))]
            · rw [if_neg e3, if_pos (by rw [beq_iff_eq]; exact decide_eq_false (fun h => e3 h.2.2.2.1))]
          · rw [if_neg e2, if_pos (by rw [beq_iff_eq]; exact decide_eq_false (fun h => e2 h.2.2.1))]
        · rw [if_neg e1, if_pos (by rw [beq_iff_eq]; exact decide_eq_false (fun h => e1 h.2.1))]
      · rw [if_neg e0, if_pos (by rw [beq_iff_eq]; exact decide_eq_false (fun h => e0 h.1))]
    · rw [if_neg h2]
      simp only [Bool.not_false]
      rw [carillonlaw06_HeaderApart.j0, if_pos rfl, aw1]
      rfl
  · rw [if_neg h1]
    simp only [Bool.false_eq_true, if_false]
    rw [carillonlaw06_HeaderApart.j0, if_pos rfl, aw1]
    rfl

end Go.Proofs.Ytcflafkafbpibaa.Pure
