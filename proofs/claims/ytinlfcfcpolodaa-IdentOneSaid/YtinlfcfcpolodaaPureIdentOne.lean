/- A port's bytes, read, are it; two in a row, each: for every two ports that may be. -/
import Derived.Test.YtinlfcfcpolodaaPx9
import Derived.Test.YtinlfcfcpolodaaIdt
namespace Go.Proofs.Ytinlfcfcpolodaa.Pure
open Go.RowKit Go.Proofs.Ytinlfcfcpolodaa.P Go.Proofs.Ytinlfcfcpolodaa.Lib Go.Proofs.Ytinlfcfcpolodaa.Oct Go.Proofs.Ytinlfcfcpolodaa.Idt Go.Proofs.YtinlfcfcpolodaaW.PrintWords Go.Proofs.YtinlfcfcpolodaaW.PrintLast Go.Proofs.YtinlfcfcpolodaaW.PrintMore

theorem awake_true {k : Nat} (h : 50 ≤ k) : carillonlaw04_awake.f k = some true := at_rounds (g := fun k => carillonlaw04_awake.f k) (fun k => carillonlaw04_awake.mono k) h (by decide +kernel)

theorem IdentOne : carillonlaw04_IdentOne.Pure := by
  intro a b c d ha hb hc hd
  have ha := wfu64 ha
  have hc := wfu64 hc
  obtain ⟨K, hK⟩ : ∃ K : Nat, 60 ≤ K := ⟨60, Nat.le_refl _⟩
  refine ⟨K + 2, ?_⟩
  have aw1 := awake_true (k := K + 1) (by omega)
  unfold carillonlaw04_IdentOne.f
  have may : ∀ p q : Int, ident_May.f p q = some (decide (0 ≤ q ∧ q ≤ 65535)) := by
    intro p q
    unfold ident_May.f
    by_cases h : q ≥ 0
    · rw [if_pos h]
      congr 1
      simp [h]
    · rw [if_neg h]
      congr 1
      symm
      apply decide_eq_false
      omega
  rw [may, may, Option.bind_some, Option.bind_some]
  by_cases h1 : 0 ≤ b ∧ b ≤ 65535
  · rw [if_pos (decide_eq_true h1)]
    by_cases h2 : 0 ≤ d ∧ d ≤ 65535
    · have p2 : (256 : Int) ^ 2 = 65536 := by decide +kernel
      have l8 : ∀ s : Int, (enc s 8).length = 8 := fun s => enc_length s 8
      have l2 : ∀ s : Int, (enc s 2).length = 2 := fun s => enc_length s 2
      rw [decide_eq_true h2, Bool.not_true, carillonlaw04_IdentOne.j0, if_neg (by simp), idPut_of [] a b (by simp), Option.bind_some, idPut_of _ c d (by simp [l8, l2]), Option.bind_some, List.nil_append]
      have hB : By (enc a 8 ++ enc b 2 ++ enc c 8 ++ enc d 2) := (((enc_by a 8).app (enc_by b 2)).app (enc_by c 8)).app (enc_by d 2)
      have hL : (enc a 8 ++ enc b 2 ++ enc c 8 ++ enc d 2).length = 20 := by simp [l8, l2]
      have k1 : cut (enc a 8 ++ enc b 2 ++ enc c 8 ++ enc d 2) 0 8 = enc a 8 := by
        have := cut_app [] (enc a 8) (enc b 2 ++ enc c 8 ++ enc d 2) 0 8 (by simp) (by simp [l8])
        simpa [List.append_assoc] using this
      have k2 : cut (enc a 8 ++ enc b 2 ++ enc c 8 ++ enc d 2) (0 + 8) 2 = enc b 2 := by
        have := cut_app (enc a 8) (enc b 2) (enc c 8 ++ enc d 2) (0 + 8) 2 (by simp [l8]) (by simp [l2])
        simpa [List.append_assoc] using this
      have k3 : cut (enc a 8 ++ enc b 2 ++ enc c 8 ++ enc d 2) 10 8 = enc c 8 := by
        have := cut_app (enc a 8 ++ enc b 2) (enc c 8) (enc d 2) 10 8 (by simp [l8, l2]) (by simp [l8])
        simpa [List.append_assoc] using this
      have k4 : cut (enc a 8 ++ enc b 2 ++ enc c 8 ++ enc d 2) (10 + 8) 2 = enc d 2 := by
        have := cut_app (enc a 8 ++ enc b 2 ++ enc c 8) (enc d 2) [] (10 + 8) 2 (by simp [l8, l2]) (by simp [l2])
        simpa [List.append_assoc] using this
      have hv8 : ∀ s : Int, 0 ≤ s → s ≤ 18446744073709551615 → dec (enc s 8) = s := by
        intro s h1 h2
        rw [dec_enc, pow8]
        omega
      have hv2 : ∀ s : Int, 0 ≤ s → s ≤ 65535 → dec (enc s 2) = s := by
        intro s h1 h2
        rw [dec_enc, p2]
        omega
      rw [idGet_of _ hB (by omega) 0 (by omega) K (by omega), idGet_of _ hB (by omega) 10 (by omega) K (by omega), idGet_of _ hB (by omega) 11 (by omega) K (by omega)]
      rw [if_pos (show has _ 0 10 from ⟨by omega, by omega, by omega⟩), if_pos (show has _ 10 10 from ⟨by omega, by omega, by omega⟩), if_neg (show ¬ has _ 11 10 from fun h => by have := h.2.2; omega), k1, k2, k3, k4, hv8 a ha.1 ha.2, hv8 c hc.1 hc.2, hv2 b h1.1 h1.2, hv2 d h2.1 h2.2, aw1]
      simp only [Option.bind_some, if_true]
      rw [if_neg (by simp), if_pos (by simp), if_pos (by simp), if_pos (by omega)]
    · rw [decide_eq_false h2, Bool.not_false, carillonlaw04_IdentOne.j0, if_pos rfl, aw1]
      rfl
  · rw [if_neg (by simpa using h1), carillonlaw04_IdentOne.j0, if_pos rfl, aw1]
    rfl

end Go.Proofs.Ytinlfcfcpolodaa.Pure
