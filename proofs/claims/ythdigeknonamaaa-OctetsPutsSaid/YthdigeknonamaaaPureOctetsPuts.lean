/- Any number put behind any bytes, as the document says; the room behind the bytes stays: for every row of bytes, every number, every count and every identity. -/
import Derived.Test.YthdigeknonamaaaPx3
import Derived.Test.YthdigeknonamaaaOct
import Derived.Test.YthdigeknonamaaaRef
namespace Go.Proofs.Ythdigeknonamaaa.Pure
open Go.RowKit Go.Proofs.Ythdigeknonamaaa.P Go.Proofs.Ythdigeknonamaaa.Lib Go.Proofs.Ythdigeknonamaaa.Oct Go.Proofs.Ythdigeknonamaaa.Ref Go.Proofs.YthdigeknonamaaaW.PrintWords Go.Proofs.YthdigeknonamaaaW.PrintLast Go.Proofs.YthdigeknonamaaaW.PrintMore

theorem awake_true {k : Nat} (h : 50 ≤ k) : carillonlaw01_awake.f k = some true := at_rounds (g := fun k => carillonlaw01_awake.f k) (fun k => carillonlaw01_awake.mono k) h (by decide +kernel)
theorem mn_mx (n : Int) : (n ≤ 0 → mn (mx n 0) 8 = 0) ∧ (1 ≤ n → mn (mx n 0) 8 = mn n 8) := by
  unfold mn mx
  constructor <;> intro h <;> (repeat' split) <;> omega
theorem OctetsPuts : carillonlaw01_OctetsPuts.Pure := by
  intro l v n d hm hl hw h1 h2 h3
  have hb := by_wf hw
  obtain ⟨K, hK⟩ : ∃ K : Nat, 60 ≤ K := ⟨60, Nat.le_refl _⟩
  refine ⟨K + 1, ?_⟩
  unfold carillonlaw01_OctetsPuts.f
  have hwr : wrap64 ((l.length : Int) + 1) = (l.length : Int) + 1 := w64 _ (by omega) (by omega)
  have hlen : (l ++ [99] : List Int).length = l.length + 1 := by simp
  have haw := awake_true (k := K + 1) (by omega)
  have hp : 1 ≤ n → octets_Put.f l v n = some (l ++ enc v (mn n 8).toNat) := fun h => by
    unfold octets_Put.f
    rw [if_pos ⟨h, by omega⟩, bytes_enc]
  have hm8 : (mn (mx n 0) 8).toNat ≤ 8 := by
    have := mn_mx n
    unfold mn mx
    (repeat' split) <;> omega
  rw [if_pos (by omega), if_pos (by simp; omega), if_pos (by omega), if_pos (by rw [hlen]; omega), more_take, more_take1 _ _ hwr, rput_of v n (K + 1) (by omega), putId_of l d (by omega), rputId_of d (K + 1) (by omega), haw]
  simp only [Option.bind_some]
  by_cases hn : 1 ≤ n
  · rw [if_pos hn, hp hn, (mn_mx n).2 hn]
    rw [(mn_mx n).2 hn] at hm8
    simp only [Option.bind_some]
    rw [str_size, str_size, if_pos (by rw [enc_length]; omega), str_app, if_pos (by simp), str_size, if_pos (by rw [enc_length]; omega), str_app, if_pos (by simp), hwr, if_pos (by omega), if_pos (by rw [hlen]; omega), if_pos (by rw [hlen]; omega), if_pos (by rw [hlen]; omega), more_rd, if_pos rfl]
  · rw [if_neg hn, (mn_mx n).1 (by omega), show enc v (0 : Int).toNat = [] from rfl]
    rw [str_size, str_size, if_pos (by simp; omega), str_app, if_pos (by simp), str_size, if_pos (by rw [enc_length]; omega), str_app, if_pos (by simp), hwr, if_pos (by omega), if_pos (by rw [hlen]; omega), if_pos (by rw [hlen]; omega), if_pos (by rw [hlen]; omega), more_rd, if_pos rfl]
end Go.Proofs.Ythdigeknonamaaa.Pure
