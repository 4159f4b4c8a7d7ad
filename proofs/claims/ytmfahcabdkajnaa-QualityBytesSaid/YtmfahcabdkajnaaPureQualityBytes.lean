/- Any quality put behind any bytes, and any bytes read from anywhere, as the document says; a quality that may be is read as it was put; the room behind the bytes stays: for every row of bytes, every quality and every place. -/
import Derived.Test.YtmfahcabdkajnaaPx11
import Derived.Test.YtmfahcabdkajnaaQua
namespace Go.Proofs.Ytmfahcabdkajnaa.Pure
open Go.RowKit Go.Proofs.Ytmfahcabdkajnaa.P Go.Proofs.Ytmfahcabdkajnaa.Lib Go.Proofs.Ytmfahcabdkajnaa.Oct Go.Proofs.Ytmfahcabdkajnaa.Ref Go.Proofs.Ytmfahcabdkajnaa.Qua Go.Proofs.YtmfahcabdkajnaaW.PrintWords Go.Proofs.YtmfahcabdkajnaaW.PrintLast Go.Proofs.YtmfahcabdkajnaaW.PrintMore

theorem awake_true {k : Nat} (h : 50 ≤ k) : carillonlaw05_awake.f k = some true := at_rounds (g := fun k => carillonlaw05_awake.f k) (fun k => carillonlaw05_awake.mono k) h (by decide +kernel)

theorem QualityBytes : carillonlaw05_QualityBytes.Pure := by
  intro l a b c i hm hl hw h1 h2 h3 h4
  have hb := by_wf hw
  have h4 := wf64 h4
  obtain ⟨K, hK⟩ : ∃ K : Nat, 60 ≤ K := ⟨60, Nat.le_refl _⟩
  refine ⟨K + 1, ?_⟩
  unfold carillonlaw05_QualityBytes.f
  have hwr : wrap64 ((l.length : Int) + 1) = (l.length : Int) + 1 := w64 _ (by omega) (by omega)
  have hlen : (l ++ [99] : List Int).length = l.length + 1 := by simp
  have haw := awake_true (k := K + 1) (by omega)
  rw [if_pos (by omega), if_pos (by simp; omega), if_pos (by omega), if_pos (by rw [hlen]; omega), more_take, more_take1 _ _ hwr, quGet_of l hb (by omega) i h4 K (by omega), rquGet_of l hb (by omega) i K (by omega), quPut_of l a b c (by omega), rquPut_of a b c (K + 1) (by omega), mayQ_of, rmayQ_of, quPut_of [] a b c (by simp), haw]
  simp only [Option.bind_some]
  rw [str_size, str_size, if_pos (by simp [enc_length]; omega), str_app, if_pos (by simp), if_pos (by simp), if_pos (by simp), if_pos (by simp)]
  by_cases hq : mayQ a b c = true
  · have hq' := of_decide_eq_true hq
    have hby : By ([] ++ enc a 1 ++ enc b 1 ++ enc c 2) := (((By.nil).app (enc_by a 1)).app (enc_by b 1)).app (enc_by c 2)
    have hg := quGet_of ([] ++ enc a 1 ++ enc b 1 ++ enc c 2) hby (by simp [enc_length]) 0 (by omega) K (by omega)
    have he := quAt_enc [] [] a b c 0 (by simp)
    rw [List.append_nil] at he
    have e1 : a % 256 = a := by omega
    have e2 : b % 256 = b := by omega
    have e3 : c % 65536 = c := by omega
    rw [he, e1, e2, e3] at hg
    rw [if_pos hq, hg]
    simp only [Option.bind_some]
    rw [if_pos trivial, if_pos (by simp), hwr, if_pos (by omega), if_pos (by rw [hlen]; omega), if_pos (by rw [hlen]; omega), if_pos (by rw [hlen]; omega), more_rd, if_pos rfl]
  · rw [if_neg hq]
end Go.Proofs.Ytmfahcabdkajnaa.Pure
