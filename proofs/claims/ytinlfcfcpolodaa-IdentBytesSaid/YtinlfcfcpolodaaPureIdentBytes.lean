/- Any port's identity put behind any bytes, any bytes read from anywhere, and any address, as the document says; the room behind the bytes stays: for every row of bytes, every port and every place. -/
import Derived.Test.YtinlfcfcpolodaaPx9
import Derived.Test.YtinlfcfcpolodaaIdt
namespace Go.Proofs.Ytinlfcfcpolodaa.Pure
open Go.RowKit Go.Proofs.Ytinlfcfcpolodaa.P Go.Proofs.Ytinlfcfcpolodaa.Lib Go.Proofs.Ytinlfcfcpolodaa.Oct Go.Proofs.Ytinlfcfcpolodaa.Ref Go.Proofs.Ytinlfcfcpolodaa.Idt Go.Proofs.YtinlfcfcpolodaaW.PrintWords Go.Proofs.YtinlfcfcpolodaaW.PrintLast Go.Proofs.YtinlfcfcpolodaaW.PrintMore

theorem awake_true {k : Nat} (h : 50 ≤ k) : carillonlaw04_awake.f k = some true := at_rounds (g := fun k => carillonlaw04_awake.f k) (fun k => carillonlaw04_awake.mono k) h (by decide +kernel)

theorem IdentBytes : carillonlaw04_IdentBytes.Pure := by
  intro l c p i hm hl hw h1 h2 h4
  have hb := by_wf hw
  have h4 := wf64 h4
  obtain ⟨K, hK⟩ : ∃ K : Nat, 60 ≤ K := ⟨60, Nat.le_refl _⟩
  refine ⟨K + 1, ?_⟩
  have hc : carillonlaw00_Bytes.f l = some l := by
    unfold carillonlaw00_Bytes.f
    simp
    omega
  unfold carillonlaw04_IdentBytes.f
  have hwr : wrap64 ((l.length : Int) + 1) = (l.length : Int) + 1 := w64 _ (by omega) (by omega)
  have hlen : (l ++ [99] : List Int).length = l.length + 1 := by simp
  have haw := awake_true (k := K + 1) (by omega)
  rw [if_pos (by omega), if_pos (by simp; omega), if_pos (by omega), if_pos (by rw [hlen]; omega), more_take, more_take1 _ _ hwr, idGet_of l hb (by omega) i h4 K (by omega), rIdGet_of l hb (by omega) i h4 K (by omega), hc, idPut_of l c p (by omega), rIdPut_of c p (K + 1) (by omega), im_of, rim_of, haw]
  simp only [Option.bind_some]
  rw [mac_of l hb (K + 1) (by omega), rmac_of l hb (K + 1) (by omega)]
  simp only [Option.bind_some]
  rw [str_size, str_size, if_pos (by simp [enc_length]; omega), str_app, List.append_assoc, if_pos (by simp), if_pos (by simp), if_pos (by simp), if_pos (by simp), if_pos trivial, if_pos (by simp), hwr, if_pos (by omega), if_pos (by rw [hlen]; omega), if_pos (by rw [hlen]; omega), if_pos (by rw [hlen]; omega), more_rd, if_pos rfl]
end Go.Proofs.Ytinlfcfcpolodaa.Pure
