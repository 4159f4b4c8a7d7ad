/- Any number put behind any bytes, and any bytes read from anywhere, as the document says; the room behind the bytes stays: for every row of bytes and every two numbers. -/
import Derived.Test.YteahnnhekfkabaaPx7
import Derived.Test.YteahnnhekfkabaaStm
namespace Go.Proofs.Yteahnnhekfkabaa.Pure
open Go.RowKit Go.Proofs.Yteahnnhekfkabaa.P Go.Proofs.Yteahnnhekfkabaa.Lib Go.Proofs.Yteahnnhekfkabaa.Oct Go.Proofs.Yteahnnhekfkabaa.Ref Go.Proofs.Yteahnnhekfkabaa.Stm Go.Proofs.YteahnnhekfkabaaW.PrintWords Go.Proofs.YteahnnhekfkabaaW.PrintLast Go.Proofs.YteahnnhekfkabaaW.PrintMore

theorem StampBytes : carillonlaw02_StampBytes.Pure := by
  intro l a1 a2 hm hl hw h1 h2
  have hb := by_wf hw
  have h1 := wf64 h1
  have h2 := wf64 h2
  refine ⟨60 + 2, ?_⟩
  generalize hK : 60 = K
  unfold carillonlaw02_StampBytes.f
  have hwr : wrap64 ((l.length : Int) + 1) = (l.length : Int) + 1 := w64 _ (by omega) (by omega)
  have hlen : (l ++ [99] : List Int).length = l.length + 1 := by simp
  have haw : carillonlaw02_awake.f = some true := by decide +kernel
  rw [if_pos (by omega), if_pos (by simp; omega), if_pos (by omega), if_pos (by rw [hlen]; omega), more_take, more_take1 _ _ hwr, stGet_of l hb (by omega) a2 h2 (K + 1) (by omega), rstGet_of l hb (by omega) a2 h2 K (by omega), stPut_of l a1 (by omega), rstPut_of a1 (K + 2) (by omega)]
  simp only [Option.bind_some]
  rw [str_size, str_size, encS_length, if_pos (by omega), str_app, if_pos (by simp), may_of, rmay_of]
  simp only [Option.bind_some]
  rw [if_pos (by simp), if_pos trivial, if_pos (by simp), hwr, if_pos (by omega), if_pos (by rw [hlen]; omega), if_pos (by rw [hlen]; omega), if_pos (by rw [hlen]; omega), more_rd, if_pos rfl, haw]
  rfl
end Go.Proofs.Yteahnnhekfkabaa.Pure
