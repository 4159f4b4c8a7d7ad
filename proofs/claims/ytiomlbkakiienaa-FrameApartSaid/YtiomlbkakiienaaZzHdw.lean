/- What is told of a header's own bytes, whatever stands behind them. -/
import Derived.Test.YtiomlbkakiienaaZzHdr
namespace Go.Proofs.Ytiomlbkakiienaa.Hdr
open Go.RowKit Go.Proofs.Ytiomlbkakiienaa.P Go.Proofs.Ytiomlbkakiienaa.Lib Go.Proofs.Ytiomlbkakiienaa.Oct Go.Proofs.Ytiomlbkakiienaa.Idt Go.Proofs.Ytiomlbkakiienaa.Ref Go.Proofs.YtiomlbkakiienaaW.PrintWords Go.Proofs.YtiomlbkakiienaaW.PrintLast Go.Proofs.YtiomlbkakiienaaW.PrintMore
theorem rd_one {l : List Int} {a x : Int} (h : has l a 1) (e : cut l a 1 = [x]) : rd l a = x := by
  have h1 := rd_cut h 0 (by omega)
  rw [show a + ((0 : Nat) : Int) = a by omega] at h1
  rw [h1]
  simp [e]
theorem one_cut (v : Int) : enc v 1 = [v % 256] := by simp [enc]
theorem kn_range {t : Int} (h : kn t = true) : 0 ≤ t ∧ t ≤ 13 := by
  have := of_decide_eq_true h
  omega
theorem in_range {v a b : Int} (h : within v a b = true) : a ≤ v ∧ v ≤ b := of_decide_eq_true h
theorem hget_hdr (t d f c s p q g n : Int) (r : List Int) (h : hok t d f p q g = true) (hn : within n 34 400 = true) (hc : -9223372036854775808 ≤ c ∧ c ≤ 9223372036854775807) (hs : 0 ≤ s ∧ s ≤ 18446744073709551615) :
    hget (hdr t d f c s p q g n ++ r) = if ((34 + r.length : Nat) : Int) < n then hz 2 else if ((34 + r.length : Nat) : Int) > n then hz 3 else (t, d, f, c, s, p, q, g, 0, 0, 0, 0, 0, 0, 0, 0, 0, 0, 0, 0, 0, 0, 0, n, 0) := by
  have hL : (hdr t d f c s p q g n ++ r).length = 34 + r.length := by rw [List.length_append, hdr_length]
  have hh : ∀ a m : Int, 0 ≤ a → 0 ≤ m → a + m ≤ 34 → has (hdr t d f c s p q g n ++ r) a m := fun a m h1 h2 h3 => ⟨h2, h1, by rw [hL]; omega⟩
  have k0 : cut (hdr t d f c s p q g n ++ r) 0 1 = [t % 256] := by
    have := cut_app [] [t % 256] ([18] ++ enc n 2 ++ enc d 1 ++ enc 0 1 ++ enc f 2 ++ enc c 8 ++ enc 0 4 ++ enc s 8 ++ enc p 2 ++ enc q 2 ++ enc (ctl t) 1 ++ enc g 1 ++ r) 0 1 rfl rfl
    simpa [hdr, List.append_assoc] using this
  have k1 : cut (hdr t d f c s p q g n ++ r) 1 1 = [18] := by
    have := cut_app [t % 256] [18] (enc n 2 ++ enc d 1 ++ enc 0 1 ++ enc f 2 ++ enc c 8 ++ enc 0 4 ++ enc s 8 ++ enc p 2 ++ enc q 2 ++ enc (ctl t) 1 ++ enc g 1 ++ r) 1 1 rfl rfl
    simpa [hdr, List.append_assoc] using this
  have k2 : cut (hdr t d f c s p q g n ++ r) 2 2 = enc n 2 := by
    have := cut_app [t % 256, 18] (enc n 2) (enc d 1 ++ enc 0 1 ++ enc f 2 ++ enc c 8 ++ enc 0 4 ++ enc s 8 ++ enc p 2 ++ enc q 2 ++ enc (ctl t) 1 ++ enc g 1 ++ r) 2 2 rfl (by simp [enc_length])
    simpa [hdr, List.append_assoc] using this
  have k4 : cut (hdr t d f c s p q g n ++ r) 4 1 = [d % 256] := by
    have := cut_app ([t % 256, 18] ++ enc n 2) (enc d 1) (enc 0 1 ++ enc f 2 ++ enc c 8 ++ enc 0 4 ++ enc s 8 ++ enc p 2 ++ enc q 2 ++ enc (ctl t) 1 ++ enc g 1 ++ r) 4 1 (by simp [enc_length]) (by simp [enc_length])
    rw [← one_cut]
    simpa [hdr, List.append_assoc] using this
  have k6 : cut (hdr t d f c s p q g n ++ r) 6 2 = enc f 2 := by
    have := cut_app ([t % 256, 18] ++ enc n 2 ++ enc d 1 ++ enc 0 1) (enc f 2) (enc c 8 ++ enc 0 4 ++ enc s 8 ++ enc p 2 ++ enc q 2 ++ enc (ctl t) 1 ++ enc g 1 ++ r) 6 2 (by simp [enc_length]) (by simp [enc_length])
    simpa [hdr, List.append_assoc] using this
  have k8 : cut (hdr t d f c s p q g n ++ r) 8 8 = enc c 8 := by
    have := cut_app ([t % 256, 18] ++ enc n 2 ++ enc d 1 ++ enc 0 1 ++ enc f 2) (enc c 8) (enc 0 4 ++ enc s 8 ++ enc p 2 ++ enc q 2 ++ enc (ctl t) 1 ++ enc g 1 ++ r) 8 8 (by simp [enc_length]) (by simp [enc_length])
    simpa [hdr, List.append_assoc] using this
  have k20 : cut (hdr t d f c s p q g n ++ r) 20 8 = enc s 8 := by
    have := cut_app ([t % 256, 18] ++ enc n 2 ++ enc d 1 ++ enc 0 1 ++ enc f 2 ++ enc c 8 ++ enc 0 4) (enc s 8) (enc p 2 ++ enc q 2 ++ enc (ctl t) 1 ++ enc g 1 ++ r) 20 8 (by simp [enc_length]) (by simp [enc_length])
    simpa [hdr, List.append_assoc] using this
  have k28 : cut (hdr t d f c s p q g n ++ r) 28 2 = enc p 2 := by
    have := cut_app ([t % 256, 18] ++ enc n 2 ++ enc d 1 ++ enc 0 1 ++ enc f 2 ++ enc c 8 ++ enc 0 4 ++ enc s 8) (enc p 2) (enc q 2 ++ enc (ctl t) 1 ++ enc g 1 ++ r) 28 2 (by simp [enc_length]) (by simp [enc_length])
    simpa [hdr, List.append_assoc] using this
  have k30 : cut (hdr t d f c s p q g n ++ r) 30 2 = enc q 2 := by
    have := cut_app ([t % 256, 18] ++ enc n 2 ++ enc d 1 ++ enc 0 1 ++ enc f 2 ++ enc c 8 ++ enc 0 4 ++ enc s 8 ++ enc p 2) (enc q 2) (enc (ctl t) 1 ++ enc g 1 ++ r) 30 2 (by simp [enc_length]) (by simp [enc_length])
    simpa [hdr, List.append_assoc] using this
  have k33 : cut (hdr t d f c s p q g n ++ r) 33 1 = enc g 1 := by
    have := cut_app ([t % 256, 18] ++ enc n 2 ++ enc d 1 ++ enc 0 1 ++ enc f 2 ++ enc c 8 ++ enc 0 4 ++ enc s 8 ++ enc p 2 ++ enc q 2 ++ enc (ctl t) 1) (enc g 1) r 33 1 (by simp [enc_length]) (by simp [enc_length])
    simpa [hdr, List.append_assoc] using this
  have v0 := rd_one (hh 0 1 (by omega) (by omega) (by omega)) k0
  have v1 := rd_one (hh 1 1 (by omega) (by omega) (by omega)) k1
  have v4 := rd_one (hh 4 1 (by omega) (by omega) (by omega)) k4
  simp only [hok, Bool.and_eq_true] at h
  obtain ⟨a0, a1, a2, a5, a6, a7⟩ := h
  have r0 := kn_range a0
  have r1 := in_range a1
  have r2 := in_range a2
  have r5 := in_range a5
  have r6 := in_range a6
  have r7 := in_range a7
  have rn := in_range hn
  have p1 : (256 : Int) ^ 1 = 256 := by decide +kernel
  have p2 : (256 : Int) ^ 2 = 65536 := by decide +kernel
  have d2 : dec (enc n 2) = n := by rw [dec_enc, p2]; omega
  have df : dec (enc f 2) = f := by rw [dec_enc, p2]; omega
  have dp : dec (enc p 2) = p := by rw [dec_enc, p2]; omega
  have dq : dec (enc q 2) = q := by rw [dec_enc, p2]; omega
  have ds : dec (enc s 8) = s := by rw [dec_enc, pow8]; omega
  have dc : sgn 8 (dec (enc c 8)) = c := by
    rw [dec_enc]
    unfold sgn
    rw [pow8]
    split <;> omega
  have dg : sgn 1 (dec (enc g 1)) = g := by
    rw [dec_enc]
    unfold sgn
    rw [p1]
    split <;> omega
  have et : t % 256 = t := by omega
  have ed : d % 256 = d := by omega
  unfold hget
  rw [hL, v0, v1, v4, k2, k6, k8, k20, k28, k30, k33, d2, df, dp, dq, ds, dc, dg, et, ed]
  rw [if_neg (by omega), if_pos ⟨a0, by decide, hn⟩]
end Go.Proofs.Ytiomlbkakiienaa.Hdr
