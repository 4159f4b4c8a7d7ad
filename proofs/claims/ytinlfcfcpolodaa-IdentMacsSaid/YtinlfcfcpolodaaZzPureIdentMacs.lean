/- Identities out of addresses of six bytes: told apart by just these bytes, with FFFE in the middle; for all pairs of numbers. -/
import Derived.Test.YtinlfcfcpolodaaZzPx1
import Derived.Test.YtinlfcfcpolodaaZzLib
import Derived.Test.YtinlfcfcpolodaaZzOct
import Derived.Test.YtinlfcfcpolodaaZzIdt
import Derived.Laws.BitsLemmas
namespace Go.Proofs.Ytinlfcfcpolodaa.Pure
open Go.RowKit Go.Proofs.Ytinlfcfcpolodaa.P Go.Proofs.Ytinlfcfcpolodaa.Lib Go.Proofs.Ytinlfcfcpolodaa.Oct Go.Proofs.Ytinlfcfcpolodaa.Idt Go.Proofs.YtinlfcfcpolodaaW.PrintWords Go.Proofs.YtinlfcfcpolodaaW.PrintLast Go.Proofs.YtinlfcfcpolodaaW.PrintMore
def six (v : Int) : List Int := [v / 1099511627776 % 256, v / 4294967296 % 256, v / 16777216 % 256, v / 65536 % 256, v / 256 % 256, v % 256]
theorem six_by (v : Int) : By (six v) := by
  intro x hx
  unfold six at hx
  simp only [List.mem_cons, List.not_mem_nil, or_false] at hx
  rcases hx with rfl | rfl | rfl | rfl | rfl | rfl <;> omega
theorem mac_step (K n : Nat) (v : Int) (y : List Int) (hy : y.length ≤ 10) (i : Int) (h0 : i ≥ 0) {s b j : Int} (hs : IntKind.u64.wrap (wrap64 (8 * i)) = s) (hs0 : 0 ≤ s) (hb : IntKind.u8.wrap (shr .u64 v s) = b) (hj : wrap64 (i - 1) = j) :
    carillonlaw04_IdentMacs_1.l1 K (n + 1) v y i = carillonlaw04_IdentMacs_1.l1 K n v (y ++ [b]) j := by
  rw [carillonlaw04_IdentMacs_1.l1, if_pos h0, hs, if_pos hs0, hb, if_pos (by simp only [List.length_singleton]; omega), hj]
theorem u8_shr (v s d : Int) (hd : (2 : Int) ^ min s.toNat IntKind.u64.bits = d) : IntKind.u8.wrap (shr .u64 v s) = v / d % 256 := by
  unfold shr
  rw [hd]
  simp [IntKind.wrap, IntKind.bits, IntKind.signed]
theorem mac1_of (v : Int) (n : Nat) : carillonlaw04_IdentMacs_1.f (n + 7) v = some (six v) := by
  unfold carillonlaw04_IdentMacs_1.f six
  rw [mac_step (n + 7) (n + 6) v [] (by simp) 5 (by decide) (s := 40) (by decide +kernel) (by decide) (u8_shr v 40 1099511627776 (by decide +kernel)) (j := 4) (by decide +kernel),
    mac_step (n + 7) (n + 5) v _ (by simp) 4 (by decide) (s := 32) (by decide +kernel) (by decide) (u8_shr v 32 4294967296 (by decide +kernel)) (j := 3) (by decide +kernel),
    mac_step (n + 7) (n + 4) v _ (by simp) 3 (by decide) (s := 24) (by decide +kernel) (by decide) (u8_shr v 24 16777216 (by decide +kernel)) (j := 2) (by decide +kernel),
    mac_step (n + 7) (n + 3) v _ (by simp) 2 (by decide) (s := 16) (by decide +kernel) (by decide) (u8_shr v 16 65536 (by decide +kernel)) (j := 1) (by decide +kernel),
    mac_step (n + 7) (n + 2) v _ (by simp) 1 (by decide) (s := 8) (by decide +kernel) (by decide) (u8_shr v 8 256 (by decide +kernel)) (j := 0) (by decide +kernel),
    mac_step (n + 7) (n + 1) v _ (by simp) 0 (by decide) (s := 0) (by decide +kernel) (by decide) (u8_shr v 0 1 (by decide +kernel)) (j := -1) (by decide +kernel),
    carillonlaw04_IdentMacs_1.l1, if_neg (by decide), Int.ediv_one]
  rfl
theorem dec_mac (v : Int) : dec (macBytes (six v)) = v / 16777216 % 16777216 * 1099511627776 + 1099478073344 + v % 16777216 := by
  have e : dec (macBytes (six v)) = ((((((v / 1099511627776 % 256 * 256 + v / 4294967296 % 256) * 256 + v / 16777216 % 256) * 256 + 255) * 256 + 254) * 256 + v / 65536 % 256) * 256 + v / 256 % 256) * 256 + v % 256 := by
    simp [six, macBytes, dec]
    omega
  have e1 : v / 4294967296 = v / 16777216 / 256 := by omega
  have e2 : v / 1099511627776 = v / 16777216 / 256 / 256 := by omega
  have e3 : v / 65536 = v / 256 / 256 := by omega
  have e4 : v % 16777216 = v / 256 / 256 % 256 * 65536 + v / 256 % 256 * 256 + v % 256 := by omega
  have e5 : ∀ w : Int, w % 16777216 = w / 256 / 256 % 256 * 65536 + w / 256 % 256 * 256 + w % 256 := fun w => by omega
  rw [e, e1, e2, e3, e4, e5 (v / 16777216)]
  generalize v / 16777216 / 256 / 256 % 256 = c5
  generalize v / 16777216 / 256 % 256 = c4
  generalize v / 16777216 % 256 = c3
  generalize v / 256 / 256 % 256 = c2
  generalize v / 256 % 256 = c1
  generalize v % 256 = c0
  omega
theorem shl16 (v : Int) : shl .u64 v 16 = v % 281474976710656 * 65536 := by
  have h : (2 : Int) ^ min (16 : Int).toNat IntKind.u64.bits = 65536 := by decide +kernel
  unfold shl
  rw [h]
  simp [IntKind.wrap, IntKind.bits, IntKind.signed]
  omega
theorem shr_by (v s d : Int) (hd : (2 : Int) ^ min s.toNat IntKind.u64.bits = d) : shr .u64 v s = v / d := by unfold shr; rw [hd]
theorem u64_self (n : Int) (h0 : 0 ≤ n) (h1 : n < 2 ^ 64) : IntKind.u64.wrap n = n := by
  simp [IntKind.wrap, IntKind.bits, IntKind.signed]
  omega
theorem awake_of (n : Nat) : carillonlaw04_awake.f (n + 20) = some true := by
  have g := mac_of [0, 27, 25, 1, 2, 3] (by intro x hx; simp only [List.mem_cons, List.not_mem_nil, or_false] at hx; rcases hx with rfl | rfl | rfl | rfl | rfl | rfl <;> omega) (n + 20) (by omega)
  rw [if_pos (by rfl), show dec (macBytes [0, 27, 25, 1, 2, 3]) = 7628411640021507 by decide +kernel] at g
  unfold carillonlaw04_awake.f
  rw [g, Option.bind_some, if_pos rfl]
  rfl
theorem IdentMacs : carillonlaw04_IdentMacs.Pure := by
  intro a b ha hb
  refine ⟨0 + 20, ?_⟩
  have haw := awake_of 0
  have fa : carillonlaw04_IdentMacs_1.f (0 + 20) a = some (six a) := mac1_of a 13
  have fb : carillonlaw04_IdentMacs_1.f (0 + 20) b = some (six b) := mac1_of b 13
  have ga := mac_of (six a) (six_by a) (0 + 20) (by omega)
  have gb := mac_of (six b) (six_by b) (0 + 20) (by omega)
  have gc := mac_of (((six a).take (5 : Int).toNat).drop (0 : Int).toNat) (((six_by a).take _).drop _) (0 + 20) (by omega)
  rw [if_pos (by rfl), dec_mac] at ga gb
  rw [if_neg (show ¬ (((six a).take (5 : Int).toNat).drop (0 : Int).toNat).length = 6 from (by decide : ¬ (5 : Nat) = 6))] at gc
  have hl : (six a).length = 6 := rfl
  unfold carillonlaw04_IdentMacs.f
  rw [fa, Option.bind_some, ga, Option.bind_some, fb, Option.bind_some, gb, Option.bind_some, Option.bind_some, if_pos (by rw [hl]; decide), gc, Option.bind_some]
  dsimp only
  rw [if_pos rfl, if_pos rfl, if_neg Bool.false_ne_true, shl16, shl16, haw]
  have hx : 0 ≤ a / 16777216 % 16777216 ∧ a / 16777216 % 16777216 < 16777216 := by omega
  have hy : 0 ≤ a % 16777216 ∧ a % 16777216 < 16777216 := by omega
  have hm : a % 281474976710656 = a / 16777216 % 16777216 * 16777216 + a % 16777216 := by omega
  have hmb : b % 281474976710656 = b / 16777216 % 16777216 * 16777216 + b % 16777216 := by omega
  have hbx : 0 ≤ b / 16777216 % 16777216 ∧ b / 16777216 % 16777216 < 16777216 := by omega
  have hby : 0 ≤ b % 16777216 ∧ b % 16777216 < 16777216 := by omega
  rw [hm, hmb, shr_by _ 24 16777216 (by decide +kernel), shr_by _ 40 1099511627776 (by decide +kernel), shr_by _ 40 1099511627776 (by decide +kernel)]
  generalize a / 16777216 % 16777216 = p at *
  generalize a % 16777216 = q at *
  generalize b / 16777216 % 16777216 = r at *
  generalize b % 16777216 = s at *
  have e1 : (p * 1099511627776 + 1099478073344 + q) / 16777216 = p * 65536 + 65534 := by omega
  have e2 : Go.bits .and .u64 (p * 65536 + 65534) 65535 = (p * 65536 + 65534) % 65536 := bits_mask .u64 64 (by decide) u64_self 16 (by decide) _ (by omega) (by omega)
  rw [e1, e2]
  have c1 : (p * 1099511627776 + 1099478073344 + q = r * 1099511627776 + 1099478073344 + s) ↔ ((p * 16777216 + q) * 65536 = (r * 16777216 + s) * 65536) := by omega
  rw [if_pos (by rw [beq_iff_eq, decide_eq_decide]; exact c1), if_pos (by omega), if_pos (by omega)]
  rfl
end Go.Proofs.Ytinlfcfcpolodaa.Pure
