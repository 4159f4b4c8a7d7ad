/- Functions and loops of the given program as Lean functions, and that the code comes to what they say: written by this session's own program; Lean checks it. -/
import Derived.Test.YtpfjpfbhgeoadaaProg
import Derived.Below
import Derived.Deep.Draws
import Derived.Deep.AppendLies
import Derived.Maps.AppendAt
import Derived.OwnWalk
import Derived.Laws.BytesArg
import Derived.Laws.MakeOwn
import Derived.Laws.OwnMore
import Derived.Deep.OwnRows
import Derived.Tactics
import Derived.Lib.ConvBytes
import Derived.Laws.Slices
import Derived.WalkKit
import Derived.KernelRfl
import Derived.RowKit3
import Derived.Deep.LoopGhost
import Derived.Deep.QuietTactic
import Derived.BigQuiet
import Derived.WideLaws
import Derived.Deep.DeepCutAuto
import Derived.Deep.CutBlock
import Derived.Deep.RegionHeld3
import Derived.Laws.Rows
import Derived.Lib.AppendStr
import Derived.ArgAppend
import Derived.Laws.IdiomCopy
import Derived.OrdersHeld
import Derived.Laws.BitsLemmas
import Derived.RowKit
import Derived.WalkMore
import Derived.ScopeJumps
import Derived.Test.YtpfjpfbhgeoadaaBig
import Derived.Test.YtpfjpfbhgeoadaaBox
import Derived.Test.YtpfjpfbhgeoadaaWWords
import Derived.Test.YtpfjpfbhgeoadaaWLast
import Derived.Test.YtpfjpfbhgeoadaaWTab
import Derived.Test.YtpfjpfbhgeoadaaWFour
import Derived.Test.YtpfjpfbhgeoadaaWQPut
import Derived.Test.YtpfjpfbhgeoadaaWApart
import Derived.Test.YtpfjpfbhgeoadaaWArr
import Derived.Test.YtpfjpfbhgeoadaaWZeros
import Derived.Test.YtpfjpfbhgeoadaaWFoot
import Derived.Test.YtpfjpfbhgeoadaaWKept
import Derived.Test.YtpfjpfbhgeoadaaWShare
import Derived.Test.YtpfjpfbhgeoadaaWN
import Derived.Test.YtpfjpfbhgeoadaaWFootNe
import Derived.Test.YtpfjpfbhgeoadaaWAt
import Derived.Test.YtpfjpfbhgeoadaaWEqStruct
import Derived.Test.YtpfjpfbhgeoadaaWRepsOne
import Derived.Test.YtpfjpfbhgeoadaaWInv
import Derived.Test.YtpfjpfbhgeoadaaWInvWords
import Derived.Test.YtpfjpfbhgeoadaaWGuard
import Derived.Test.YtpfjpfbhgeoadaaWNEv
import Derived.Test.YtpfjpfbhgeoadaaWMore
namespace Go.Proofs.Ytpfjpfbhgeoadaa.P
open Go.RowKit Go.Proofs.YtpfjpfbhgeoadaaW.PrintWords Go.Proofs.YtpfjpfbhgeoadaaW.PrintLast Go.Proofs.YtpfjpfbhgeoadaaW.PrintMore
attribute [local go_sem] max2_int min2_int max_two min_two max_three min_three max_four min_four   -- for this text's walks alone
set_option linter.unusedVariables false
set_option linter.unusedSimpArgs false



def errW : Option Int → Value
  | none => .nilIface
  | some c => .iface 0 (.int .i64 c)
theorem errW_none : errW none = .nilIface := rfl
theorem errW_some (c : Int) : errW (some c) = .iface 0 (.int .i64 c) := rfl

-- the values' own types
/-! #### struct type 24 -/
structure S24 where
  f0 : Int
  f1 : Int
def z24 : S24 := ⟨(0 : Int), (0 : Int)⟩
def k24 : Kd S24 := Kd.iso (Kd.pair (Kd.int .u64) (Kd.int .i64)) (fun x : S24 => (x.f0, x.f1))
theorem k24_open {w : World} {x : S24} {cs : List Value} (h : k24.K w x cs) : cs = [.int .u64 x.f0, .int .i64 x.f1] := by
  obtain ⟨_, _, rfl, rfl, rfl⟩ := h
  exact rfl
theorem k24_openM {w : World} {base : Nat} {ok : Nat → Prop} {x : S24} {cs : List Value} (h : k24.M w base ok x cs) : cs = [.int .u64 x.f0, .int .i64 x.f1] := by
  obtain ⟨_, _, rfl, rfl, rfl⟩ := h
  exact rfl
theorem k24_mk (w : World) (x : S24)  : k24.K w x [.int .u64 x.f0, .int .i64 x.f1] := ⟨[.int .u64 x.f0], [.int .i64 x.f1], rfl, rfl, rfl⟩
theorem k24_mkM (w : World) (base : Nat) (ok : Nat → Prop) (x : S24)  : k24.M w base ok x [.int .u64 x.f0, .int .i64 x.f1] := ⟨[.int .u64 x.f0], [.int .i64 x.f1], rfl, rfl, rfl⟩
def rd_T24 (xs : List S24) (i : Int) : S24 := xs.getD i.toNat z24
theorem at_T24 {w : World} {A : Option Addr} {n : Nat} {xs : List S24} (h : Kd.C k24 w A n xs) (i : Int) (h0 : 0 ≤ i) (h1 : i < n) : ∃ ad , A = some ad ∧ w.cell? (ad.add (i.toNat * 2)) = some (.int .u64 (rd_T24 xs i).f0) ∧ w.cell? ⟨(ad.add (i.toNat * 2)).block, (ad.add (i.toNat * 2)).off + 1, none⟩ = some (.int .i64 (rd_T24 xs i).f1) := by
  obtain ⟨ad, c, e, _, hK, hc0⟩ := Kd.C_get h z24 i h0 h1
  have hc : ∀ j u, c[j]? = some u → w.cell? (ad.add (i.toNat * 2 + j)) = some u := hc0
  obtain rfl := k24_open hK
  exact ⟨ad, e, hc 0 _ rfl, by rw [← add_field _ _ 1 (by omega)]; exact hc 1 _ rfl⟩

/-! #### struct type 32 -/
structure S32 where
  f0 : Int
  f1 : Int
  f2 : Int
def z32 : S32 := ⟨(0 : Int), (0 : Int), (0 : Int)⟩
def k32 : Kd S32 := Kd.iso (Kd.pair (Kd.int .i64) (Kd.pair (Kd.int .i64) (Kd.int .i64))) (fun x : S32 => (x.f0, x.f1, x.f2))
theorem k32_open {w : World} {x : S32} {cs : List Value} (h : k32.K w x cs) : cs = [.int .i64 x.f0, .int .i64 x.f1, .int .i64 x.f2] := by
  obtain ⟨_, _, rfl, rfl, ⟨_, _, rfl, rfl, rfl⟩⟩ := h
  exact rfl
theorem k32_openM {w : World} {base : Nat} {ok : Nat → Prop} {x : S32} {cs : List Value} (h : k32.M w base ok x cs) : cs = [.int .i64 x.f0, .int .i64 x.f1, .int .i64 x.f2] := by
  obtain ⟨_, _, rfl, rfl, ⟨_, _, rfl, rfl, rfl⟩⟩ := h
  exact rfl
theorem k32_mk (w : World) (x : S32)  : k32.K w x [.int .i64 x.f0, .int .i64 x.f1, .int .i64 x.f2] := ⟨[.int .i64 x.f0], [.int .i64 x.f1, .int .i64 x.f2], rfl, rfl, ⟨[.int .i64 x.f1], [.int .i64 x.f2], rfl, rfl, rfl⟩⟩
theorem k32_mkM (w : World) (base : Nat) (ok : Nat → Prop) (x : S32)  : k32.M w base ok x [.int .i64 x.f0, .int .i64 x.f1, .int .i64 x.f2] := ⟨[.int .i64 x.f0], [.int .i64 x.f1, .int .i64 x.f2], rfl, rfl, ⟨[.int .i64 x.f1], [.int .i64 x.f2], rfl, rfl, rfl⟩⟩
def rd_T32 (xs : List S32) (i : Int) : S32 := xs.getD i.toNat z32
theorem at_T32 {w : World} {A : Option Addr} {n : Nat} {xs : List S32} (h : Kd.C k32 w A n xs) (i : Int) (h0 : 0 ≤ i) (h1 : i < n) : ∃ ad , A = some ad ∧ w.cell? (ad.add (i.toNat * 3)) = some (.int .i64 (rd_T32 xs i).f0) ∧ w.cell? ⟨(ad.add (i.toNat * 3)).block, (ad.add (i.toNat * 3)).off + 1, none⟩ = some (.int .i64 (rd_T32 xs i).f1) ∧ w.cell? ⟨(ad.add (i.toNat * 3)).block, (ad.add (i.toNat * 3)).off + 2, none⟩ = some (.int .i64 (rd_T32 xs i).f2) := by
  obtain ⟨ad, c, e, _, hK, hc0⟩ := Kd.C_get h z32 i h0 h1
  have hc : ∀ j u, c[j]? = some u → w.cell? (ad.add (i.toNat * 3 + j)) = some u := hc0
  obtain rfl := k32_open hK
  exact ⟨ad, e, hc 0 _ rfl, by rw [← add_field _ _ 1 (by omega)]; exact hc 1 _ rfl, by rw [← add_field _ _ 2 (by omega)]; exact hc 2 _ rfl⟩

/-! #### struct type 34 -/
structure S34 where
  f0 : Int
  f1 : Int
  f2 : Int
  f3 : Int
  f4 : S24
  f5 : Int
  f6 : Int
  f7 : Int
  f8 : S24
  f9 : Int
  f10 : Int
  f11 : S32
  f12 : Int
  f13 : Int
  f14 : Int
  f15 : Int
  f16 : Int
  f17 : Int
  f18 : Int
def z34 : S34 := ⟨(0 : Int), (0 : Int), (0 : Int), (0 : Int), z24, (0 : Int), (0 : Int), (0 : Int), z24, (0 : Int), (0 : Int), z32, (0 : Int), (0 : Int), (0 : Int), (0 : Int), (0 : Int), (0 : Int), (0 : Int)⟩
def k34 : Kd S34 := Kd.iso (Kd.pair (Kd.int .i64) (Kd.pair (Kd.int .i64) (Kd.pair (Kd.int .i64) (Kd.pair (Kd.int .i64) (Kd.pair k24 (Kd.pair (Kd.int .i64) (Kd.pair (Kd.int .i64) (Kd.pair (Kd.int .i64) (Kd.pair k24 (Kd.pair (Kd.int .i64) (Kd.pair (Kd.int .i64) (Kd.pair k32 (Kd.pair (Kd.int .i64) (Kd.pair (Kd.int .u64) (Kd.pair (Kd.int .i64) (Kd.pair (Kd.int .i64) (Kd.pair (Kd.int .i64) (Kd.pair (Kd.int .i64) (Kd.int .i64))))))))))))))))))) (fun x : S34 => (x.f0, x.f1, x.f2, x.f3, x.f4, x.f5, x.f6, x.f7, x.f8, x.f9, x.f10, x.f11, x.f12, x.f13, x.f14, x.f15, x.f16, x.f17, x.f18))
theorem k34_open {w : World} {x : S34} {cs : List Value} (h : k34.K w x cs) : cs = [.int .i64 x.f0, .int .i64 x.f1, .int .i64 x.f2, .int .i64 x.f3, .int .u64 x.f4.f0, .int .i64 x.f4.f1, .int .i64 x.f5, .int .i64 x.f6, .int .i64 x.f7, .int .u64 x.f8.f0, .int .i64 x.f8.f1, .int .i64 x.f9, .int .i64 x.f10, .int .i64 x.f11.f0, .int .i64 x.f11.f1, .int .i64 x.f11.f2, .int .i64 x.f12, .int .u64 x.f13, .int .i64 x.f14, .int .i64 x.f15, .int .i64 x.f16, .int .i64 x.f17, .int .i64 x.f18] := by
  obtain ⟨_, _, rfl, rfl, ⟨_, _, rfl, rfl, ⟨_, _, rfl, rfl, ⟨_, _, rfl, rfl, ⟨_, _, rfl, s4, ⟨_, _, rfl, rfl, ⟨_, _, rfl, rfl, ⟨_, _, rfl, rfl, ⟨_, _, rfl, s9, ⟨_, _, rfl, rfl, ⟨_, _, rfl, rfl, ⟨_, _, rfl, s13, ⟨_, _, rfl, rfl, ⟨_, _, rfl, rfl, ⟨_, _, rfl, rfl, ⟨_, _, rfl, rfl, ⟨_, _, rfl, rfl, ⟨_, _, rfl, rfl, rfl⟩⟩⟩⟩⟩⟩⟩⟩⟩⟩⟩⟩⟩⟩⟩⟩⟩⟩ := h
  obtain rfl := k24_open s4
  obtain rfl := k24_open s9
  obtain rfl := k32_open s13
  exact rfl
theorem k34_openM {w : World} {base : Nat} {ok : Nat → Prop} {x : S34} {cs : List Value} (h : k34.M w base ok x cs) : cs = [.int .i64 x.f0, .int .i64 x.f1, .int .i64 x.f2, .int .i64 x.f3, .int .u64 x.f4.f0, .int .i64 x.f4.f1, .int .i64 x.f5, .int .i64 x.f6, .int .i64 x.f7, .int .u64 x.f8.f0, .int .i64 x.f8.f1, .int .i64 x.f9, .int .i64 x.f10, .int .i64 x.f11.f0, .int .i64 x.f11.f1, .int .i64 x.f11.f2, .int .i64 x.f12, .int .u64 x.f13, .int .i64 x.f14, .int .i64 x.f15, .int .i64 x.f16, .int .i64 x.f17, .int .i64 x.f18] := by
  obtain ⟨_, _, rfl, rfl, ⟨_, _, rfl, rfl, ⟨_, _, rfl, rfl, ⟨_, _, rfl, rfl, ⟨_, _, rfl, s4, ⟨_, _, rfl, rfl, ⟨_, _, rfl, rfl, ⟨_, _, rfl, rfl, ⟨_, _, rfl, s9, ⟨_, _, rfl, rfl, ⟨_, _, rfl, rfl, ⟨_, _, rfl, s13, ⟨_, _, rfl, rfl, ⟨_, _, rfl, rfl, ⟨_, _, rfl, rfl, ⟨_, _, rfl, rfl, ⟨_, _, rfl, rfl, ⟨_, _, rfl, rfl, rfl⟩⟩⟩⟩⟩⟩⟩⟩⟩⟩⟩⟩⟩⟩⟩⟩⟩⟩ := h
  obtain rfl := k24_openM s4
  obtain rfl := k24_openM s9
  obtain rfl := k32_openM s13
  exact rfl
theorem k34_mk (w : World) (x : S34)  : k34.K w x [.int .i64 x.f0, .int .i64 x.f1, .int .i64 x.f2, .int .i64 x.f3, .int .u64 x.f4.f0, .int .i64 x.f4.f1, .int .i64 x.f5, .int .i64 x.f6, .int .i64 x.f7, .int .u64 x.f8.f0, .int .i64 x.f8.f1, .int .i64 x.f9, .int .i64 x.f10, .int .i64 x.f11.f0, .int .i64 x.f11.f1, .int .i64 x.f11.f2, .int .i64 x.f12, .int .u64 x.f13, .int .i64 x.f14, .int .i64 x.f15, .int .i64 x.f16, .int .i64 x.f17, .int .i64 x.f18] := ⟨[.int .i64 x.f0], [.int .i64 x.f1, .int .i64 x.f2, .int .i64 x.f3, .int .u64 x.f4.f0, .int .i64 x.f4.f1, .int .i64 x.f5, .int .i64 x.f6, .int .i64 x.f7, .int .u64 x.f8.f0, .int .i64 x.f8.f1, .int .i64 x.f9, .int .i64 x.f10, .int .i64 x.f11.f0, .int .i64 x.f11.f1, .int .i64 x.f11.f2, .int .i64 x.f12, .int .u64 x.f13, .int .i64 x.f14, .int .i64 x.f15, .int .i64 x.f16, .int .i64 x.f17, .int .i64 x.f18], rfl, rfl, ⟨[.int .i64 x.f1], [.int .i64 x.f2, .int .i64 x.f3, .int .u64 x.f4.f0, .int .i64 x.f4.f1, .int .i64 x.f5, .int .i64 x.f6, .int .i64 x.f7, .int .u64 x.f8.f0, .int .i64 x.f8.f1, .int .i64 x.f9, .int .i64 x.f10, .int .i64 x.f11.f0, .int .i64 x.f11.f1, .int .i64 x.f11.f2, .int .i64 x.f12, .int .u64 x.f13, .int .i64 x.f14, .int .i64 x.f15, .int .i64 x.f16, .int .i64 x.f17, .int .i64 x.f18], rfl, rfl, ⟨[.int .i64 x.f2], [.int .i64 x.f3, .int .u64 x.f4.f0, .int .i64 x.f4.f1, .int .i64 x.f5, .int .i64 x.f6, .int .i64 x.f7, .int .u64 x.f8.f0, .int .i64 x.f8.f1, .int .i64 x.f9, .int .i64 x.f10, .int .i64 x.f11.f0, .int .i64 x.f11.f1, .int .i64 x.f11.f2, .int .i64 x.f12, .int .u64 x.f13, .int .i64 x.f14, .int .i64 x.f15, .int .i64 x.f16, .int .i64 x.f17, .int .i64 x.f18], rfl, rfl, ⟨[.int .i64 x.f3], [.int .u64 x.f4.f0, .int .i64 x.f4.f1, .int .i64 x.f5, .int .i64 x.f6, .int .i64 x.f7, .int .u64 x.f8.f0, .int .i64 x.f8.f1, .int .i64 x.f9, .int .i64 x.f10, .int .i64 x.f11.f0, .int .i64 x.f11.f1, .int .i64 x.f11.f2, .int .i64 x.f12, .int .u64 x.f13, .int .i64 x.f14, .int .i64 x.f15, .int .i64 x.f16, .int .i64 x.f17, .int .i64 x.f18], rfl, rfl, ⟨[.int .u64 x.f4.f0, .int .i64 x.f4.f1], [.int .i64 x.f5, .int .i64 x.f6, .int .i64 x.f7, .int .u64 x.f8.f0, .int .i64 x.f8.f1, .int .i64 x.f9, .int .i64 x.f10, .int .i64 x.f11.f0, .int .i64 x.f11.f1, .int .i64 x.f11.f2, .int .i64 x.f12, .int .u64 x.f13, .int .i64 x.f14, .int .i64 x.f15, .int .i64 x.f16, .int .i64 x.f17, .int .i64 x.f18], rfl, (k24_mk w x.f4 ), ⟨[.int .i64 x.f5], [.int .i64 x.f6, .int .i64 x.f7, .int .u64 x.f8.f0, .int .i64 x.f8.f1, .int .i64 x.f9, .int .i64 x.f10, .int .i64 x.f11.f0, .int .i64 x.f11.f1, .int .i64 x.f11.f2, .int .i64 x.f12, .int .u64 x.f13, .int .i64 x.f14, .int .i64 x.f15, .int .i64 x.f16, .int .i64 x.f17, .int .i64 x.f18], rfl, rfl, ⟨[.int .i64 x.f6], [.int .i64 x.f7, .int .u64 x.f8.f0, .int .i64 x.f8.f1, .int .i64 x.f9, .int .i64 x.f10, .int .i64 x.f11.f0, .int .i64 x.f11.f1, .int .i64 x.f11.f2, .int .i64 x.f12, .int .u64 x.f13, .int .i64 x.f14, .int .i64 x.f15, .int .i64 x.f16, .int .i64 x.f17, .int .i64 x.f18], rfl, rfl, ⟨[.int .i64 x.f7], [.int .u64 x.f8.f0, .int .i64 x.f8.f1, .int .i64 x.f9, .int .i64 x.f10, .int .i64 x.f11.f0, .int .i64 x.f11.f1, .int .i64 x.f11.f2, .int .i64 x.f12, .int .u64 x.f13, .int .i64 x.f14, .int .i64 x.f15, .int .i64 x.f16, .int .i64 x.f17, .int .i64 x.f18], rfl, rfl, ⟨[.int .u64 x.f8.f0, .int .i64 x.f8.f1], [.int .i64 x.f9, .int .i64 x.f10, .int .i64 x.f11.f0, .int .i64 x.f11.f1, .int .i64 x.f11.f2, .int .i64 x.f12, .int .u64 x.f13, .int .i64 x.f14, .int .i64 x.f15, .int .i64 x.f16, .int .i64 x.f17, .int .i64 x.f18], rfl, (k24_mk w x.f8 ), ⟨[.int .i64 x.f9], [.int .i64 x.f10, .int .i64 x.f11.f0, .int .i64 x.f11.f1, .int .i64 x.f11.f2, .int .i64 x.f12, .int .u64 x.f13, .int .i64 x.f14, .int .i64 x.f15, .int .i64 x.f16, .int .i64 x.f17, .int .i64 x.f18], rfl, rfl, ⟨[.int .i64 x.f10], [.int .i64 x.f11.f0, .int .i64 x.f11.f1, .int .i64 x.f11.f2, .int .i64 x.f12, .int .u64 x.f13, .int .i64 x.f14, .int .i64 x.f15, .int .i64 x.f16, .int .i64 x.f17, .int .i64 x.f18], rfl, rfl, ⟨[.int .i64 x.f11.f0, .int .i64 x.f11.f1, .int .i64 x.f11.f2], [.int .i64 x.f12, .int .u64 x.f13, .int .i64 x.f14, .int .i64 x.f15, .int .i64 x.f16, .int .i64 x.f17, .int .i64 x.f18], rfl, (k32_mk w x.f11 ), ⟨[.int .i64 x.f12], [.int .u64 x.f13, .int .i64 x.f14, .int .i64 x.f15, .int .i64 x.f16, .int .i64 x.f17, .int .i64 x.f18], rfl, rfl, ⟨[.int .u64 x.f13], [.int .i64 x.f14, .int .i64 x.f15, .int .i64 x.f16, .int .i64 x.f17, .int .i64 x.f18], rfl, rfl, ⟨[.int .i64 x.f14], [.int .i64 x.f15, .int .i64 x.f16, .int .i64 x.f17, .int .i64 x.f18], rfl, rfl, ⟨[.int .i64 x.f15], [.int .i64 x.f16, .int .i64 x.f17, .int .i64 x.f18], rfl, rfl, ⟨[.int .i64 x.f16], [.int .i64 x.f17, .int .i64 x.f18], rfl, rfl, ⟨[.int .i64 x.f17], [.int .i64 x.f18], rfl, rfl, rfl⟩⟩⟩⟩⟩⟩⟩⟩⟩⟩⟩⟩⟩⟩⟩⟩⟩⟩
theorem k34_mkM (w : World) (base : Nat) (ok : Nat → Prop) (x : S34)  : k34.M w base ok x [.int .i64 x.f0, .int .i64 x.f1, .int .i64 x.f2, .int .i64 x.f3, .int .u64 x.f4.f0, .int .i64 x.f4.f1, .int .i64 x.f5, .int .i64 x.f6, .int .i64 x.f7, .int .u64 x.f8.f0, .int .i64 x.f8.f1, .int .i64 x.f9, .int .i64 x.f10, .int .i64 x.f11.f0, .int .i64 x.f11.f1, .int .i64 x.f11.f2, .int .i64 x.f12, .int .u64 x.f13, .int .i64 x.f14, .int .i64 x.f15, .int .i64 x.f16, .int .i64 x.f17, .int .i64 x.f18] := ⟨[.int .i64 x.f0], [.int .i64 x.f1, .int .i64 x.f2, .int .i64 x.f3, .int .u64 x.f4.f0, .int .i64 x.f4.f1, .int .i64 x.f5, .int .i64 x.f6, .int .i64 x.f7, .int .u64 x.f8.f0, .int .i64 x.f8.f1, .int .i64 x.f9, .int .i64 x.f10, .int .i64 x.f11.f0, .int .i64 x.f11.f1, .int .i64 x.f11.f2, .int .i64 x.f12, .int .u64 x.f13, .int .i64 x.f14, .int .i64 x.f15, .int .i64 x.f16, .int .i64 x.f17, .int .i64 x.f18], rfl, rfl, ⟨[.int .i64 x.f1], [.int .i64 x.f2, .int .i64 x.f3, .int .u64 x.f4.f0, .int .i64 x.f4.f1, .int .i64 x.f5, .int .i64 x.f6, .int .i64 x.f7, .int .u64 x.f8.f0, .int .i64 x.f8.f1, .int .i64 x.f9, .int .i64 x.f10, .int .i64 x.f11.f0, .int .i64 x.f11.f1, .int .i64 x.f11.f2, .int .i64 x.f12, .int .u64 x.f13, .int .i64 x.f14, .int .i64 x.f15, .int .i64 x.f16, .int .i64 x.f17, .int .i64 x.f18], rfl, rfl, ⟨[.int .i64 x.f2], [.int .i64 x.f3, .int .u64 x.f4.f0, .int .i64 x.f4.f1, .int .i64 x.f5, .int .i64 x.f6, .int .i64 x.f7, .int .u64 x.f8.f0, .int .i64 x.f8.f1, .int .i64 x.f9, .int .i64 x.f10, .int .i64 x.f11.f0, .int .i64 x.f11.f1, .int .i64 x.f11.f2, .int .i64 x.f12, .int .u64 x.f13, .int .i64 x.f14, .int .i64 x.f15, .int .i64 x.f16, .int .i64 x.f17, .int .i64 x.f18], rfl, rfl, ⟨[.int .i64 x.f3], [.int .u64 x.f4.f0, .int .i64 x.f4.f1, .int .i64 x.f5, .int .i64 x.f6, .int .i64 x.f7, .int .u64 x.f8.f0, .int .i64 x.f8.f1, .int .i64 x.f9, .int .i64 x.f10, .int .i64 x.f11.f0, .int .i64 x.f11.f1, .int .i64 x.f11.f2, .int .i64 x.f12, .int .u64 x.f13, .int .i64 x.f14, .int .i64 x.f15, .int .i64 x.f16, .int .i64 x.f17, .int .i64 x.f18], rfl, rfl, ⟨[.int .u64 x.f4.f0, .int .i64 x.f4.f1], [.int .i64 x.f5, .int .i64 x.f6, .int .i64 x.f7, .int .u64 x.f8.f0, .int .i64 x.f8.f1, .int .i64 x.f9, .int .i64 x.f10, .int .i64 x.f11.f0, .int .i64 x.f11.f1, .int .i64 x.f11.f2, .int .i64 x.f12, .int .u64 x.f13, .int .i64 x.f14, .int .i64 x.f15, .int .i64 x.f16, .int .i64 x.f17, .int .i64 x.f18], rfl, (k24_mkM w base ok x.f4 ), ⟨[.int .i64 x.f5], [.int .i64 x.f6, .int .i64 x.f7, .int .u64 x.f8.f0, .int .i64 x.f8.f1, .int .i64 x.f9, .int .i64 x.f10, .int .i64 x.f11.f0, .int .i64 x.f11.f1, .int .i64 x.f11.f2, .int .i64 x.f12, .int .u64 x.f13, .int .i64 x.f14, .int .i64 x.f15, .int .i64 x.f16, .int .i64 x.f17, .int .i64 x.f18], rfl, rfl, ⟨[.int .i64 x.f6], [.int .i64 x.f7, .int .u64 x.f8.f0, .int .i64 x.f8.f1, .int .i64 x.f9, .int .i64 x.f10, .int .i64 x.f11.f0, .int .i64 x.f11.f1, .int .i64 x.f11.f2, .int .i64 x.f12, .int .u64 x.f13, .int .i64 x.f14, .int .i64 x.f15, .int .i64 x.f16, .int .i64 x.f17, .int .i64 x.f18], rfl, rfl, ⟨[.int .i64 x.f7], [.int .u64 x.f8.f0, .int .i64 x.f8.f1, .int .i64 x.f9, .int .i64 x.f10, .int .i64 x.f11.f0, .int .i64 x.f11.f1, .int .i64 x.f11.f2, .int .i64 x.f12, .int .u64 x.f13, .int .i64 x.f14, .int .i64 x.f15, .int .i64 x.f16, .int .i64 x.f17, .int .i64 x.f18], rfl, rfl, ⟨[.int .u64 x.f8.f0, .int .i64 x.f8.f1], [.int .i64 x.f9, .int .i64 x.f10, .int .i64 x.f11.f0, .int .i64 x.f11.f1, .int .i64 x.f11.f2, .int .i64 x.f12, .int .u64 x.f13, .int .i64 x.f14, .int .i64 x.f15, .int .i64 x.f16, .int .i64 x.f17, .int .i64 x.f18], rfl, (k24_mkM w base ok x.f8 ), ⟨[.int .i64 x.f9], [.int .i64 x.f10, .int .i64 x.f11.f0, .int .i64 x.f11.f1, .int .i64 x.f11.f2, .int .i64 x.f12, .int .u64 x.f13, .int .i64 x.f14, .int .i64 x.f15, .int .i64 x.f16, .int .i64 x.f17, .int .i64 x.f18], rfl, rfl, ⟨[.int .i64 x.f10], [.int .i64 x.f11.f0, .int .i64 x.f11.f1, .int .i64 x.f11.f2, .int .i64 x.f12, .int .u64 x.f13, .int .i64 x.f14, .int .i64 x.f15, .int .i64 x.f16, .int .i64 x.f17, .int .i64 x.f18], rfl, rfl, ⟨[.int .i64 x.f11.f0, .int .i64 x.f11.f1, .int .i64 x.f11.f2], [.int .i64 x.f12, .int .u64 x.f13, .int .i64 x.f14, .int .i64 x.f15, .int .i64 x.f16, .int .i64 x.f17, .int .i64 x.f18], rfl, (k32_mkM w base ok x.f11 ), ⟨[.int .i64 x.f12], [.int .u64 x.f13, .int .i64 x.f14, .int .i64 x.f15, .int .i64 x.f16, .int .i64 x.f17, .int .i64 x.f18], rfl, rfl, ⟨[.int .u64 x.f13], [.int .i64 x.f14, .int .i64 x.f15, .int .i64 x.f16, .int .i64 x.f17, .int .i64 x.f18], rfl, rfl, ⟨[.int .i64 x.f14], [.int .i64 x.f15, .int .i64 x.f16, .int .i64 x.f17, .int .i64 x.f18], rfl, rfl, ⟨[.int .i64 x.f15], [.int .i64 x.f16, .int .i64 x.f17, .int .i64 x.f18], rfl, rfl, ⟨[.int .i64 x.f16], [.int .i64 x.f17, .int .i64 x.f18], rfl, rfl, ⟨[.int .i64 x.f17], [.int .i64 x.f18], rfl, rfl, rfl⟩⟩⟩⟩⟩⟩⟩⟩⟩⟩⟩⟩⟩⟩⟩⟩⟩⟩
def rd_T34 (xs : List S34) (i : Int) : S34 := xs.getD i.toNat z34
theorem at_T34 {w : World} {A : Option Addr} {n : Nat} {xs : List S34} (h : Kd.C k34 w A n xs) (i : Int) (h0 : 0 ≤ i) (h1 : i < n) : ∃ ad , A = some ad ∧ w.cell? (ad.add (i.toNat * 23)) = some (.int .i64 (rd_T34 xs i).f0) ∧ w.cell? ⟨(ad.add (i.toNat * 23)).block, (ad.add (i.toNat * 23)).off + 1, none⟩ = some (.int .i64 (rd_T34 xs i).f1) ∧ w.cell? ⟨(ad.add (i.toNat * 23)).block, (ad.add (i.toNat * 23)).off + 2, none⟩ = some (.int .i64 (rd_T34 xs i).f2) ∧ w.cell? ⟨(ad.add (i.toNat * 23)).block, (ad.add (i.toNat * 23)).off + 3, none⟩ = some (.int .i64 (rd_T34 xs i).f3) ∧ w.cell? ⟨(ad.add (i.toNat * 23)).block, (ad.add (i.toNat * 23)).off + 4, none⟩ = some (.int .u64 (rd_T34 xs i).f4.f0) ∧ w.cell? ⟨(ad.add (i.toNat * 23)).block, (ad.add (i.toNat * 23)).off + 5, none⟩ = some (.int .i64 (rd_T34 xs i).f4.f1) ∧ w.cell? ⟨(ad.add (i.toNat * 23)).block, (ad.add (i.toNat * 23)).off + 6, none⟩ = some (.int .i64 (rd_T34 xs i).f5) ∧ w.cell? ⟨(ad.add (i.toNat * 23)).block, (ad.add (i.toNat * 23)).off + 7, none⟩ = some (.int .i64 (rd_T34 xs i).f6) ∧ w.cell? ⟨(ad.add (i.toNat * 23)).block, (ad.add (i.toNat * 23)).off + 8, none⟩ = some (.int .i64 (rd_T34 xs i).f7) ∧ w.cell? ⟨(ad.add (i.toNat * 23)).block, (ad.add (i.toNat * 23)).off + 9, none⟩ = some (.int .u64 (rd_T34 xs i).f8.f0) ∧ w.cell? ⟨(ad.add (i.toNat * 23)).block, (ad.add (i.toNat * 23)).off + 10, none⟩ = some (.int .i64 (rd_T34 xs i).f8.f1) ∧ w.cell? ⟨(ad.add (i.toNat * 23)).block, (ad.add (i.toNat * 23)).off + 11, none⟩ = some (.int .i64 (rd_T34 xs i).f9) ∧ w.cell? ⟨(ad.add (i.toNat * 23)).block, (ad.add (i.toNat * 23)).off + 12, none⟩ = some (.int .i64 (rd_T34 xs i).f10) ∧ w.cell? ⟨(ad.add (i.toNat * 23)).block, (ad.add (i.toNat * 23)).off + 13, none⟩ = some (.int .i64 (rd_T34 xs i).f11.f0) ∧ w.cell? ⟨(ad.add (i.toNat * 23)).block, (ad.add (i.toNat * 23)).off + 14, none⟩ = some (.int .i64 (rd_T34 xs i).f11.f1) ∧ w.cell? ⟨(ad.add (i.toNat * 23)).block, (ad.add (i.toNat * 23)).off + 15, none⟩ = some (.int .i64 (rd_T34 xs i).f11.f2) ∧ w.cell? ⟨(ad.add (i.toNat * 23)).block, (ad.add (i.toNat * 23)).off + 16, none⟩ = some (.int .i64 (rd_T34 xs i).f12) ∧ w.cell? ⟨(ad.add (i.toNat * 23)).block, (ad.add (i.toNat * 23)).off + 17, none⟩ = some (.int .u64 (rd_T34 xs i).f13) ∧ w.cell? ⟨(ad.add (i.toNat * 23)).block, (ad.add (i.toNat * 23)).off + 18, none⟩ = some (.int .i64 (rd_T34 xs i).f14) ∧ w.cell? ⟨(ad.add (i.toNat * 23)).block, (ad.add (i.toNat * 23)).off + 19, none⟩ = some (.int .i64 (rd_T34 xs i).f15) ∧ w.cell? ⟨(ad.add (i.toNat * 23)).block, (ad.add (i.toNat * 23)).off + 20, none⟩ = some (.int .i64 (rd_T34 xs i).f16) ∧ w.cell? ⟨(ad.add (i.toNat * 23)).block, (ad.add (i.toNat * 23)).off + 21, none⟩ = some (.int .i64 (rd_T34 xs i).f17) ∧ w.cell? ⟨(ad.add (i.toNat * 23)).block, (ad.add (i.toNat * 23)).off + 22, none⟩ = some (.int .i64 (rd_T34 xs i).f18) := by
  obtain ⟨ad, c, e, _, hK, hc0⟩ := Kd.C_get h z34 i h0 h1
  have hc : ∀ j u, c[j]? = some u → w.cell? (ad.add (i.toNat * 23 + j)) = some u := hc0
  obtain rfl := k34_open hK
  exact ⟨ad, e, hc 0 _ rfl, by rw [← add_field _ _ 1 (by omega)]; exact hc 1 _ rfl, by rw [← add_field _ _ 2 (by omega)]; exact hc 2 _ rfl, by rw [← add_field _ _ 3 (by omega)]; exact hc 3 _ rfl, by rw [← add_field _ _ 4 (by omega)]; exact hc 4 _ rfl, by rw [← add_field _ _ 5 (by omega)]; exact hc 5 _ rfl, by rw [← add_field _ _ 6 (by omega)]; exact hc 6 _ rfl, by rw [← add_field _ _ 7 (by omega)]; exact hc 7 _ rfl, by rw [← add_field _ _ 8 (by omega)]; exact hc 8 _ rfl, by rw [← add_field _ _ 9 (by omega)]; exact hc 9 _ rfl, by rw [← add_field _ _ 10 (by omega)]; exact hc 10 _ rfl, by rw [← add_field _ _ 11 (by omega)]; exact hc 11 _ rfl, by rw [← add_field _ _ 12 (by omega)]; exact hc 12 _ rfl, by rw [← add_field _ _ 13 (by omega)]; exact hc 13 _ rfl, by rw [← add_field _ _ 14 (by omega)]; exact hc 14 _ rfl, by rw [← add_field _ _ 15 (by omega)]; exact hc 15 _ rfl, by rw [← add_field _ _ 16 (by omega)]; exact hc 16 _ rfl, by rw [← add_field _ _ 17 (by omega)]; exact hc 17 _ rfl, by rw [← add_field _ _ 18 (by omega)]; exact hc 18 _ rfl, by rw [← add_field _ _ 19 (by omega)]; exact hc 19 _ rfl, by rw [← add_field _ _ 20 (by omega)]; exact hc 20 _ rfl, by rw [← add_field _ _ 21 (by omega)]; exact hc 21 _ rfl, by rw [← add_field _ _ 22 (by omega)]; exact hc 22 _ rfl⟩

end Go.Proofs.Ytpfjpfbhgeoadaa.P
