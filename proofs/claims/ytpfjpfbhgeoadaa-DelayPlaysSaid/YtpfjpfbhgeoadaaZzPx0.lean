/- Functions and loops of the given program as Lean functions, and that the code comes to what they say: written by this session's own program; Lean checks it. -/
import Derived.Test.YtpfjpfbhgeoadaaProg
import Derived.Below
import Derived.Deep.Draws
import Derived.Deep.AppendLies
import Derived.Maps.AppendAt
import Derived.OwnWalk
import Derived.Laws.BytesArg
import Derived.Laws.MakeOwn
import Derived.Laws.OwnMore
import Derived.Deep.OwnRows
import Derived.Tactics
import Derived.Lib.ConvBytes
import Derived.Laws.Slices
import Derived.WalkKit
import Derived.KernelRfl
import Derived.RowKit3
import Derived.Deep.LoopGhost
import Derived.Deep.QuietTactic
import Derived.BigQuiet
import Derived.WideLaws
import Derived.Deep.DeepCutAuto
import Derived.Deep.CutBlock
import Derived.Deep.RegionHeld3
import Derived.Laws.Rows
import Derived.Lib.AppendStr
import Derived.ArgAppend
import Derived.Laws.IdiomCopy
import Derived.OrdersHeld
import Derived.Laws.BitsLemmas
import Derived.RowKit
import Derived.WalkMore
import Derived.ScopeJumps
import Derived.Test.YtpfjpfbhgeoadaaZzOwnB
import Derived.Test.YtpfjpfbhgeoadaaZzWWords
import Derived.Test.YtpfjpfbhgeoadaaZzWLast
import Derived.Test.YtpfjpfbhgeoadaaZzWApart
import Derived.Test.YtpfjpfbhgeoadaaZzWFoot
import Derived.Test.YtpfjpfbhgeoadaaZzWKept
import Derived.Test.YtpfjpfbhgeoadaaZzWShare
import Derived.Test.YtpfjpfbhgeoadaaZzWN
import Derived.Laws.StructEq
import Derived.Test.YtpfjpfbhgeoadaaZzWRepsOne
import Derived.Test.YtpfjpfbhgeoadaaZzWInv
import Derived.Test.YtpfjpfbhgeoadaaZzWMore
namespace Go.Proofs.Ytpfjpfbhgeoadaa.P
open Go.RowKit Go.Proofs.YtpfjpfbhgeoadaaW.PrintWords Go.Proofs.YtpfjpfbhgeoadaaW.PrintLast Go.Proofs.YtpfjpfbhgeoadaaW.PrintMore
attribute [local go_sem] max2_int min2_int max_two min_two max_three min_three max_four min_four   -- for this text's walks alone
set_option linter.unusedVariables false
set_option linter.unusedSimpArgs false
-- the values' own types
/-! #### struct type 24 -/
structure S24 where
  f0 : Int
  f1 : Int
def z24 : S24 := ⟨(0 : Int), (0 : Int)⟩
def k24 : Kd S24 := Kd.iso (Kd.pair (Kd.int .u64) (Kd.int .i64)) (fun x : S24 => (x.f0, x.f1))
theorem k24_open {w : World} {x : S24} {cs : List Value} (h : k24.K w x cs) : cs = [.int .u64 x.f0, .int .i64 x.f1] := by
  obtain ⟨_, _, rfl, rfl, rfl⟩ := h
  exact rfl
theorem k24_mk (w : World) (x : S24)  : k24.K w x [.int .u64 x.f0, .int .i64 x.f1] := ⟨[.int .u64 x.f0], [.int .i64 x.f1], rfl, rfl, rfl⟩
theorem k24_mkM (w : World) (base : Nat) (ok : Nat → Prop) (x : S24)  : k24.M w base ok x [.int .u64 x.f0, .int .i64 x.f1] := ⟨[.int .u64 x.f0], [.int .i64 x.f1], rfl, rfl, rfl⟩
/-! #### struct type 32 -/
structure S32 where
  f0 : Int
  f1 : Int
  f2 : Int
def z32 : S32 := ⟨(0 : Int), (0 : Int), (0 : Int)⟩
def k32 : Kd S32 := Kd.iso (Kd.pair (Kd.int .i64) (Kd.pair (Kd.int .i64) (Kd.int .i64))) (fun x : S32 => (x.f0, x.f1, x.f2))
theorem k32_open {w : World} {x : S32} {cs : List Value} (h : k32.K w x cs) : cs = [.int .i64 x.f0, .int .i64 x.f1, .int .i64 x.f2] := by
  obtain ⟨_, _, rfl, rfl, ⟨_, _, rfl, rfl, rfl⟩⟩ := h
  exact rfl
theorem k32_mk (w : World) (x : S32)  : k32.K w x [.int .i64 x.f0, .int .i64 x.f1, .int .i64 x.f2] := ⟨[.int .i64 x.f0], [.int .i64 x.f1, .int .i64 x.f2], rfl, rfl, ⟨[.int .i64 x.f1], [.int .i64 x.f2], rfl, rfl, rfl⟩⟩
theorem k32_mkM (w : World) (base : Nat) (ok : Nat → Prop) (x : S32)  : k32.M w base ok x [.int .i64 x.f0, .int .i64 x.f1, .int .i64 x.f2] := ⟨[.int .i64 x.f0], [.int .i64 x.f1, .int .i64 x.f2], rfl, rfl, ⟨[.int .i64 x.f1], [.int .i64 x.f2], rfl, rfl, rfl⟩⟩
/-! #### struct type 34 -/
structure S34 where
  f0 : Int
  f1 : Int
  f2 : Int
  f3 : Int
  f4 : S24
  f5 : Int
  f6 : Int
  f7 : Int
  f8 : S24
  f9 : Int
  f10 : Int
  f11 : S32
  f12 : Int
  f13 : Int
  f14 : Int
  f15 : Int
  f16 : Int
  f17 : Int
  f18 : Int
def z34 : S34 := ⟨(0 : Int), (0 : Int), (0 : Int), (0 : Int), z24, (0 : Int), (0 : Int), (0 : Int), z24, (0 : Int), (0 : Int), z32, (0 : Int), (0 : Int), (0 : Int), (0 : Int), (0 : Int), (0 : Int), (0 : Int)⟩
def k34 : Kd S34 := Kd.iso (Kd.pair (Kd.int .i64) (Kd.pair (Kd.int .i64) (Kd.pair (Kd.int .i64) (Kd.pair (Kd.int .i64) (Kd.pair k24 (Kd.pair (Kd.int .i64) (Kd.pair (Kd.int .i64) (Kd.pair (Kd.int .i64) (Kd.pair k24 (Kd.pair (Kd.int .i64) (Kd.pair (Kd.int .i64) (Kd.pair k32 (Kd.pair (Kd.int .i64) (Kd.pair (Kd.int .u64) (Kd.pair (Kd.int .i64) (Kd.pair (Kd.int .i64) (Kd.pair (Kd.int .i64) (Kd.pair (Kd.int .i64) (Kd.int .i64))))))))))))))))))) (fun x : S34 => (x.f0, x.f1, x.f2, x.f3, x.f4, x.f5, x.f6, x.f7, x.f8, x.f9, x.f10, x.f11, x.f12, x.f13, x.f14, x.f15, x.f16, x.f17, x.f18))
theorem k34_open {w : World} {x : S34} {cs : List Value} (h : k34.K w x cs) : cs = [.int .i64 x.f0, .int .i64 x.f1, .int .i64 x.f2, .int .i64 x.f3, .int .u64 x.f4.f0, .int .i64 x.f4.f1, .int .i64 x.f5, .int .i64 x.f6, .int .i64 x.f7, .int .u64 x.f8.f0, .int .i64 x.f8.f1, .int .i64 x.f9, .int .i64 x.f10, .int .i64 x.f11.f0, .int .i64 x.f11.f1, .int .i64 x.f11.f2, .int .i64 x.f12, .int .u64 x.f13, .int .i64 x.f14, .int .i64 x.f15, .int .i64 x.f16, .int .i64 x.f17, .int .i64 x.f18] := by
  obtain ⟨_, _, rfl, rfl, ⟨_, _, rfl, rfl, ⟨_, _, rfl, rfl, ⟨_, _, rfl, rfl, ⟨_, _, rfl, s4, ⟨_, _, rfl, rfl, ⟨_, _, rfl, rfl, ⟨_, _, rfl, rfl, ⟨_, _, rfl, s9, ⟨_, _, rfl, rfl, ⟨_, _, rfl, rfl, ⟨_, _, rfl, s13, ⟨_, _, rfl, rfl, ⟨_, _, rfl, rfl, ⟨_, _, rfl, rfl, ⟨_, _, rfl, rfl, ⟨_, _, rfl, rfl, ⟨_, _, rfl, rfl, rfl⟩⟩⟩⟩⟩⟩⟩⟩⟩⟩⟩⟩⟩⟩⟩⟩⟩⟩ := h
  obtain rfl := k24_open s4
  obtain rfl := k24_open s9
  obtain rfl := k32_open s13
  exact rfl
theorem k34_mk (w : World) (x : S34)  : k34.K w x [.int .i64 x.f0, .int .i64 x.f1, .int .i64 x.f2, .int .i64 x.f3, .int .u64 x.f4.f0, .int .i64 x.f4.f1, .int .i64 x.f5, .int .i64 x.f6, .int .i64 x.f7, .int .u64 x.f8.f0, .int .i64 x.f8.f1, .int .i64 x.f9, .int .i64 x.f10, .int .i64 x.f11.f0, .int .i64 x.f11.f1, .int .i64 x.f11.f2, .int .i64 x.f12, .int .u64 x.f13, .int .i64 x.f14, .int .i64 x.f15, .int .i64 x.f16, .int .i64 x.f17, .int .i64 x.f18] := ⟨[.int .i64 x.f0], [.int .i64 x.f1, .int .i64 x.f2, .int .i64 x.f3, .int .u64 x.f4.f0, .int .i64 x.f4.f1, .int .i64 x.f5, .int .i64 x.f6, .int .i64 x.f7, .int .u64 x.f8.f0, .int .i64 x.f8.f1, .int .i64 x.f9, .int .i64 x.f10, .int .i64 x.f11.f0, .int .i64 x.f11.f1, .int .i64 x.f11.f2, .int .i64 x.f12, .int .u64 x.f13, .int .i64 x.f14, .int .i64 x.f15, .int .i64 x.f16, .int .i64 x.f17, .int .i64 x.f18], rfl, rfl, ⟨[.int .i64 x.f1], [.int .i64 x.f2, .int .i64 x.f3, .int .u64 x.f4.f0, .int .i64 x.f4.f1, .int .i64 x.f5, .int .i64 x.f6, .int .i64 x.f7, .int .u64 x.f8.f0, .int .i64 x.f8.f1, .int .i64 x.f9, .int .i64 x.f10, .int .i64 x.f11.f0, .int .i64 x.f11.f1, .int .i64 x.f11.f2, .int .i64 x.f12, .int .u64 x.f13, .int .i64 x.f14, .int .i64 x.f15, .int .i64 x.f16, .int .i64 x.f17, .int .i64 x.f18], rfl, rfl, ⟨[.int .i64 x.f2], [.int .i64 x.f3, .int .u64 x.f4.f0, .int .i64 x.f4.f1, .int .i64 x.f5, .int .i64 x.f6, .int .i64 x.f7, .int .u64 x.f8.f0, .int .i64 x.f8.f1, .int .i64 x.f9, .int .i64 x.f10, .int .i64 x.f11.f0, .int .i64 x.f11.f1, .int .i64 x.f11.f2, .int .i64 x.f12, .int .u64 x.f13, .int .i64 x.f14, .int .i64 x.f15, .int .i64 x.f16, .int .i64 x.f17, .int .i64 x.f18], rfl, rfl, ⟨[.int .i64 x.f3], [.int .u64 x.f4.f0, .int .i64 x.f4.f1, .int .i64 x.f5, .int .i64 x.f6, .int .i64 x.f7, .int .u64 x.f8.f0, .int .i64 x.f8.f1, .int .i64 x.f9, .int .i64 x.f10, .int .i64 x.f11.f0, .int .i64 x.f11.f1, .int .i64 x.f11.f2, .int .i64 x.f12, .int .u64 x.f13, .int .i64 x.f14, .int .i64 x.f15, .int .i64 x.f16, .int .i64 x.f17, .int .i64 x.f18], rfl, rfl, ⟨[.int .u64 x.f4.f0, .int .i64 x.f4.f1], [.int .i64 x.f5, .int .i64 x.f6, .int .i64 x.f7, .int .u64 x.f8.f0, .int .i64 x.f8.f1, .int .i64 x.f9, .int .i64 x.f10, .int .i64 x.f11.f0, .int .i64 x.f11.f1, .int .i64 x.f11.f2, .int .i64 x.f12, .int .u64 x.f13, .int .i64 x.f14, .int .i64 x.f15, .int .i64 x.f16, .int .i64 x.f17, .int .i64 x.f18], rfl, (k24_mk w x.f4 ), ⟨[.int .i64 x.f5], [.int .i64 x.f6, .int .i64 x.f7, .int .u64 x.f8.f0, .int .i64 x.f8.f1, .int .i64 x.f9, .int .i64 x.f10, .int .i64 x.f11.f0, .int .i64 x.f11.f1, .int .i64 x.f11.f2, .int .i64 x.f12, .int .u64 x.f13, .int .i64 x.f14, .int .i64 x.f15, .int .i64 x.f16, .int .i64 x.f17, .int .i64 x.f18], rfl, rfl, ⟨[.int .i64 x.f6], [.int .i64 x.f7, .int .u64 x.f8.f0, .int .i64 x.f8.f1, .int .i64 x.f9, .int .i64 x.f10, .int .i64 x.f11.f0, .int .i64 x.f11.f1, .int .i64 x.f11.f2, .int .i64 x.f12, .int .u64 x.f13, .int .i64 x.f14, .int .i64 x.f15, .int .i64 x.f16, .int .i64 x.f17, .int .i64 x.f18], rfl, rfl, ⟨[.int .i64 x.f7], [.int .u64 x.f8.f0, .int .i64 x.f8.f1, .int .i64 x.f9, .int .i64 x.f10, .int .i64 x.f11.f0, .int .i64 x.f11.f1, .int .i64 x.f11.f2, .int .i64 x.f12, .int .u64 x.f13, .int .i64 x.f14, .int .i64 x.f15, .int .i64 x.f16, .int .i64 x.f17, .int .i64 x.f18], rfl, rfl, ⟨[.int .u64 x.f8.f0, .int .i64 x.f8.f1], [.int .i64 x.f9, .int .i64 x.f10, .int .i64 x.f11.f0, .int .i64 x.f11.f1, .int .i64 x.f11.f2, .int .i64 x.f12, .int .u64 x.f13, .int .i64 x.f14, .int .i64 x.f15, .int .i64 x.f16, .int .i64 x.f17, .int .i64 x.f18], rfl, (k24_mk w x.f8 ), ⟨[.int .i64 x.f9], [.int .i64 x.f10, .int .i64 x.f11.f0, .int .i64 x.f11.f1, .int .i64 x.f11.f2, .int .i64 x.f12, .int .u64 x.f13, .int .i64 x.f14, .int .i64 x.f15, .int .i64 x.f16, .int .i64 x.f17, .int .i64 x.f18], rfl, rfl, ⟨[.int .i64 x.f10], [.int .i64 x.f11.f0, .int .i64 x.f11.f1, .int .i64 x.f11.f2, .int .i64 x.f12, .int .u64 x.f13, .int .i64 x.f14, .int .i64 x.f15, .int .i64 x.f16, .int .i64 x.f17, .int .i64 x.f18], rfl, rfl, ⟨[.int .i64 x.f11.f0, .int .i64 x.f11.f1, .int .i64 x.f11.f2], [.int .i64 x.f12, .int .u64 x.f13, .int .i64 x.f14, .int .i64 x.f15, .int .i64 x.f16, .int .i64 x.f17, .int .i64 x.f18], rfl, (k32_mk w x.f11 ), ⟨[.int .i64 x.f12], [.int .u64 x.f13, .int .i64 x.f14, .int .i64 x.f15, .int .i64 x.f16, .int .i64 x.f17, .int .i64 x.f18], rfl, rfl, ⟨[.int .u64 x.f13], [.int .i64 x.f14, .int .i64 x.f15, .int .i64 x.f16, .int .i64 x.f17, .int .i64 x.f18], rfl, rfl, ⟨[.int .i64 x.f14], [.int .i64 x.f15, .int .i64 x.f16, .int .i64 x.f17, .int .i64 x.f18], rfl, rfl, ⟨[.int .i64 x.f15], [.int .i64 x.f16, .int .i64 x.f17, .int .i64 x.f18], rfl, rfl, ⟨[.int .i64 x.f16], [.int .i64 x.f17, .int .i64 x.f18], rfl, rfl, ⟨[.int .i64 x.f17], [.int .i64 x.f18], rfl, rfl, rfl⟩⟩⟩⟩⟩⟩⟩⟩⟩⟩⟩⟩⟩⟩⟩⟩⟩⟩
theorem k34_mkM (w : World) (base : Nat) (ok : Nat → Prop) (x : S34)  : k34.M w base ok x [.int .i64 x.f0, .int .i64 x.f1, .int .i64 x.f2, .int .i64 x.f3, .int .u64 x.f4.f0, .int .i64 x.f4.f1, .int .i64 x.f5, .int .i64 x.f6, .int .i64 x.f7, .int .u64 x.f8.f0, .int .i64 x.f8.f1, .int .i64 x.f9, .int .i64 x.f10, .int .i64 x.f11.f0, .int .i64 x.f11.f1, .int .i64 x.f11.f2, .int .i64 x.f12, .int .u64 x.f13, .int .i64 x.f14, .int .i64 x.f15, .int .i64 x.f16, .int .i64 x.f17, .int .i64 x.f18] := ⟨[.int .i64 x.f0], [.int .i64 x.f1, .int .i64 x.f2, .int .i64 x.f3, .int .u64 x.f4.f0, .int .i64 x.f4.f1, .int .i64 x.f5, .int .i64 x.f6, .int .i64 x.f7, .int .u64 x.f8.f0, .int .i64 x.f8.f1, .int .i64 x.f9, .int .i64 x.f10, .int .i64 x.f11.f0, .int .i64 x.f11.f1, .int .i64 x.f11.f2, .int .i64 x.f12, .int .u64 x.f13, .int .i64 x.f14, .int .i64 x.f15, .int .i64 x.f16, .int .i64 x.f17, .int .i64 x.f18], rfl, rfl, ⟨[.int .i64 x.f1], [.int .i64 x.f2, .int .i64 x.f3, .int .u64 x.f4.f0, .int .i64 x.f4.f1, .int .i64 x.f5, .int .i64 x.f6, .int .i64 x.f7, .int .u64 x.f8.f0, .int .i64 x.f8.f1, .int .i64 x.f9, .int .i64 x.f10, .int .i64 x.f11.f0, .int .i64 x.f11.f1, .int .i64 x.f11.f2, .int .i64 x.f12, .int .u64 x.f13, .int .i64 x.f14, .int .i64 x.f15, .int .i64 x.f16, .int .i64 x.f17, .int .i64 x.f18], rfl, rfl, ⟨[.int .i64 x.f2], [.int .i64 x.f3, .int .u64 x.f4.f0, .int .i64 x.f4.f1, .int .i64 x.f5, .int .i64 x.f6, .int .i64 x.f7, .int .u64 x.f8.f0, .int .i64 x.f8.f1, .int .i64 x.f9, .int .i64 x.f10, .int .i64 x.f11.f0, .int .i64 x.f11.f1, .int .i64 x.f11.f2, .int .i64 x.f12, .int .u64 x.f13, .int .i64 x.f14, .int .i64 x.f15, .int .i64 x.f16, .int .i64 x.f17, .int .i64 x.f18], rfl, rfl, ⟨[.int .i64 x.f3], [.int .u64 x.f4.f0, .int .i64 x.f4.f1, .int .i64 x.f5, .int .i64 x.f6, .int .i64 x.f7, .int .u64 x.f8.f0, .int .i64 x.f8.f1, .int .i64 x.f9, .int .i64 x.f10, .int .i64 x.f11.f0, .int .i64 x.f11.f1, .int .i64 x.f11.f2, .int .i64 x.f12, .int .u64 x.f13, .int .i64 x.f14, .int .i64 x.f15, .int .i64 x.f16, .int .i64 x.f17, .int .i64 x.f18], rfl, rfl, ⟨[.int .u64 x.f4.f0, .int .i64 x.f4.f1], [.int .i64 x.f5, .int .i64 x.f6, .int .i64 x.f7, .int .u64 x.f8.f0, .int .i64 x.f8.f1, .int .i64 x.f9, .int .i64 x.f10, .int .i64 x.f11.f0, .int .i64 x.f11.f1, .int .i64 x.f11.f2, .int .i64 x.f12, .int .u64 x.f13, .int .i64 x.f14, .int .i64 x.f15, .int .i64 x.f16, .int .i64 x.f17, .int .i64 x.f18], rfl, (k24_mkM w base ok x.f4 ), ⟨[.int .i64 x.f5], [.int .i64 x.f6, .int .i64 x.f7, .int .u64 x.f8.f0, .int .i64 x.f8.f1, .int .i64 x.f9, .int .i64 x.f10, .int .i64 x.f11.f0, .int .i64 x.f11.f1, .int .i64 x.f11.f2, .int .i64 x.f12, .int .u64 x.f13, .int .i64 x.f14, .int .i64 x.f15, .int .i64 x.f16, .int .i64 x.f17, .int .i64 x.f18], rfl, rfl, ⟨[.int .i64 x.f6], [.int .i64 x.f7, .int .u64 x.f8.f0, .int .i64 x.f8.f1, .int .i64 x.f9, .int .i64 x.f10, .int .i64 x.f11.f0, .int .i64 x.f11.f1, .int .i64 x.f11.f2, .int .i64 x.f12, .int .u64 x.f13, .int .i64 x.f14, .int .i64 x.f15, .int .i64 x.f16, .int .i64 x.f17, .int .i64 x.f18], rfl, rfl, ⟨[.int .i64 x.f7], [.int .u64 x.f8.f0, .int .i64 x.f8.f1, .int .i64 x.f9, .int .i64 x.f10, .int .i64 x.f11.f0, .int .i64 x.f11.f1, .int .i64 x.f11.f2, .int .i64 x.f12, .int .u64 x.f13, .int .i64 x.f14, .int .i64 x.f15, .int .i64 x.f16, .int .i64 x.f17, .int .i64 x.f18], rfl, rfl, ⟨[.int .u64 x.f8.f0, .int .i64 x.f8.f1], [.int .i64 x.f9, .int .i64 x.f10, .int .i64 x.f11.f0, .int .i64 x.f11.f1, .int .i64 x.f11.f2, .int .i64 x.f12, .int .u64 x.f13, .int .i64 x.f14, .int .i64 x.f15, .int .i64 x.f16, .int .i64 x.f17, .int .i64 x.f18], rfl, (k24_mkM w base ok x.f8 ), ⟨[.int .i64 x.f9], [.int .i64 x.f10, .int .i64 x.f11.f0, .int .i64 x.f11.f1, .int .i64 x.f11.f2, .int .i64 x.f12, .int .u64 x.f13, .int .i64 x.f14, .int .i64 x.f15, .int .i64 x.f16, .int .i64 x.f17, .int .i64 x.f18], rfl, rfl, ⟨[.int .i64 x.f10], [.int .i64 x.f11.f0, .int .i64 x.f11.f1, .int .i64 x.f11.f2, .int .i64 x.f12, .int .u64 x.f13, .int .i64 x.f14, .int .i64 x.f15, .int .i64 x.f16, .int .i64 x.f17, .int .i64 x.f18], rfl, rfl, ⟨[.int .i64 x.f11.f0, .int .i64 x.f11.f1, .int .i64 x.f11.f2], [.int .i64 x.f12, .int .u64 x.f13, .int .i64 x.f14, .int .i64 x.f15, .int .i64 x.f16, .int .i64 x.f17, .int .i64 x.f18], rfl, (k32_mkM w base ok x.f11 ), ⟨[.int .i64 x.f12], [.int .u64 x.f13, .int .i64 x.f14, .int .i64 x.f15, .int .i64 x.f16, .int .i64 x.f17, .int .i64 x.f18], rfl, rfl, ⟨[.int .u64 x.f13], [.int .i64 x.f14, .int .i64 x.f15, .int .i64 x.f16, .int .i64 x.f17, .int .i64 x.f18], rfl, rfl, ⟨[.int .i64 x.f14], [.int .i64 x.f15, .int .i64 x.f16, .int .i64 x.f17, .int .i64 x.f18], rfl, rfl, ⟨[.int .i64 x.f15], [.int .i64 x.f16, .int .i64 x.f17, .int .i64 x.f18], rfl, rfl, ⟨[.int .i64 x.f16], [.int .i64 x.f17, .int .i64 x.f18], rfl, rfl, ⟨[.int .i64 x.f17], [.int .i64 x.f18], rfl, rfl, rfl⟩⟩⟩⟩⟩⟩⟩⟩⟩⟩⟩⟩⟩⟩⟩⟩⟩⟩
/-! #### struct type 36 -/
structure S36 where
  f0 : Int
  f1 : Int
  f2 : Int
  f3 : S34
  f4 : Bool
def z36 : S36 := ⟨(0 : Int), (0 : Int), (0 : Int), z34, false⟩
def k36 : Kd S36 := Kd.iso (Kd.pair (Kd.int .i64) (Kd.pair (Kd.int .i64) (Kd.pair (Kd.int .i64) (Kd.pair k34 Kd.bool)))) (fun x : S36 => (x.f0, x.f1, x.f2, x.f3, x.f4))
theorem k36_open {w : World} {x : S36} {cs : List Value} (h : k36.K w x cs) : cs = [.int .i64 x.f0, .int .i64 x.f1, .int .i64 x.f2, .int .i64 x.f3.f0, .int .i64 x.f3.f1, .int .i64 x.f3.f2, .int .i64 x.f3.f3, .int .u64 x.f3.f4.f0, .int .i64 x.f3.f4.f1, .int .i64 x.f3.f5, .int .i64 x.f3.f6, .int .i64 x.f3.f7, .int .u64 x.f3.f8.f0, .int .i64 x.f3.f8.f1, .int .i64 x.f3.f9, .int .i64 x.f3.f10, .int .i64 x.f3.f11.f0, .int .i64 x.f3.f11.f1, .int .i64 x.f3.f11.f2, .int .i64 x.f3.f12, .int .u64 x.f3.f13, .int .i64 x.f3.f14, .int .i64 x.f3.f15, .int .i64 x.f3.f16, .int .i64 x.f3.f17, .int .i64 x.f3.f18, .bool x.f4] := by
  obtain ⟨_, _, rfl, rfl, ⟨_, _, rfl, rfl, ⟨_, _, rfl, rfl, ⟨_, _, rfl, s3, rfl⟩⟩⟩⟩ := h
  obtain rfl := k34_open s3
  exact rfl
theorem k36_mk (w : World) (x : S36)  : k36.K w x [.int .i64 x.f0, .int .i64 x.f1, .int .i64 x.f2, .int .i64 x.f3.f0, .int .i64 x.f3.f1, .int .i64 x.f3.f2, .int .i64 x.f3.f3, .int .u64 x.f3.f4.f0, .int .i64 x.f3.f4.f1, .int .i64 x.f3.f5, .int .i64 x.f3.f6, .int .i64 x.f3.f7, .int .u64 x.f3.f8.f0, .int .i64 x.f3.f8.f1, .int .i64 x.f3.f9, .int .i64 x.f3.f10, .int .i64 x.f3.f11.f0, .int .i64 x.f3.f11.f1, .int .i64 x.f3.f11.f2, .int .i64 x.f3.f12, .int .u64 x.f3.f13, .int .i64 x.f3.f14, .int .i64 x.f3.f15, .int .i64 x.f3.f16, .int .i64 x.f3.f17, .int .i64 x.f3.f18, .bool x.f4] := ⟨[.int .i64 x.f0], [.int .i64 x.f1, .int .i64 x.f2, .int .i64 x.f3.f0, .int .i64 x.f3.f1, .int .i64 x.f3.f2, .int .i64 x.f3.f3, .int .u64 x.f3.f4.f0, .int .i64 x.f3.f4.f1, .int .i64 x.f3.f5, .int .i64 x.f3.f6, .int .i64 x.f3.f7, .int .u64 x.f3.f8.f0, .int .i64 x.f3.f8.f1, .int .i64 x.f3.f9, .int .i64 x.f3.f10, .int .i64 x.f3.f11.f0, .int .i64 x.f3.f11.f1, .int .i64 x.f3.f11.f2, .int .i64 x.f3.f12, .int .u64 x.f3.f13, .int .i64 x.f3.f14, .int .i64 x.f3.f15, .int .i64 x.f3.f16, .int .i64 x.f3.f17, .int .i64 x.f3.f18, .bool x.f4], rfl, rfl, ⟨[.int .i64 x.f1], [.int .i64 x.f2, .int .i64 x.f3.f0, .int .i64 x.f3.f1, .int .i64 x.f3.f2, .int .i64 x.f3.f3, .int .u64 x.f3.f4.f0, .int .i64 x.f3.f4.f1, .int .i64 x.f3.f5, .int .i64 x.f3.f6, .int .i64 x.f3.f7, .int .u64 x.f3.f8.f0, .int .i64 x.f3.f8.f1, .int .i64 x.f3.f9, .int .i64 x.f3.f10, .int .i64 x.f3.f11.f0, .int .i64 x.f3.f11.f1, .int .i64 x.f3.f11.f2, .int .i64 x.f3.f12, .int .u64 x.f3.f13, .int .i64 x.f3.f14, .int .i64 x.f3.f15, .int .i64 x.f3.f16, .int .i64 x.f3.f17, .int .i64 x.f3.f18, .bool x.f4], rfl, rfl, ⟨[.int .i64 x.f2], [.int .i64 x.f3.f0, .int .i64 x.f3.f1, .int .i64 x.f3.f2, .int .i64 x.f3.f3, .int .u64 x.f3.f4.f0, .int .i64 x.f3.f4.f1, .int .i64 x.f3.f5, .int .i64 x.f3.f6, .int .i64 x.f3.f7, .int .u64 x.f3.f8.f0, .int .i64 x.f3.f8.f1, .int .i64 x.f3.f9, .int .i64 x.f3.f10, .int .i64 x.f3.f11.f0, .int .i64 x.f3.f11.f1, .int .i64 x.f3.f11.f2, .int .i64 x.f3.f12, .int .u64 x.f3.f13, .int .i64 x.f3.f14, .int .i64 x.f3.f15, .int .i64 x.f3.f16, .int .i64 x.f3.f17, .int .i64 x.f3.f18, .bool x.f4], rfl, rfl, ⟨[.int .i64 x.f3.f0, .int .i64 x.f3.f1, .int .i64 x.f3.f2, .int .i64 x.f3.f3, .int .u64 x.f3.f4.f0, .int .i64 x.f3.f4.f1, .int .i64 x.f3.f5, .int .i64 x.f3.f6, .int .i64 x.f3.f7, .int .u64 x.f3.f8.f0, .int .i64 x.f3.f8.f1, .int .i64 x.f3.f9, .int .i64 x.f3.f10, .int .i64 x.f3.f11.f0, .int .i64 x.f3.f11.f1, .int .i64 x.f3.f11.f2, .int .i64 x.f3.f12, .int .u64 x.f3.f13, .int .i64 x.f3.f14, .int .i64 x.f3.f15, .int .i64 x.f3.f16, .int .i64 x.f3.f17, .int .i64 x.f3.f18], [.bool x.f4], rfl, (k34_mk w x.f3 ), rfl⟩⟩⟩⟩
theorem k36_mkM (w : World) (base : Nat) (ok : Nat → Prop) (x : S36)  : k36.M w base ok x [.int .i64 x.f0, .int .i64 x.f1, .int .i64 x.f2, .int .i64 x.f3.f0, .int .i64 x.f3.f1, .int .i64 x.f3.f2, .int .i64 x.f3.f3, .int .u64 x.f3.f4.f0, .int .i64 x.f3.f4.f1, .int .i64 x.f3.f5, .int .i64 x.f3.f6, .int .i64 x.f3.f7, .int .u64 x.f3.f8.f0, .int .i64 x.f3.f8.f1, .int .i64 x.f3.f9, .int .i64 x.f3.f10, .int .i64 x.f3.f11.f0, .int .i64 x.f3.f11.f1, .int .i64 x.f3.f11.f2, .int .i64 x.f3.f12, .int .u64 x.f3.f13, .int .i64 x.f3.f14, .int .i64 x.f3.f15, .int .i64 x.f3.f16, .int .i64 x.f3.f17, .int .i64 x.f3.f18, .bool x.f4] := ⟨[.int .i64 x.f0], [.int .i64 x.f1, .int .i64 x.f2, .int .i64 x.f3.f0, .int .i64 x.f3.f1, .int .i64 x.f3.f2, .int .i64 x.f3.f3, .int .u64 x.f3.f4.f0, .int .i64 x.f3.f4.f1, .int .i64 x.f3.f5, .int .i64 x.f3.f6, .int .i64 x.f3.f7, .int .u64 x.f3.f8.f0, .int .i64 x.f3.f8.f1, .int .i64 x.f3.f9, .int .i64 x.f3.f10, .int .i64 x.f3.f11.f0, .int .i64 x.f3.f11.f1, .int .i64 x.f3.f11.f2, .int .i64 x.f3.f12, .int .u64 x.f3.f13, .int .i64 x.f3.f14, .int .i64 x.f3.f15, .int .i64 x.f3.f16, .int .i64 x.f3.f17, .int .i64 x.f3.f18, .bool x.f4], rfl, rfl, ⟨[.int .i64 x.f1], [.int .i64 x.f2, .int .i64 x.f3.f0, .int .i64 x.f3.f1, .int .i64 x.f3.f2, .int .i64 x.f3.f3, .int .u64 x.f3.f4.f0, .int .i64 x.f3.f4.f1, .int .i64 x.f3.f5, .int .i64 x.f3.f6, .int .i64 x.f3.f7, .int .u64 x.f3.f8.f0, .int .i64 x.f3.f8.f1, .int .i64 x.f3.f9, .int .i64 x.f3.f10, .int .i64 x.f3.f11.f0, .int .i64 x.f3.f11.f1, .int .i64 x.f3.f11.f2, .int .i64 x.f3.f12, .int .u64 x.f3.f13, .int .i64 x.f3.f14, .int .i64 x.f3.f15, .int .i64 x.f3.f16, .int .i64 x.f3.f17, .int .i64 x.f3.f18, .bool x.f4], rfl, rfl, ⟨[.int .i64 x.f2], [.int .i64 x.f3.f0, .int .i64 x.f3.f1, .int .i64 x.f3.f2, .int .i64 x.f3.f3, .int .u64 x.f3.f4.f0, .int .i64 x.f3.f4.f1, .int .i64 x.f3.f5, .int .i64 x.f3.f6, .int .i64 x.f3.f7, .int .u64 x.f3.f8.f0, .int .i64 x.f3.f8.f1, .int .i64 x.f3.f9, .int .i64 x.f3.f10, .int .i64 x.f3.f11.f0, .int .i64 x.f3.f11.f1, .int .i64 x.f3.f11.f2, .int .i64 x.f3.f12, .int .u64 x.f3.f13, .int .i64 x.f3.f14, .int .i64 x.f3.f15, .int .i64 x.f3.f16, .int .i64 x.f3.f17, .int .i64 x.f3.f18, .bool x.f4], rfl, rfl, ⟨[.int .i64 x.f3.f0, .int .i64 x.f3.f1, .int .i64 x.f3.f2, .int .i64 x.f3.f3, .int .u64 x.f3.f4.f0, .int .i64 x.f3.f4.f1, .int .i64 x.f3.f5, .int .i64 x.f3.f6, .int .i64 x.f3.f7, .int .u64 x.f3.f8.f0, .int .i64 x.f3.f8.f1, .int .i64 x.f3.f9, .int .i64 x.f3.f10, .int .i64 x.f3.f11.f0, .int .i64 x.f3.f11.f1, .int .i64 x.f3.f11.f2, .int .i64 x.f3.f12, .int .u64 x.f3.f13, .int .i64 x.f3.f14, .int .i64 x.f3.f15, .int .i64 x.f3.f16, .int .i64 x.f3.f17, .int .i64 x.f3.f18], [.bool x.f4], rfl, (k34_mkM w base ok x.f3 ), rfl⟩⟩⟩⟩
def rd_T36 (xs : List S36) (i : Int) : S36 := xs.getD i.toNat z36
end Go.Proofs.Ytpfjpfbhgeoadaa.P
