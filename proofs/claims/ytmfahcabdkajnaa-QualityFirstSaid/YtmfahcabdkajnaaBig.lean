/- A whole struct loaded out of its block, in one step: for the walks. -/
import Derived.Tactics
import Derived.Laws.Rows
import Derived.RowKit
import Derived.WalkKit
namespace Go.Proofs.Ytmfahcabdkajnaa.P
theorem big_load {P : Program} {ops : Array Oper} {rest : List Oper} {o : Oper} {a : Act} {Q : Exit → Act → World → Prop} {W : World} {ty : TypeId} {x : Operand} {g : Nat} {t : TypeId} {cs : Array Value} {fr : Nat × Nat} {fs : Array Field} {n : Nat} (hgd : o.guard = none) (ho : o.op = .load ty x)
    (hu : P.underlying ty = some (.struct fs)) (hi : (P.info? ty).map (·.size) = some n) (hx : a.eval x = .pointer (some ⟨g, 0, none⟩)) (hg : W.heap[g]? = some (.cells cs t fr)) (hn : cs.size = n) (h : wpList P ops Q rest (a.put o.dst (.agg cs)) W) : wpList P ops Q (o :: rest) a W := by
  subst hn
  refine wpList_plain hgd fun K hK => ?_
  exact wp_load_row ty x ho g hx t cs fr _ hg hu rfl hi (hK _ _ h)
theorem cut_over {P : Program} (t e : TypeId) (kh : IntKind) {i : TypeInfo} (ht : P.underlying t = some (.slice e)) (hi : P.info? e = some i) (A : Option Addr) (n c : Nat) (j : Int) (h0 : 0 ≤ j) (hm : j ≤ c) :
    ∀ W : World, (Instr.slice t (.slice A n c) none (some (.int kh j)) none).run P W = .ok (.slice A j.toNat c) W := by
  intro W
  have hel : P.elem t = e := by simp [Program.elem, ht]
  have hu : P.underlying t = some (.slice (P.elem t)) := by rw [hel]; exact ht
  have ha : (A.map fun x => x.add 0) = A := by cases A <;> simp [Addr.add]
  rw [run_slice_h W t A n c hu kh j h0 (by omega), hel]
  simp [sizeOf, typeInfo, hi, sliced, Result.andThen, ha]
end Go.Proofs.Ytmfahcabdkajnaa.P
