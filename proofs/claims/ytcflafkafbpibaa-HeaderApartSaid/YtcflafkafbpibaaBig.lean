/- A whole struct loaded out of its block, in one step: for the walks. -/
import Derived.Tactics
import Derived.Laws.Rows
import Derived.RowKit
import Derived.WalkKit
namespace Go.Proofs.Ytcflafkafbpibaa.P
theorem big_load {P : Program} {ops : Array Oper} {rest : List Oper} {o : Oper} {a : Act} {Q : Exit → Act → World → Prop} {W : World} {ty : TypeId} {x : Operand} {g : Nat} {t : TypeId} {cs : Array Value} {fr : Nat × Nat} {fs : Array Field} {n : Nat} (hgd : o.guard = none) (ho : o.op = .load ty x)
    (hu : P.underlying ty = some (.struct fs)) (hi : (P.info? ty).map (·.size) = some n) (hx : a.eval x = .pointer (some ⟨g, 0, none⟩)) (hg : W.heap[g]? = some (.cells cs t fr)) (hn : cs.size = n) (h : wpList P ops Q rest (a.put o.dst (.agg cs)) W) : wpList P ops Q (o :: rest) a W := by
  subst hn
  refine wpList_plain hgd fun K hK => ?_
  exact wp_load_row ty x ho g hx t cs fr _ hg hu rfl hi (hK _ _ h)
end Go.Proofs.Ytcflafkafbpibaa.P
