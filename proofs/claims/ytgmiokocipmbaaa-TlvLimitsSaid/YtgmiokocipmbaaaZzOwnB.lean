/- What a walk over a function's text leans on: variables, rows, and regions in which reads come in any order. -/
import Derived.Test.YtgmiokocipmbaaaZzOwnA
import Derived.Deep.MidRow
import Derived.ArgAppend
import Derived.Laws.Cells
import Derived.ScopeJumps
set_option linter.unusedVariables false
set_option linter.unusedSimpArgs false
namespace Go.Proofs.Ytgmiokocipmbaaa.E
open Go Go.RowKit Go.Proofs.YtgmiokocipmbaaaW.PrintWords Go.Proofs.YtgmiokocipmbaaaW.PrintLast Go.Proofs.YtgmiokocipmbaaaW.PrintMore
structure Tch (g : Nat) (w w' : World) : Prop where
  os : w'.os = w.os
  tape : w'.tape = w.tape
  output : w'.output = w.output
  size : w.heap.size ≤ w'.heap.size
  block : ∀ k, k < w.heap.size → k ≠ g → w'.heap[k]? = w.heap[k]?
theorem Tch.refl (g : Nat) (w : World) : Tch g w w := ⟨rfl, rfl, rfl, Nat.le_refl _, fun _ _ _ => rfl⟩
theorem Tch.trans {g : Nat} {a b c : World} (h : Tch g a b) (k : Tch g b c) : Tch g a c :=
  ⟨k.os.trans h.os, k.tape.trans h.tape, k.output.trans h.output, Nat.le_trans h.size k.size, fun i hi hne => (k.block i (Nat.lt_of_lt_of_le hi h.size) hne).trans (h.block i hi hne)⟩
theorem Tch.setCell (g i : Nat) (w : World) (v : Value) : Tch g w (w.setCell ⟨g, i, none⟩ v) := ⟨rfl, rfl, rfl, by simp [World.setCell], fun k _ hk => Below.heap_setCell w ⟨g, i, none⟩ v k hk⟩
theorem Tch.below {g B : Nat} {w0 w w' : World} (t : Tch g w w') (h : Below B w0 w) (hg : B ≤ g) (hB : B ≤ w.heap.size) : Below B w0 w' :=
  h.trans ⟨t.os, t.tape, t.output, t.size, fun k hk => t.block k (by omega) (by omega)⟩
theorem Tch.blk {g g2 : Nat} {w w' : World} {o : Obj} (t : Tch g w w') (h : w.heap[g2]? = some o) (hne : g2 ≠ g) : w'.heap[g2]? = some o := (t.block g2 (blk_lt h) hne).trans h
theorem Tch.row {α : Type} {d : Kd α} {e g base : Nat} {w w' : World} {ok : Nat → Prop} {v : Value} {xs : List α} (t : Tch g w w') (h : Kd.R d e w base ok v xs) (hg : g < base) : Kd.R d e w' base ok v xs :=
  Kd.R_mono (Kd.R_move (Kd.R_bound h) (fun k hk => t.block k hk.2.2.1 (by have := hk.2.1; omega))) (fun _ hk => hk.1)
section
variable {P : Program} {o : Oper} {a : Act} {w : World} {p : Told} {ρ : Operand → Value}
theorem Tch.setRow (g : Nat) (w : World) (cs : Array Value) : Tch g w (w.setRow g cs) := ⟨rfl, rfl, rfl, by simp, fun k _ hk => setRow_other w g k cs hk⟩
theorem does_storeAll {t ty : TypeId} {x y : Operand} {g : Nat} {cs cur : Array Value} (ho : o.op = .store ty x y) (hx : a.eval x = .pointer (some ⟨g, 0, none⟩)) (hy : a.eval y = .agg cs) (hg : w.heap[g]? = some (.cells cur t (0, 0)))
    (hi : (P.info? ty).map (·.size) = some cs.size) (hold : cur.size = cs.size) (h1 : cs.toList.all (·.oneCell') = true) :
    Does P o a w (fun u w' => u = undef ∧ w'.heap[g]? = some (.cells cs t (0, 0)) ∧ Tch g w w') :=
  (does_storerow ho hx hy hg hi hold (by rw [← Array.all_toList]; exact h1)).mono fun v w' h => by
    obtain ⟨rfl, rfl⟩ := h
    exact ⟨rfl, setRow_heap w g cur cs t (0, 0) hg, Tch.setRow g w cs⟩
theorem x_alloc {t : TypeId} {cs : Array Value} (ho : o.op = .alloc t) (hz : ((P.info? t).bind (·.zero)).map (·.cells) = some cs) : (execOp ρ o).run P w = .ok (.value (.pointer (some ⟨w.heap.size, 0, none⟩))) (w.alloc (.cells cs t (0, 0))) := by
  obtain ⟨z, h1, rfl⟩ := Option.map_eq_some_iff.1 hz
  obtain ⟨i, hi, h2⟩ := Option.bind_eq_some_iff.1 h1
  unfold execOp
  simp [ho, Sem.run_bind, Instr.alloc, zeroValue, typeInfo, hi, h2, newVar, newRow, run_newObj_alloc, Sem.run_pure, Result.andThen_ok]
theorem x_field {s : TypeId} {x : Operand} {f : Nat} {g b : Nat} {fs : Array Field} {fd : Field} (ho : o.op = .fieldAddr s x f) (hx : ρ x = .pointer (some ⟨g, b, none⟩)) (hu : P.underlying s = some (.struct fs)) (hf : fs[f]? = some fd) (hs : ((P.info? fd.type).map fun i => i.size == 0) = some false) :
    (execOp ρ o).run P w = .ok (.value (.pointer (some ⟨g, b + fd.offset, none⟩))) w := by
  obtain ⟨i, hi, h0⟩ := Option.map_eq_some_iff.1 hs
  have h0 : ¬ i.size = 0 := by simpa using h0
  have ha : (⟨g, b, none⟩ : Addr).add fd.offset = ⟨g, b + fd.offset, none⟩ := Addr.add_mid g b fd.offset
  unfold execOp
  simp [ho, hx, Sem.run_bind, Instr.fieldAt, run_underlying hu, hf, Instr.sureAddr, fieldPlace, sizeOf, typeInfo, hi, h0, ha]
theorem x_fieldE {s : TypeId} {x : Operand} {f : Nat} {g b o2 : Nat} {fs : Array Field} {fd : Field} (ho : o.op = .fieldAddr s x f) (hx : ρ x = .pointer (some ⟨g, b, none⟩)) (hu : P.underlying s = some (.struct fs)) (hf : fs[f]? = some fd) (hoff : b + fd.offset = o2) (hs : ((P.info? fd.type).map fun i => i.size == 0) = some false) :
    (execOp ρ o).run P w = .ok (.value (.pointer (some ⟨g, o2, none⟩))) w := hoff ▸ x_field ho hx hu hf hs
theorem does_var {cs : Array Value} {t : TypeId} {B : Nat} (hr : (execOp a.eval o).run P w = .ok (.value (.pointer (some ⟨w.heap.size, 0, none⟩))) (w.alloc (.cells cs t (0, 0)))) (hB : B ≤ w.heap.size) : Does P o a w (fun v w' => Below w.heap.size w w' ∧ IsB cs t B v w') :=
  (does_box hr).mono fun v w' h => ⟨h.1, h.2.elim fun g h => ⟨g, h.1, Nat.le_trans hB h.2.1, h.2.2⟩⟩
theorem Vals.at {tmps : Array Value} {u : Tmp} {v : Value} {rs : List ResultVar} {vs : List Value} (h : tmps.getD u undef = v) (hv : Vals P tmps w rs vs) : Vals P tmps w (.tmp u :: rs) (v :: vs) := by
  subst h
  exact .tmp hv
end
end Go.Proofs.Ytgmiokocipmbaaa.E
set_option linter.unusedVariables false
set_option linter.unusedSimpArgs false
namespace Go.Proofs.Ytgmiokocipmbaaa.E
open Go Go.RowKit Go.Proofs.YtgmiokocipmbaaaW.PrintWords Go.Proofs.YtgmiokocipmbaaaW.PrintLast Go.Proofs.YtgmiokocipmbaaaW.PrintMore
theorem Does.congr {P : Program} {o : Oper} {a b : Act} {w : World} {R : Value → World → Prop} (he : execOp a.eval o = execOp b.eval o) (hs : a.tmps.size = b.tmps.size) (h : Does P o a w R) : Does P o b w R := fun K Q hk => by
  let K0 : Act → World → Prop := fun c w' => ∃ v, R v w' ∧ c = a.put o.dst v
  let Q0 : Exit → Act → World → Prop := fun _ _ _ => False
  have h0 : o.wp P a w K0 Q0 := h K0 Q0 (fun v w' hv => ⟨v, hv, rfl⟩)
  have key : ∀ v w', K0 (a.put o.dst v) w' → K (b.put o.dst v) w' := by
    rintro v w' ⟨v0, hv, e⟩
    have hb : b.put o.dst v = b.put o.dst v0 := by
      cases hd : o.dst with
      | none => rfl
      | some d =>
        rw [hd] at e
        by_cases hlt : d < a.tmps.size
        · have h1 : sl (a.put (some d) v) d = sl (a.put (some d) v0) d := by rw [e]
          rw [sl_same hlt, sl_same hlt] at h1
          rw [h1]
        · simp only [Act.put]
          have hle : b.tmps.size ≤ d := by rw [← hs]; exact Nat.le_of_not_lt hlt
          rw [Array.setIfInBounds_eq_of_size_le hle, Array.setIfInBounds_eq_of_size_le hle]
    rw [hb]
    exact hk v0 w' hv
  unfold Oper.wp at h0 ⊢
  rw [← he]
  generalize (execOp a.eval o).run P w = r at *
  cases r with
  | ok n w' =>
    cases n with
    | value v => exact key _ _ h0
    | skip => exact key _ _ h0
    | defer d =>
      simp only [Oper.upon] at h0
      obtain ⟨v, _, e⟩ := h0
      have h1 := congrArg Act.defers e
      rw [put_def, put_def] at h1
      have h2 := congrArg List.length h1
      simp at h2
    | enter f xs =>
      simp only [Oper.upon] at h0 ⊢
      refine Calls.mono h0 (fun e w'' h1 => ?_)
      cases e with
      | returned v => exact key _ _ h1
      | panicked c => exact h1.elim
      | outgrown => exact absurd h1 (fun ⟨_, _, hq⟩ => hq)
    | row r xs =>
      simp only [Oper.upon] at h0 ⊢
      exact Rows.mono h0 (fun _ _ h1 => key _ _ h1)
    | _ => exact h0.elim
  | halt x w' => cases x <;> exact h0.elim
def ListC (P : Program) (ops : Array Oper) (C : World → Prop) (Q : Exit → Act → World → Prop) : List Oper → Act → World → Prop
  | [], a, w => Q .normal a w
  | o :: rest, a, w => (Region.wanted o (yielded ops a.tmps) = true ∧ ∃ R : Value → World → Prop, Does P o a w R ∧ ∀ v w', R v w' → C w' ∧ ListC P ops C Q rest (a.put o.dst v) w') ∨ (Region.wanted o (yielded ops a.tmps) = false ∧ ListC P ops C Q rest (a.put o.dst undef) w)
section
variable {P : Program} {ops : Array Oper} {C : World → Prop} {Q : Exit → Act → World → Prop} {o : Oper} {rest : List Oper} {a : Act} {w : World} {R : Value → World → Prop}
def GRun (P : Program) (ops : Array Oper) (o : Oper) (v : Value) (a : Act) (w : World) : Prop :=
  (Region.wanted o (yielded ops a.tmps) = true ∧ (execOp a.eval o).run P w = .ok (.value v) w) ∨ (Region.wanted o (yielded ops a.tmps) = false ∧ v = undef)
inductive GAll (P : Program) (ops : Array Oper) (C : World → Prop) (a : Act) : List Oper → List Bool → List Value → Prop
  | nil {os : List Oper} : GAll P ops C a os [] []
  | g {o : Oper} {os : List Oper} {bs : List Bool} {v : Value} {vs : List Value} : (∀ w, C w → GRun P ops o v a w) → GAll P ops C a os bs vs → GAll P ops C a (o :: os) (true :: bs) (v :: vs)
  | t {o : Oper} {os : List Oper} {bs : List Bool} {v : Value} {vs : List Value} : GAll P ops C a os bs vs → GAll P ops C a (o :: os) (false :: bs) (v :: vs)
theorem GAll.out : ∀ {os : List Oper} {bs : List Bool} {vs : List Value}, GAll P ops C a os bs vs → ∀ (i : Nat) (o : Oper) (v : Value), bs[i]? = some true → vs[i]? = some v → os[i]? = some o → ∀ w, C w → GRun P ops o v a w
  | _, _, _, .nil, i, o, v, h, _, _ => by simp at h
  | _, _, _, .g hg hs, i, o, v, h1, h2, h3 => by
    cases i with
    | zero =>
      simp only [List.getElem?_cons_zero, Option.some.injEq] at h2 h3
      subst h2; subst h3
      exact hg
    | succ i =>
      simp only [List.getElem?_cons_succ] at h1 h2 h3
      exact hs.out i o v h1 h2 h3
  | _, _, _, .t hs, i, o, v, h1, h2, h3 => by
    cases i with
    | zero => simp at h1
    | succ i =>
      simp only [List.getElem?_cons_succ] at h1 h2 h3
      exact hs.out i o v h1 h2 h3
theorem GRun.on {v : Value} (hg : o.guard = none) (h : (execOp a.eval o).run P w = .ok (.value v) w) : GRun P ops o v a w := .inl ⟨by simp [Region.wanted, hg], h⟩
theorem GRun.y {N : Nat} {bs : List (Nat × Value)} {v : Value} {g d : Nat} {b : Bool} (hS : St N bs a) (hg : o.guard = some (g, b)) (hd : (ops[g]?).bind (·.dst) = some d) (hN : Nat.blt d N = true) (hv : sl a d = .bool b) (h : (execOp a.eval o).run P w = .ok (.value v) w) : GRun P ops o v a w :=
  .inl ⟨by rw [wanted_of hg hd (by rw [hS.size]; simpa using hN) hv]; cases b <;> rfl, h⟩
theorem GRun.n {N : Nat} {bs : List (Nat × Value)} {g d : Nat} {b : Bool} (hS : St N bs a) (hg : o.guard = some (g, b)) (hd : (ops[g]?).bind (·.dst) = some d) (hN : Nat.blt d N = true) (hv : sl a d = .bool (!b)) : GRun P ops o undef a w :=
  .inr ⟨by rw [wanted_of hg hd (by rw [hS.size]; simpa using hN) hv]; cases b <;> rfl, rfl⟩
theorem GRun.u {N : Nat} {bs : List (Nat × Value)} {g d : Nat} {b : Bool} (hS : St N bs a) (hg : o.guard = some (g, b)) (hd : (ops[g]?).bind (·.dst) = some d) (hN : Nat.blt d N = true) (hv : sl a d = undef) : GRun P ops o undef a w := by
  have hlt : d < a.tmps.size := by rw [hS.size]; simpa using hN
  have h1 : a.tmps[d]? = some undef := by
    rw [Array.getElem?_eq_getElem hlt, ← hv]
    simp [sl, Array.getD, hlt]
  exact .inr ⟨by simp only [Region.wanted, hg, yielded, hd, Option.bind_some, h1]; simp [undef], rfl⟩
end
def GPre (ops : Array Oper) (N : Nat) (gm : List Bool) (gv : List Value) (a : Act) : Prop := ∀ (j : Nat) (v : Value), gm[j]? = some true → gv[j]? = some v → sl a (dstOf ops N j) = v
theorem GPre.get {ops : Array Oper} {N : Nat} {gm : List Bool} {gv : List Value} {a : Act} (h : GPre ops N gm gv a) (j : Nat) (hm : gm[j]? = some true) {v : Value} (hv : gv[j]? = some v) {d : Nat} (hd : dstOf ops N j = d) : sl a d = v := hd ▸ h j v hm hv
def readsOf (ops : Array Oper) (o : Oper) : List Nat :=
  (o.op.operands.toList.filterMap fun x => match x with | .tmp d => some d | _ => none) ++ (match o.guard with | some (g, _) => (match (ops[g]?).bind (·.dst) with | some d => [d] | none => []) | none => [])
structure FloatAt (ops : Array Oper) (N : Nat) (keys : List Nat) (gm : List Bool) (ms : List Nat) (i : Nat) (o : Oper) : Prop where
  sel : ∀ cs b, o.op ≠ .select cs b
  aft : ∀ e ∈ o.after, Region.binds .any e = true → e.on < i ∧ (gm.getD i false = true → gm.getD e.on false = true)
  gdst : gm.getD i false = true → ∃ d, o.dst = some d ∧ d < N ∧ d ∉ keys
  dst : ∀ d, o.dst = some d → d < N ∧ ∀ j, j < ops.size → j ≠ i → (ops[j]?).bind (·.dst) ≠ some d
  order : gm.getD i false = false → ∀ j, j < i → gm.getD j false = false → Nat.testBit (ms.getD i 0) j = true
  reads : ∀ d ∈ readsOf ops o, ∀ j, j < ops.size → (ops[j]?).bind (·.dst) = some d → (gm.getD j false = true → ∃ e ∈ o.after, Region.binds .any e = true ∧ e.on = j) ∧ (gm.getD j false = false → gm.getD i false = true → i < j ∧ Nat.testBit (ms.getD j 0) i = true)
def tailT : List Oper → List Bool → List Oper
  | _ :: os, true :: bs => tailT os bs
  | o :: os, false :: bs => o :: tailT os bs
  | _, _ => []
section
variable {P : Program} {ops : Array Oper} {N : Nat} {keys : List Nat} {gm gs_ : List Bool} {gv : List Value} {ms : List Nat} {C : World → Prop} {Q : Exit → Act → World → Prop}
structure FInv (P : Program) (ops : Array Oper) (N : Nat) (gm gs_ : List Bool) (gv : List Value) (C : World → Prop) (Q : Exit → Act → World → Prop) (a0 : Act) (listed : Array Bool) (a as_ : Act) (w : World) (r : Nat) : Prop where
  sz : listed.size = ops.size
  cl : Closed ops listed
  sa : a.tmps.size = N
  ss : as_.tmps.size = N
  df : a.defers = as_.defers
  ag : ∀ d, (∀ i, i < ops.size → gm.getD i false = true → listed.getD i true = false → (ops[i]?).bind (·.dst) ≠ some d) → sl a d = sl as_ d
  gs : GPre ops N gs_ gv as_
  al : ∀ i, i < ops.size → gm.getD i false = true → gs_.getD i false = false → listed.getD i true = true
  h0 : ∀ d, (∀ i, i < ops.size → gm.getD i false = false → listed.getD i true = true → (ops[i]?).bind (·.dst) ≠ some d) → sl as_ d = sl a0 d
  hC : C w
  tl : ∀ i, i < ops.size → gm.getD i false = false → (listed.getD i true = true ↔ i < r)
  rest : ListC P ops C Q (tailT (ops.toList.drop r) (gm.drop r)) as_ w
inductive GTell : List Bool → List Value → List Told → Prop
  | nil {vs : List Value} : GTell [] vs []
  | g {bs : List Bool} {v : Value} {vs : List Value} {ps : List Told} : GTell bs vs ps → GTell (true :: bs) (v :: vs) (IsV v :: ps)
  | t {bs : List Bool} {v : Value} {vs : List Value} {p : Told} {ps : List Told} : GTell bs vs ps → GTell (false :: bs) (v :: vs) (p :: ps)
  | f {bs : List Bool} {v : Value} {vs : List Value} : GTell bs vs [] → GTell (false :: bs) (v :: vs) []
theorem GTell.out : ∀ {bs : List Bool} {vs : List Value} {ps : List Told}, GTell bs vs ps → ∀ (i : Nat) (v : Value), bs[i]? = some true → vs[i]? = some v → ps[i]? = some (IsV v)
  | _, _, _, .nil, i, v, h, _ => by simp at h
  | _, _, _, .g hs, i, v, h1, h2 => by
    cases i with
    | zero =>
      simp only [List.getElem?_cons_zero, Option.some.injEq] at h2
      subst h2
      rfl
    | succ i =>
      simp only [List.getElem?_cons_succ] at h1 h2 ⊢
      exact hs.out i v h1 h2
  | _, _, _, .t hs, i, v, h1, h2 => by
    cases i with
    | zero => simp at h1
    | succ i =>
      simp only [List.getElem?_cons_succ] at h1 h2 ⊢
      exact hs.out i v h1 h2
  | _, _, _, .f hs, i, v, h1, h2 => by
    cases i with
    | zero => simp at h1
    | succ i =>
      simp only [List.getElem?_cons_succ] at h1 h2
      have := hs.out i v h1 h2
      simp at this
end
end Go.Proofs.Ytgmiokocipmbaaa.E
set_option linter.unusedVariables false
set_option linter.unusedSimpArgs false
namespace Go.Proofs.Ytgmiokocipmbaaa.E
open Go Go.RowKit Go.Proofs.YtgmiokocipmbaaaW.PrintWords Go.Proofs.YtgmiokocipmbaaaW.PrintLast Go.Proofs.YtgmiokocipmbaaaW.PrintMore
structure Flat {α : Type} (d : Kd α) (f : α → List Value) : Prop where
  opens : ∀ w x cs, d.K w x cs → cs = f x
  made : ∀ w base x, d.M w base (fun _ => False) x (f x)
theorem Flat.len {α : Type} {d : Kd α} {f : α → List Value} (F : Flat d f) (w : World) (x : α) : (f x).length = d.sz := d.K_len (d.K_of_M (F.made w 0 x))
theorem flat_int (k : IntKind) : Flat (Kd.int k) (fun x => [.int k x]) := ⟨fun _ _ _ h => h, fun _ _ _ => rfl⟩
theorem add_add (ad : Addr) (m j : Nat) : (ad.add m).add j = ad.add (m + j) := by
  unfold Addr.add
  by_cases hm : m = 0 <;> by_cases hj : j = 0 <;> simp [hm, hj]
  omega
def IsAT (cs : List Value) : Told := fun v w => ∃ ad : Addr, v = .pointer (some ad) ∧ ad.block < w.heap.size ∧ ∀ j u, cs[j]? = some u → w.cell? (ad.add j) = some u
theorem Stays.at_ (cs : List Value) : Stays (IsAT cs) := fun _ w w' ⟨ad, h1, h2, h3⟩ hb => ⟨ad, h1, Nat.lt_of_lt_of_le h2 hb.size, fun j u hj => (hb.cell (by rw [add_block]; exact h2)).trans (h3 j u hj)⟩
def IsT (mk : Value → Array Value) (p : Told) : Told := fun v w => ∃ v0, v = .tuple (mk v0) ∧ p v0 w
theorem Stays.t (mk : Value → Array Value) {p : Told} (h : Stays p) : Stays (IsT mk p) := fun _ _ _ ⟨v0, h1, h2⟩ hb => ⟨v0, h1, h _ _ _ h2 hb⟩
section
variable {P : Program} {ops : Array Oper} {o : Oper} {a : Act} {w : World} {ρ : Operand → Value}
theorem does_indexT {α : Type} {d : Kd α} {f : α → List Value} (F : Flat d f) {t e : TypeId} {x y : Operand} {A : Option Addr} {n c : Nat} {xs : List α} {i : Int} {ki : IntKind} (z : α) (ho : o.op = .indexAddr t x y) (hx : a.eval x = .slice A n c) (hy : a.eval y = .int ki i) (ht : P.underlying t = some (.slice e)) (hs : (P.info? e).map (·.size) = some d.sz)
    (h0 : 0 ≤ i) (hn : i < n) (h1 : i < (xs.length : Int)) (hsz : 0 < d.sz) (hC : Kd.C d w A xs.length xs) : Does P o a w (fun v w' => Below w.heap.size w w' ∧ IsAT (f (xs.getD i.toNat z)) v w') := by
  obtain ⟨ad, cs, rfl, hl, hK, hc⟩ := Kd.C_get hC z i h0 h1
  obtain rfl := F.opens _ _ _ hK
  refine does_val (p := IsAT (f (xs.getD i.toNat z))) (x_index ho hx hy ht hs h0 hn) ⟨_, rfl, ?_, fun j u hj => ?_⟩
  · have h3 := hc 0 _ (List.getElem?_eq_getElem (by omega))
    have h4 := World.block_lt_of_cell? w _ h3
    rw [add_block] at h4 ⊢
    exact h4
  · rw [add_add]
    exact hc j u hj
theorem run_loadVar_at (ad : Addr) (ty : TypeId) (cs : List Value) (d : TypeDesc) (hc : ∀ j v, cs[j]? = some v → w.cell? (ad.add j) = some v)
    (hu : P.underlying ty = some d) (hd : d.isRow = true) (hi : (P.info? ty).map (·.size) = some cs.length) : (loadVar ty ad).run P w = .ok (.agg cs.toArray) w := by
  have hl : (loadCells ad cs.length).run P w = .ok cs.toArray w := run_loadCells_list (P := P) w ad cs hc
  cases hq : P.info? ty with
  | none => simp [hq] at hi
  | some i =>
    have hs : i.size = cs.length := by simpa [hq] using hi
    have hagg : (isAgg ty).run P w = .ok true w := by
      unfold isAgg
      rw [Sem.run_bind, run_underlying hu w]
      cases d <;> simp_all
    simp [loadVar, Sem.run_bind, hagg, sizeOf, typeInfo, hq, hs, hl]
theorem does_loadT {cs : List Value} {t : TypeId} {x : Operand} {d : TypeDesc} (ho : o.op = .load t x) (hx : IsAT cs (a.eval x) w) (hu : P.underlying t = some d) (hd : d.isRow = true) (hi : (P.info? t).map (·.size) = some cs.length) : Does P o a w (fun v w' => Below w.heap.size w w' ∧ IsV (.agg cs.toArray) v w') := by
  obtain ⟨ad, h1, h2, h3⟩ := hx
  refine does_val ?_ rfl
  simp [execOp, ho, h1, Instr.loadAt, Instr.sureAddr, Sem.run_bind, run_loadVar_at ad t cs d h3 hu hd hi]
theorem does_moreT {α : Type} {d : Kd α} {f : α → List Value} (F : Flat d f) {W : World} (s x : Operand) (t e : TypeId) (z : Value) (bytes : Nat) (ho : o.op = .call { callee := .builtin .append, args := #[s, x], argTypes := #[t, t] })
    (ht : P.underlying t = some (.slice e)) (hinfo : (P.info? e).map (fun i => (i.zero, i.size, i.bytes)) = some (some z, d.sz, bytes)) (hz : z.cells.size = d.sz) (hs0 : 0 < d.sz) (hb0 : 0 < bytes) (v : Value) (xs ys : List α) (A : Option Addr) (m c : Nat) (hs : a.eval s = v) (hx : a.eval x = .slice A m c)
    (HO : Kd.R d e w W.heap.size (fun _ => True) v xs) (HR : Kd.C d w A m ys) (hb : Below W.heap.size W w) (hl : (xs.length + ys.length) * bytes ≤ 140737488355328) : Does P o a w (fun v w' => Below W.heap.size W w' ∧ IsR d e W.heap.size (xs ++ ys) v w' ∧ KeepT e w w') := by
  have hm : ys.length = m := HR.1
  exact does_of_list fun _ _ _ h => Kd.R_append_rows d (Rr := d.K w) (w0 := W) W.heap.size rfl s x t e z bytes ho ht hinfo hz hs0 hb0 v xs ys A m c (fun _ => True) (fun _ => False) hs hx HO HR
    (fun x cs hK => by rw [F.opens _ _ _ hK]; exact F.made _ _ _) (fun _ h => h.elim) (fun _ _ => trivial) hb hb.size (by rw [← hm]; exact hl) (fun v1 w1 a1 a2 a3 _ => h v1 w1 ⟨a2, a1, keepT_of HO a3⟩)
theorem does_moreS {W : World} (s x : Operand) (t u e : TypeId) (ho : o.op = .call { callee := .builtin .append, args := #[s, x], argTypes := #[t, u] })
    (ht : P.underlying t = some (.slice e)) (hu : P.underlying u = some .string) (hinfo : (P.info? e).map (fun i => (i.zero, i.size, i.bytes)) = some (some (.int .u8 0), 1, 1)) (v : Value) (xs : List Int) (y : ByteArray) (hs : a.eval s = v) (hx : a.eval x = .string y)
    (HO : Kd.R (Kd.int .u8) e w W.heap.size (fun _ => True) v xs) (hb : Below W.heap.size W w) (hl : xs.length + y.size ≤ 140737488355328) : Does P o a w (fun v w' => Below W.heap.size W w' ∧ IsR (Kd.int .u8) e W.heap.size (xs ++ bytesOf y) v w' ∧ KeepT e w w') :=
  does_of_list fun _ _ _ h => print_append_str (w0 := W) W.heap.size rfl s x t u e ho ht hu hinfo v xs y hs hx (Kd.own_of_R HO) hb hb.size hl (fun v1 w1 a1 a2 a3 => h v1 w1 ⟨a2, Kd.R_of_own a1 (fun _ _ => trivial), keepT_of HO a3⟩)
theorem R_one {α : Type} {d : Kd α} {f : α → List Value} (F : Flat d f) (w : World) (B e : Nat) (p : α) (hb : B ≤ w.heap.size) : Kd.R d e (w.alloc (.cells (f p).toArray e)) B (fun _ => True) (.slice (some ⟨w.heap.size, 0, none⟩) 1 1) [p] := by
  have hrep : Reps (d.M w B (fun _ => False)) d.sz [p] (f p) := by
    have := (Reps.none (d.M w B (fun _ => False)) d.sz).snoc (F.made w B p) (F.len w p)
    simpa using this
  refine ⟨fun _ _ => trivial, f p, ?_, ?_⟩
  · have h2 := World.ownsRow_lit (base := B) (e := e) (size := d.sz) w (f p).toArray 1 hb (by simp [maxLen]) (by simpa using F.len w p)
    simpa using h2
  · refine hrep.imp_ (fun p c hp => d.M_mono (fun k hk => ⟨trivial, fun he => ?_⟩) (Kd.M_below (d.M_bound hp) (below_alloc (Below.refl _ _) _)))
    exact hk.1.elim
theorem does_litT {α : Type} {d : Kd α} {f : α → List Value} (F : Flat d f) (B t e : TypeId) (parts : Array (Nat × Operand)) (vs : List (Nat × Value)) (p : α) (ho : o.op = .buildSlice t 1 parts) (hu : P.underlying t = some (.slice e)) (hv : (parts.map fun (i, x) => (i, a.eval x)).toList = vs)
    (hf : P.builtSlice e 1 vs = some (f p).toArray) (hb : B ≤ w.heap.size) : Does P o a w (fun v w' => Below w.heap.size w w' ∧ IsR d e B [p] v w') := by
  subst hv
  exact does_of_list fun ops Q rest h => Great.wpList_buildSliceTo rfl t e 1 parts ho w.heap.size rfl o.dst rfl hu _ hf (h _ _ ⟨below_alloc (Below.refl _ _) _, R_one F w B e p hb⟩)
theorem does_make {α : Type} {d : Kd α} {f : α → List Value} (F : Flat d f) (B t e : TypeId) (x y : Operand) {N : Tmp} (hN : o.dst = some N) (ho : o.op = .makeSlice t x y) (n : Int) (hx : a.eval x = .int .i64 n) (hy : a.eval y = .int .i64 n) (ht : P.underlying t = some (.slice e)) (z : Value) (z0 : α) (bytes : Nat) (hinfo : (P.info? e).map (fun i => (i.zero, i.size, i.bytes)) = some (some z, d.sz, bytes))
    (hz : z.cells.toList = f z0) (hs0 : 0 < d.sz) (hb0 : 0 < bytes) (h0 : 0 ≤ n) (hl : n.toNat * bytes ≤ 281474976710656) (hb : B ≤ w.heap.size) : Does P o a w (fun v w' => Below w.heap.size w w' ∧ IsR d e B (List.replicate n.toNat z0) v w') :=
  does_of_list fun _ _ _ h => Kd.R_make d (w0 := w) w.heap.size e rfl (N := N) hN t x y ho n hx hy ht z bytes hinfo (by rw [← Array.length_toList, hz]; exact F.len w z0) hs0 hb0 z0 (ok := fun _ => True) (okp := fun _ => False) (by rw [hz]; exact F.made _ _ _) (fun _ h => h.elim) trivial h0 hl (Below.refl _ _) (Nat.le_refl _)
    (fun v1 w1 a1 a2 _ _ => h v1 w1 ⟨a2, Kd.R_lower a1 hb⟩)
theorem x_cutcap {t e : TypeId} {x y z : Operand} {A : Option Addr} {n c : Nat} {j k : Int} (ho : o.op = .slice t x none (some y) (some z)) (ht : P.underlying t = some (.slice e)) (hi : ((P.info? e).map (·.size)).isSome = true) (hx : ρ x = .slice A n c) (hy : ρ y = .int .i64 j) (hz : ρ z = .int .i64 k) (h0 : 0 ≤ j) (hjk : j ≤ k) (hk : k ≤ (c : Int)) :
    (execOp ρ o).run P w = .ok (.value (.slice A j.toNat k.toNat)) w := by
  obtain ⟨f, hf⟩ := Option.isSome_iff_exists.1 hi
  obtain ⟨i, hi, _⟩ := Option.map_eq_some_iff.1 hf
  have h0k : 0 ≤ k := by omega
  have hjk2 : j ≤ max k 0 := by omega
  have hA : (if k.toNat = 0 then A else A.map (·.add 0)) = A := by
    split
    · rfl
    · cases A <;> simp [Addr.add]
  have hrun : (Instr.slice t (.slice A n c) none (some (.int .i64 j)) (some (.int .i64 k))).run P w = .ok (.slice A j.toNat k.toNat) w := by
    unfold Instr.slice
    rw [Sem.run_bind, run_underlying ht]
    simp [Instr.sliceBounds, Instr.sliceBound, asIntOf, h0, hjk, hk, h0k, hjk2, sizeOf, typeInfo, hi, go_sem]
    try exact hA
  simp only [execOp, ho, hx, hy, hz, Option.map_none, Option.map_some, Instr.sliceAt]
  rw [Sem.run_bind, Sem.run_bind, run_underlying ht]
  simp only [Result.andThen_ok]
  rw [hrun]
  rfl
theorem does_capped {k : IntKind} {B : Nat} (s x : Operand) (t e : TypeId) (z : Value) (bytes : Nat) (ho : o.op = .call { callee := .builtin .append, args := #[s, x], argTypes := #[t, t] })
    (ht : P.underlying t = some (.slice e)) (hinfo : (P.info? e).map (fun i => (i.zero, i.size, i.bytes)) = some (some z, 1, bytes)) (hz : z.cells.size = 1) (hb0 : 0 < bytes) (xs ys : List Int) (A A2 : Option Addr) (c2 : Nat) (hs : a.eval s = .slice A xs.length xs.length) (hx : a.eval x = .slice A2 ys.length c2) (hy : 0 < ys.length)
    (HC : Kd.C (Kd.int k) w A xs.length xs) (HR : Kd.C (Kd.int k) w A2 ys.length ys) (hb : B ≤ w.heap.size) (hl : (xs.length + ys.length) * bytes ≤ 140737488355328) : Does P o a w (fun v w' => Below w.heap.size w w' ∧ IsR (Kd.int k) e B (xs ++ ys) v w') := by
  obtain ⟨i0, hi, hzz⟩ := Option.map_eq_some_iff.1 hinfo
  simp only [Prod.mk.injEq] at hzz
  obtain ⟨hz0, hz1, hz2⟩ := hzz
  have hlen : xs.length + ys.length ≤ 140737488355328 := Nat.le_trans (Nat.le_mul_of_pos_right _ hb0) hl
  have hrx := Kd.reads_of_C (d := (0 : Int)) HC
  have hry := Kd.reads_of_C (d := (0 : Int)) HR
  obtain ⟨ad2, rfl, hc2⟩ := hry.2.2 hy
  refine does_of_list fun ops Q rest h => wpList_append_grows w rfl s x t ho e i0 z 1 bytes ht hi hz0 hz1 hz2 hz (by omega) A xs.length xs.length (encs (Value.int k) xs) hs ?_ (by simp [encs_length]) ?_ ad2 ys.length c2 (encs (Value.int k) ys) hx (by simp [encs_length]) ?_ ?_ (by omega) (by simp only [maxLen]; omega) hl ?_
  · rintro rfl
    rcases Nat.eq_zero_or_pos xs.length with h0 | h0
    · exact ⟨h0, h0⟩
    · obtain ⟨ad, e1, _⟩ := hrx.2.2 h0
      cases e1
  · rintro b rfl j u hj
    have hjl : j < xs.length := by have := (List.getElem?_eq_some_iff.1 hj).1; simpa [encs_length] using this
    obtain ⟨ad, e1, hc⟩ := hrx.2.2 (by omega)
    injection e1 with e1
    subst e1
    have h1 := hc j hjl
    have h2 : u = .int k (xs.getD j 0) := by
      simp only [encs, List.getElem?_map, List.getElem?_eq_getElem hjl, Option.map_some, Option.some.injEq] at hj
      rw [← hj, List.getD_eq_getElem?_getD, List.getElem?_eq_getElem hjl]
      rfl
    rw [h2]
    exact h1
  · intro j u hj
    have hjl : j < ys.length := by have := (List.getElem?_eq_some_iff.1 hj).1; simpa [encs_length] using this
    have h1 := hc2 j hjl
    have h2 : u = .int k (ys.getD j 0) := by
      simp only [encs, List.getElem?_map, List.getElem?_eq_getElem hjl, Option.map_some, Option.some.injEq] at hj
      rw [← hj, List.getD_eq_getElem?_getD, List.getElem?_eq_getElem hjl]
      rfl
    rw [h2]
    exact h1
  · intro u hu
    simp only [encs, List.mem_map] at hu
    obtain ⟨_, _, rfl⟩ := hu
    rfl
  · intro v1 w1 hown hg
    refine h v1 w1 ⟨pw_below_grown (Below.refl _ _) none (Nat.le_refl _) hg (by simp), ?_⟩
    have hown2 : w1.ownsRow w.heap.size e 1 v1 (xs ++ ys).length (encs (Value.int k) (xs ++ ys)) := by
      have h3 : encs (Value.int k) (xs ++ ys) = encs (Value.int k) xs ++ encs (Value.int k) ys := by simp [encs]
      rw [h3, List.length_append]
      exact hown
    exact Kd.R_lower (Kd.R_of_own hown2 (fun _ _ => trivial)) hb
end
end Go.Proofs.Ytgmiokocipmbaaa.E
set_option linter.unusedVariables false
set_option linter.unusedSimpArgs false
namespace Go.Proofs.Ytgmiokocipmbaaa.E
open Go Go.RowKit Go.Proofs.YtgmiokocipmbaaaW.PrintWords Go.Proofs.YtgmiokocipmbaaaW.PrintLast Go.Proofs.YtgmiokocipmbaaaW.PrintMore
section
variable {P : Program} {ops : Array Oper} {N m : Nat} {bs : List (Nat × Value)} {I : World → Prop} {ps : List Told}
inductive StaysS (S : World → World → Prop) : List Told → List Bool → Prop
  | nil : StaysS S [] []
  | k {p : Told} {ps : List Told} {bs : List Bool} : (∀ v w w', p v w → S w w' → p v w') → StaysS S ps bs → StaysS S (p :: ps) (true :: bs)
  | s {p : Told} {ps : List Told} {bs : List Bool} : StaysS S ps bs → StaysS S (p :: ps) (false :: bs)
theorem StaysS.out {S : World → World → Prop} : ∀ {ps : List Told} {fl : List Bool}, StaysS S ps fl → ∀ j, fl.getD j false = true → ∀ v w w', told ps j v w → S w w' → told ps j v w'
  | _, _, .nil, j, h => by simp at h
  | _, _, .k hp hs, j, h => by
    cases j with
    | zero => exact fun v w w' h1 h2 => hp v w w' h1 h2
    | succ j => exact fun v w w' h1 h2 => hs.out j (by simpa using h) v w w' h1 h2
  | _, _, .s hs, j, h => by
    cases j with
    | zero => simp at h
    | succ j => exact fun v w w' h1 h2 => hs.out j (by simpa using h) v w w' h1 h2
inductive Makes (P : Program) (ops : Array Oper) (ps : List Told) (B : Nat) : List Nat → Prop
  | nil : Makes P ops ps B []
  | cons {i : Nat} {is : List Nat} {cs : Array Value} {t : TypeId} {o : Oper} : ps[i]? = some (IsB cs t B) → ops[i]? = some o → o.guard = none → (∀ a w, Does P o a w (fun v w' => Below w.heap.size w w' ∧ IsB cs t w.heap.size v w')) → Makes P ops ps B is → Makes P ops ps B (i :: is)
theorem Makes.out {B : Nat} : ∀ {is : List Nat}, Makes P ops ps B is → ∀ i ∈ is, ∃ cs t o, ps[i]? = some (IsB cs t B) ∧ ops[i]? = some o ∧ o.guard = none ∧ ∀ a w, Does P o a w (fun v w' => Below w.heap.size w w' ∧ IsB cs t w.heap.size v w')
  | _, .nil, i, h => by cases h
  | _, .cons h1 h2 h3 h4 hs, i, h => by
    rcases List.mem_cons.1 h with rfl | h
    · exact ⟨_, _, _, h1, h2, h3, h4⟩
    · exact hs.out i h
theorem Does.at_ {o : Oper} {a : Act} {w w' : World} {u : Value} {R : Value → World → Prop} (hr : (execOp a.eval o).run P w = .ok (.value u) w') (h : Does P o a w R) : Does P o a w (fun v1 w1 => R v1 w1 ∧ w1 = w') := fun K Q hk => by
  have h0 := h (fun b w1 => ∃ v, R v w1 ∧ b = a.put o.dst v) Q (fun v w1 hv => ⟨v, hv, rfl⟩)
  unfold Oper.wp at h0 ⊢
  rw [hr, Oper.upon_value] at h0 ⊢
  obtain ⟨v, hv, e⟩ := h0
  rw [e]
  exact hk v w' ⟨hv, rfl⟩
theorem run_keeps {w : World} (base : Nat) (t ty e : TypeId) (i : TypeInfo) (z : Value) (size bytes : Nat) (ht : P.underlying t = some (.slice e)) (hi : P.info? e = some i) (hz : i.zero = some z)
    (hsize : i.size = size) (hby : i.bytes = bytes) (hzs : z.cells.size = size) (hsz : 0 < size)
    (v : Value) (n : Nat) (xs : List Value) (hown : w.ownsRow base e size v n xs)
    (a : Addr) (m c : Nat) (news : List Value) (hl : news.length = m * size) (hnews : ∀ j u, news[j]? = some u → w.cell? (a.add j) = some u) (h1 : ∀ u ∈ news, u.oneCell' = true)
    (h63 : n + m ≤ maxLen) (hbytes : (n + m) * bytes ≤ 140737488355328) :
    ∃ v' w', (Builtin.append_ #[t, t] ty #[v, .slice (some a) m c]).run P w = .ok v' w' ∧ w'.ownsRow base e size v n xs := by
  subst hsize
  subst hby
  have hsmall : n + m ≤ 9223372036854775807 := by simp only [maxLen] at h63; omega
  have hown0 := hown
  rcases hown.2 with ⟨rfl, rfl⟩ | ⟨g, cap, cur, rfl, hbg, hg, hnc, hcm, hcs, htake⟩
  · by_cases hm : m = 0
    · subst hm
      have hn : news = [] := List.eq_nil_of_length_eq_zero (by simpa using hl)
      subst hn
      refine ⟨.slice none 0 0, w, ?_, hown0⟩
      simp [Builtin.append_, run_underlying ht, sizeOf, typeInfo, hi, Builtin.lenOf, Builtin.firstCells, loadCells, loadCellsFrom]
    · have hr := run_append_nil (P := P) w t ty e i z ht hi hz a m c news hl hnews (by omega) (by omega) (by have hb := hbytes; simp only [Nat.zero_add] at hb; omega)
      exact ⟨_, _, hr, hown0.1, .inl ⟨rfl, rfl⟩⟩
  · by_cases hroom : n + m ≤ cap
    · have hfit : n * i.size + news.length ≤ cur.size := by rw [hl, hcs, ← Nat.add_mul]; exact Nat.mul_le_mul_right _ hroom
      have hr := run_append_room (P := P) w t ty e i ht hi g n cap cur hg a m c news hl hnews h1 hroom hfit
      refine ⟨_, _, hr, hown0.1, .inr ⟨g, cap, _, rfl, hbg, setRow_heap w g cur _ e _ hg, hnc, hcm, ?_, ?_⟩⟩
      · simp only [List.size_toArray, List.length_append, List.length_take, List.length_drop, Array.length_toList]
        omega
      · have hx : (cur.toList.take (n * i.size)).length = n * i.size := by rw [htake, hown0.1]
        simp only [List.append_assoc]
        rw [List.take_left' hx, htake]
    · have holds : ∀ j u, xs[j]? = some u → w.cell? ((⟨g, 0, none⟩ : Addr).add j) = some u := hown.cells (g := g) rfl
      have hr := run_append_grow (P := P) w t ty e i z ht hi hz ⟨g, 0, none⟩ n cap xs hown.1 holds a m c news hl hnews (by omega) (by omega) (growslice_fits (by omega) hbytes)
      exact ⟨_, _, hr, hown0.1, .inr ⟨g, cap, cur, rfl, hbg, ((World.grownBy_alloc w.drew _ none).block g (blk_lt hg) (by simp)).trans hg, hnc, hcm, hcs, htake⟩⟩
theorem does_keep {o : Oper} {a : Act} {w : World} {k : IntKind} {W : World} (s x : Operand) (t e : TypeId) (bytes : Nat) (ho : o.op = .call { callee := .builtin .append, args := #[s, x], argTypes := #[t, t] })
    (ht : P.underlying t = some (.slice e)) (hinfo : (P.info? e).map (fun i => (i.zero, i.size, i.bytes)) = some (some (.int k 0), 1, bytes)) (hb0 : 0 < bytes) (v : Value) (xs ys : List Int) (A : Option Addr) (c : Nat) (hs : a.eval s = v) (hx : a.eval x = .slice A ys.length c)
    (HO : Kd.R (Kd.int k) e w W.heap.size (fun _ => True) v xs) (HR : Kd.C (Kd.int k) w A ys.length ys) (hb : Below W.heap.size W w) (hl : (xs.length + ys.length) * bytes ≤ 140737488355328) (hpos : 0 < ys.length) :
    Does P o a w (fun v1 w' => Below W.heap.size W w' ∧ IsR (Kd.int k) e W.heap.size (xs ++ ys) v1 w' ∧ KeepT e w w' ∧ Kd.R (Kd.int k) e w' W.heap.size (fun _ => True) v xs) := by
  obtain ⟨i0, hi, hzz⟩ := Option.map_eq_some_iff.1 hinfo
  simp only [Prod.mk.injEq] at hzz
  obtain ⟨hz0, hz1, hz2⟩ := hzz
  have HC := Kd.reads_of_C (enc := Value.int k) (d := (0 : Int)) (h1 := fun _ => rfl) HR
  have hlen : xs.length + ys.length ≤ 140737488355328 := Nat.le_trans (Nat.le_mul_of_pos_right _ hb0) hl
  obtain ⟨ad, rfl, hc⟩ := HC.2.2 hpos
  have hcells : ∀ j u, (encs (Value.int k) ys)[j]? = some u → w.cell? (ad.add j) = some u := by
    intro j u hu
    have hj : j < ys.length := by
      rcases Nat.lt_or_ge j ys.length with h | h
      · exact h
      · simp [encs, List.getElem?_eq_none h] at hu
    rw [encs_get (d := (0 : Int)) ys j hj] at hu
    rw [← hu]
    exact hc j (by omega)
  obtain ⟨u, w', hr, hold⟩ := run_keeps (P := P) (w := w) W.heap.size t o.type e i0 (.int k 0) 1 bytes ht hi hz0 hz1 hz2 rfl (by omega) v xs.length (encs (Value.int k) xs) (Kd.own_of_R (enc := Value.int k) (h1 := fun _ => rfl) HO) ad ys.length c (encs (Value.int k) ys) (by simp [encs]) hcells
    (by intro u hu; simp only [encs, List.mem_map] at hu; obtain ⟨q, _, rfl⟩ := hu; rfl) (by simp only [maxLen]; omega) hl
  have hrun : (execOp a.eval o).run P w = .ok (.value u) w' := by
    unfold execOp
    simp only [ho, resolve, invoke, builtin, Sem.run_bind, Sem.run_pure, Result.andThen_ok, List.map_toArray, List.map_cons, List.map_nil, hs, hx, hr]
  refine ((does_more s x t e bytes ho ht hinfo hb0 v xs ys _ c hs hx HO HR hb hl).at_ hrun).mono fun v1 w1 h => ⟨h.1.1, h.1.2.1, h.1.2.2, ?_⟩
  rw [h.2]
  exact Kd.R_of_own (enc := Value.int k) (h1 := fun _ => rfl) hold (fun _ _ => trivial)
end
end Go.Proofs.Ytgmiokocipmbaaa.E
