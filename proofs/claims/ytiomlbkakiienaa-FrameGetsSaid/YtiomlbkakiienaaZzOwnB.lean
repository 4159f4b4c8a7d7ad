/- What a walk over a function's text leans on: variables, rows, and regions in which reads come in any order. -/
import Derived.Test.YtiomlbkakiienaaZzOwnA
import Derived.Deep.MidRow
import Derived.ArgAppend
import Derived.Laws.Cells
import Derived.ScopeJumps
set_option linter.unusedVariables false
set_option linter.unusedSimpArgs false
namespace Go.Proofs.Ytiomlbkakiienaa.E
open Go Go.RowKit Go.Proofs.YtiomlbkakiienaaW.PrintWords Go.Proofs.YtiomlbkakiienaaW.PrintLast Go.Proofs.YtiomlbkakiienaaW.PrintMore
structure Tch (g : Nat) (w w' : World) : Prop where
  os : w'.os = w.os
  tape : w'.tape = w.tape
  output : w'.output = w.output
  size : w.heap.size ≤ w'.heap.size
  block : ∀ k, k < w.heap.size → k ≠ g → w'.heap[k]? = w.heap[k]?
theorem Tch.refl (g : Nat) (w : World) : Tch g w w := ⟨rfl, rfl, rfl, Nat.le_refl _, fun _ _ _ => rfl⟩
theorem Tch.trans {g : Nat} {a b c : World} (h : Tch g a b) (k : Tch g b c) : Tch g a c :=
  ⟨k.os.trans h.os, k.tape.trans h.tape, k.output.trans h.output, Nat.le_trans h.size k.size, fun i hi hne => (k.block i (Nat.lt_of_lt_of_le hi h.size) hne).trans (h.block i hi hne)⟩
theorem Tch.setCell (g i : Nat) (w : World) (v : Value) : Tch g w (w.setCell ⟨g, i, none⟩ v) := ⟨rfl, rfl, rfl, by simp [World.setCell], fun k _ hk => Below.heap_setCell w ⟨g, i, none⟩ v k hk⟩
theorem Tch.below {g B : Nat} {w0 w w' : World} (t : Tch g w w') (h : Below B w0 w) (hg : B ≤ g) (hB : B ≤ w.heap.size) : Below B w0 w' :=
  h.trans ⟨t.os, t.tape, t.output, t.size, fun k hk => t.block k (by omega) (by omega)⟩
theorem Tch.blk {g g2 : Nat} {w w' : World} {o : Obj} (t : Tch g w w') (h : w.heap[g2]? = some o) (hne : g2 ≠ g) : w'.heap[g2]? = some o := (t.block g2 (blk_lt h) hne).trans h
theorem Tch.row {α : Type} {d : Kd α} {e g base : Nat} {w w' : World} {ok : Nat → Prop} {v : Value} {xs : List α} (t : Tch g w w') (h : Kd.R d e w base ok v xs) (hg : g < base) : Kd.R d e w' base ok v xs :=
  Kd.R_mono (Kd.R_move (Kd.R_bound h) (fun k hk => t.block k hk.2.2.1 (by have := hk.2.1; omega))) (fun _ hk => hk.1)
theorem Tch.rowT {α : Type} {d : Kd α} {e g base : Nat} {t : TypeId} {cs : Array Value} {w w' : World} {v : Value} {xs : List α} (T : Tch g w w') (hE : d.E = []) (hg : w.heap[g]? = some (.cells cs t (0, 0))) (h : Kd.R d e w base (fun _ => True) v xs) (hne : e ≠ t) : Kd.R d e w' base (fun _ => True) v xs :=
  Kd.R_mono (Kd.R_step (w1 := w') (Kd.R_tight hE h) (fun k hk hlt => T.block k hlt (fun e => Kd.R_ne h hg hne (by rw [← e]; exact hk)))) (fun _ _ => trivial)
def putCells (cur : Array Value) : Nat → List Value → Array Value
  | _, [] => cur
  | o, v :: r => putCells (cur.setIfInBounds o v) (o + 1) r
theorem setCells_at (g : Nat) (t : TypeId) : ∀ (vs : List Value) (o : Nat) (cur : Array Value) (w : World), w.heap[g]? = some (.cells cur t (0, 0)) → (w.setCells g o vs).heap[g]? = some (.cells (putCells cur o vs) t (0, 0)) ∧ Tch g w (w.setCells g o vs)
  | [], _, _, w, h => ⟨h, Tch.refl _ _⟩
  | v :: r, o, cur, w, h => by
    have h1 := blk_put h o v rfl
    have ih := setCells_at g t r (o + 1) _ _ h1
    exact ⟨ih.1, (Tch.setCell g o w v).trans ih.2⟩
section
variable {P : Program} {o : Oper} {a : Act} {w : World} {p : Told} {ρ : Operand → Value}
theorem there_at {g off n : Nat} {cur : Array Value} {t : TypeId} (h : w.heap[g]? = some (.cells cur t (0, 0))) (hn : off + n ≤ cur.size) : w.there g off n := fun j hj => ⟨by
  rw [blk_cell h (off + j), Array.getElem?_eq_getElem (by omega)]
  rfl, blk_frozen h (off + j)⟩
theorem does_store {t ty : TypeId} {x y : Operand} {g off : Nat} {v : Value} {cur new : Array Value} (ho : o.op = .store ty x y) (hx : a.eval x = .pointer (some ⟨g, off, none⟩)) (hy : a.eval y = v) (hg : w.heap[g]? = some (.cells cur t (0, 0)))
    (hi : (P.info? ty).map (·.size) = some v.cells.size) (hn : Nat.ble (off + v.cells.size) cur.size = true) (h1 : v.cells.toList.all (·.oneCell') = true) (hnew : putCells cur off v.cells.toList = new) :
    Does P o a w (fun u w' => u = undef ∧ w'.heap[g]? = some (.cells new t (0, 0)) ∧ Tch g w w') := fun K Q hk => by
  subst hnew
  have ht := there_at (w := w) (off := off) (n := v.cells.size) hg (Nat.le_of_ble_eq_true hn)
  have h2 := run_storeCells_cells (P := P) g off v.cells.toList 0 w (fun j hj => by simpa using (ht j (by simpa using hj)).1) (fun j hj => by simpa using (ht j (by simpa using hj)).2)
    (fun u hu => (List.all_eq_true.1 h1) u hu)
  have hs : (storeVar ty ⟨g, off, none⟩ v).run P w = .ok () (w.setCells g off v.cells.toList) := by
    cases hq : P.info? ty with
    | none => simp [hq] at hi
    | some i =>
      have hs : v.cells.size = i.size := by simp [hq] at hi; omega
      simp only [Nat.add_zero] at h2
      simp [storeVar, sizeOf, typeInfo, hq, hs, h2]
  have hc := setCells_at g t v.cells.toList off cur w hg
  unfold Oper.wp execOp
  simp only [ho, hx, hy, Instr.storeAt, Instr.sureAddr, Sem.run_bind, Sem.run_pure, Result.andThen_ok, hs]
  exact hk _ _ ⟨rfl, hc⟩
theorem Tch.setRow (g : Nat) (w : World) (cs : Array Value) : Tch g w (w.setRow g cs) := ⟨rfl, rfl, rfl, by simp, fun k _ hk => setRow_other w g k cs hk⟩
theorem does_storeAll {t ty : TypeId} {x y : Operand} {g : Nat} {cs cur : Array Value} (ho : o.op = .store ty x y) (hx : a.eval x = .pointer (some ⟨g, 0, none⟩)) (hy : a.eval y = .agg cs) (hg : w.heap[g]? = some (.cells cur t (0, 0)))
    (hi : (P.info? ty).map (·.size) = some cs.size) (hold : cur.size = cs.size) (h1 : cs.toList.all (·.oneCell') = true) :
    Does P o a w (fun u w' => u = undef ∧ w'.heap[g]? = some (.cells cs t (0, 0)) ∧ Tch g w w') :=
  (does_storerow ho hx hy hg hi hold (by rw [← Array.all_toList]; exact h1)).mono fun v w' h => by
    obtain ⟨rfl, rfl⟩ := h
    exact ⟨rfl, setRow_heap w g cur cs t (0, 0) hg, Tch.setRow g w cs⟩
theorem x_box {t : TypeId} {x : Operand} {cs : Array Value} (ho : o.op = .box t x) (hx : (ρ x).cells = cs) : (execOp ρ o).run P w = .ok (.value (.pointer (some ⟨w.heap.size, 0, none⟩))) (w.alloc (.cells cs t (0, 0))) := by
  subst hx
  unfold execOp
  simp only [ho, Sem.run_bind, Instr.box, newVar, newRow, run_newObj_alloc, Sem.run_pure, Result.andThen_ok]
theorem x_alloc {t : TypeId} {cs : Array Value} (ho : o.op = .alloc t) (hz : ((P.info? t).bind (·.zero)).map (·.cells) = some cs) : (execOp ρ o).run P w = .ok (.value (.pointer (some ⟨w.heap.size, 0, none⟩))) (w.alloc (.cells cs t (0, 0))) := by
  obtain ⟨z, h1, rfl⟩ := Option.map_eq_some_iff.1 hz
  obtain ⟨i, hi, h2⟩ := Option.bind_eq_some_iff.1 h1
  unfold execOp
  simp [ho, Sem.run_bind, Instr.alloc, zeroValue, typeInfo, hi, h2, newVar, newRow, run_newObj_alloc, Sem.run_pure, Result.andThen_ok]
theorem x_field {s : TypeId} {x : Operand} {f : Nat} {g b : Nat} {fs : Array Field} {fd : Field} (ho : o.op = .fieldAddr s x f) (hx : ρ x = .pointer (some ⟨g, b, none⟩)) (hu : P.underlying s = some (.struct fs)) (hf : fs[f]? = some fd) (hs : ((P.info? fd.type).map fun i => i.size == 0) = some false) :
    (execOp ρ o).run P w = .ok (.value (.pointer (some ⟨g, b + fd.offset, none⟩))) w := by
  obtain ⟨i, hi, h0⟩ := Option.map_eq_some_iff.1 hs
  have h0 : ¬ i.size = 0 := by simpa using h0
  have ha : (⟨g, b, none⟩ : Addr).add fd.offset = ⟨g, b + fd.offset, none⟩ := Addr.add_mid g b fd.offset
  unfold execOp
  simp [ho, hx, Sem.run_bind, Instr.fieldAt, run_underlying hu, hf, Instr.sureAddr, fieldPlace, sizeOf, typeInfo, hi, h0, ha]
theorem x_fieldE {s : TypeId} {x : Operand} {f : Nat} {g b o2 : Nat} {fs : Array Field} {fd : Field} (ho : o.op = .fieldAddr s x f) (hx : ρ x = .pointer (some ⟨g, b, none⟩)) (hu : P.underlying s = some (.struct fs)) (hf : fs[f]? = some fd) (hoff : b + fd.offset = o2) (hs : ((P.info? fd.type).map fun i => i.size == 0) = some false) :
    (execOp ρ o).run P w = .ok (.value (.pointer (some ⟨g, o2, none⟩))) w := hoff ▸ x_field ho hx hu hf hs
theorem does_var {cs : Array Value} {t : TypeId} {B : Nat} (hr : (execOp a.eval o).run P w = .ok (.value (.pointer (some ⟨w.heap.size, 0, none⟩))) (w.alloc (.cells cs t (0, 0)))) (hB : B ≤ w.heap.size) : Does P o a w (fun v w' => Below w.heap.size w w' ∧ IsB cs t B v w') :=
  (does_box hr).mono fun v w' h => ⟨h.1, h.2.elim fun g h => ⟨g, h.1, Nat.le_trans hB h.2.1, h.2.2⟩⟩
theorem does_loadmid {ty t : TypeId} {x : Operand} {g off : Nat} {cs : List Value} {cur : Array Value} {d : TypeDesc} (ho : o.op = .load ty x) (hx : a.eval x = .pointer (some ⟨g, off, none⟩)) (hg : w.heap[g]? = some (.cells cur t (0, 0))) (hc : (cur.extract off (off + cs.length)).toList = cs)
    (hu : P.underlying ty = some d) (hd : d.isRow = true) (hi : (P.info? ty).map (·.size) = some cs.length) (hp : p (.agg cs.toArray) w) : Does P o a w (fun v w' => Below w.heap.size w w' ∧ p v w') :=
  fun K Q hk => wp_load_mid ty x ho g off hx cs d (by have := World.rangeAt_of_block hg off cs.length; rwa [hc] at this) hu hd hi (hk _ _ ⟨Below.refl _ _, hp⟩)
theorem Vals.at {tmps : Array Value} {u : Tmp} {v : Value} {rs : List ResultVar} {vs : List Value} (h : tmps.getD u undef = v) (hv : Vals P tmps w rs vs) : Vals P tmps w (.tmp u :: rs) (v :: vs) := by
  subst h
  exact .tmp hv
end
end Go.Proofs.Ytiomlbkakiienaa.E
set_option linter.unusedVariables false
set_option linter.unusedSimpArgs false
namespace Go.Proofs.Ytiomlbkakiienaa.E
open Go Go.RowKit Go.Proofs.YtiomlbkakiienaaW.PrintWords Go.Proofs.YtiomlbkakiienaaW.PrintLast Go.Proofs.YtiomlbkakiienaaW.PrintMore
theorem Does.congr {P : Program} {o : Oper} {a b : Act} {w : World} {R : Value → World → Prop} (he : execOp a.eval o = execOp b.eval o) (hs : a.tmps.size = b.tmps.size) (h : Does P o a w R) : Does P o b w R := fun K Q hk => by
  let K0 : Act → World → Prop := fun c w' => ∃ v, R v w' ∧ c = a.put o.dst v
  let Q0 : Exit → Act → World → Prop := fun _ _ _ => False
  have h0 : o.wp P a w K0 Q0 := h K0 Q0 (fun v w' hv => ⟨v, hv, rfl⟩)
  have key : ∀ v w', K0 (a.put o.dst v) w' → K (b.put o.dst v) w' := by
    rintro v w' ⟨v0, hv, e⟩
    have hb : b.put o.dst v = b.put o.dst v0 := by
      cases hd : o.dst with
      | none => rfl
      | some d =>
        rw [hd] at e
        by_cases hlt : d < a.tmps.size
        · have h1 : sl (a.put (some d) v) d = sl (a.put (some d) v0) d := by rw [e]
          rw [sl_same hlt, sl_same hlt] at h1
          rw [h1]
        · simp only [Act.put]
          have hle : b.tmps.size ≤ d := by rw [← hs]; exact Nat.le_of_not_lt hlt
          rw [Array.setIfInBounds_eq_of_size_le hle, Array.setIfInBounds_eq_of_size_le hle]
    rw [hb]
    exact hk v0 w' hv
  unfold Oper.wp at h0 ⊢
  rw [← he]
  generalize (execOp a.eval o).run P w = r at *
  cases r with
  | ok n w' =>
    cases n with
    | value v => exact key _ _ h0
    | skip => exact key _ _ h0
    | defer d =>
      simp only [Oper.upon] at h0
      obtain ⟨v, _, e⟩ := h0
      have h1 := congrArg Act.defers e
      rw [put_def, put_def] at h1
      have h2 := congrArg List.length h1
      simp at h2
    | enter f xs =>
      simp only [Oper.upon] at h0 ⊢
      refine Calls.mono h0 (fun e w'' h1 => ?_)
      cases e with
      | returned v => exact key _ _ h1
      | panicked c => exact h1.elim
      | outgrown => exact absurd h1 (fun ⟨_, _, hq⟩ => hq)
    | row r xs =>
      simp only [Oper.upon] at h0 ⊢
      exact Rows.mono h0 (fun _ _ h1 => key _ _ h1)
    | _ => exact h0.elim
  | halt x w' => cases x <;> exact h0.elim
def ListC (P : Program) (ops : Array Oper) (C : World → Prop) (Q : Exit → Act → World → Prop) : List Oper → Act → World → Prop
  | [], a, w => Q .normal a w
  | o :: rest, a, w => (Region.wanted o (yielded ops a.tmps) = true ∧ ∃ R : Value → World → Prop, Does P o a w R ∧ ∀ v w', R v w' → C w' ∧ ListC P ops C Q rest (a.put o.dst v) w') ∨ (Region.wanted o (yielded ops a.tmps) = false ∧ ListC P ops C Q rest (a.put o.dst undef) w)
section
variable {P : Program} {ops : Array Oper} {C : World → Prop} {Q : Exit → Act → World → Prop} {o : Oper} {rest : List Oper} {a : Act} {w : World} {R : Value → World → Prop}
theorem lc_step (hg : o.guard = none) (hd : Does P o a w R) (h : ∀ v w', R v w' → C w' ∧ ListC P ops C Q rest (a.put o.dst v) w') : ListC P ops C Q (o :: rest) a w := .inl ⟨by simp [Region.wanted, hg], R, hd, h⟩
theorem lc_nil (h : Q .normal a w) : ListC P ops C Q [] a w := h
theorem St.nextC {N : Nat} {bs : List (Nat × Value)} (hS : St N bs a) {dst : Option Nat} {d : Nat} {v : Value} (ho : dst = some d) (hd : d < N) (hk : (bs.all fun p => p.1 != d) = true)
    (h : ∀ a', St N ((d, v) :: bs) a' → ListC P ops C Q rest a' w) : ListC P ops C Q rest (a.put dst v) w := by
  subst ho
  exact h _ (hS.put hd hk)
def GRun (P : Program) (ops : Array Oper) (o : Oper) (v : Value) (a : Act) (w : World) : Prop :=
  (Region.wanted o (yielded ops a.tmps) = true ∧ (execOp a.eval o).run P w = .ok (.value v) w) ∨ (Region.wanted o (yielded ops a.tmps) = false ∧ v = undef)
inductive GAll (P : Program) (ops : Array Oper) (C : World → Prop) (a : Act) : List Oper → List Bool → List Value → Prop
  | nil {os : List Oper} : GAll P ops C a os [] []
  | g {o : Oper} {os : List Oper} {bs : List Bool} {v : Value} {vs : List Value} : (∀ w, C w → GRun P ops o v a w) → GAll P ops C a os bs vs → GAll P ops C a (o :: os) (true :: bs) (v :: vs)
  | t {o : Oper} {os : List Oper} {bs : List Bool} {v : Value} {vs : List Value} : GAll P ops C a os bs vs → GAll P ops C a (o :: os) (false :: bs) (v :: vs)
theorem GAll.out : ∀ {os : List Oper} {bs : List Bool} {vs : List Value}, GAll P ops C a os bs vs → ∀ (i : Nat) (o : Oper) (v : Value), bs[i]? = some true → vs[i]? = some v → os[i]? = some o → ∀ w, C w → GRun P ops o v a w
  | _, _, _, .nil, i, o, v, h, _, _ => by simp at h
  | _, _, _, .g hg hs, i, o, v, h1, h2, h3 => by
    cases i with
    | zero =>
      simp only [List.getElem?_cons_zero, Option.some.injEq] at h2 h3
      subst h2; subst h3
      exact hg
    | succ i =>
      simp only [List.getElem?_cons_succ] at h1 h2 h3
      exact hs.out i o v h1 h2 h3
  | _, _, _, .t hs, i, o, v, h1, h2, h3 => by
    cases i with
    | zero => simp at h1
    | succ i =>
      simp only [List.getElem?_cons_succ] at h1 h2 h3
      exact hs.out i o v h1 h2 h3
theorem GRun.on {v : Value} (hg : o.guard = none) (h : (execOp a.eval o).run P w = .ok (.value v) w) : GRun P ops o v a w := .inl ⟨by simp [Region.wanted, hg], h⟩
theorem GRun.y {N : Nat} {bs : List (Nat × Value)} {v : Value} {g d : Nat} {b : Bool} (hS : St N bs a) (hg : o.guard = some (g, b)) (hd : (ops[g]?).bind (·.dst) = some d) (hN : Nat.blt d N = true) (hv : sl a d = .bool b) (h : (execOp a.eval o).run P w = .ok (.value v) w) : GRun P ops o v a w :=
  .inl ⟨by rw [wanted_of hg hd (by rw [hS.size]; simpa using hN) hv]; cases b <;> rfl, h⟩
theorem GRun.n {N : Nat} {bs : List (Nat × Value)} {g d : Nat} {b : Bool} (hS : St N bs a) (hg : o.guard = some (g, b)) (hd : (ops[g]?).bind (·.dst) = some d) (hN : Nat.blt d N = true) (hv : sl a d = .bool (!b)) : GRun P ops o undef a w :=
  .inr ⟨by rw [wanted_of hg hd (by rw [hS.size]; simpa using hN) hv]; cases b <;> rfl, rfl⟩
theorem GRun.u {N : Nat} {bs : List (Nat × Value)} {g d : Nat} {b : Bool} (hS : St N bs a) (hg : o.guard = some (g, b)) (hd : (ops[g]?).bind (·.dst) = some d) (hN : Nat.blt d N = true) (hv : sl a d = undef) : GRun P ops o undef a w := by
  have hlt : d < a.tmps.size := by rw [hS.size]; simpa using hN
  have h1 : a.tmps[d]? = some undef := by
    rw [Array.getElem?_eq_getElem hlt, ← hv]
    simp [sl, Array.getD, hlt]
  exact .inr ⟨by simp only [Region.wanted, hg, yielded, hd, Option.bind_some, h1]; simp [undef], rfl⟩
end
def GPre (ops : Array Oper) (N : Nat) (gm : List Bool) (gv : List Value) (a : Act) : Prop := ∀ (j : Nat) (v : Value), gm[j]? = some true → gv[j]? = some v → sl a (dstOf ops N j) = v
theorem GPre.get {ops : Array Oper} {N : Nat} {gm : List Bool} {gv : List Value} {a : Act} (h : GPre ops N gm gv a) (j : Nat) (hm : gm[j]? = some true) {v : Value} (hv : gv[j]? = some v) {d : Nat} (hd : dstOf ops N j = d) : sl a d = v := hd ▸ h j v hm hv
def direct (o : Oper) (j : Nat) : Bool := o.after.any fun e => Region.binds .any e && e.on == j
def readsOf (ops : Array Oper) (o : Oper) : List Nat :=
  (o.op.operands.toList.filterMap fun x => match x with | .tmp d => some d | _ => none) ++ (match o.guard with | some (g, _) => (match (ops[g]?).bind (·.dst) with | some d => [d] | none => []) | none => [])
def okFloat (ops : Array Oper) (N : Nat) (keys : List Nat) (gm : List Bool) (ms : List Nat) : Bool :=
  gm.length == ops.size && okMask ops ms && (List.range ops.size).all fun i => match ops[i]? with
    | none => false
    | some o =>
      (match o.op with | .select .. => false | _ => true)
      && o.after.all (fun e => !Region.binds .any e || (decide (e.on < i) && (!gm.getD i false || gm.getD e.on false)))
      && (!gm.getD i false || (match o.dst with | some d => decide (d < N) && !keys.contains d | none => false))
      && (match o.dst with | none => true | some d => decide (d < N) && (List.range ops.size).all fun j => j == i || ((ops[j]?).bind (·.dst)) != some d)
      && (gm.getD i false || (List.range i).all fun j => gm.getD j false || Nat.testBit (ms.getD i 0) j)
      && (readsOf ops o).all fun d => (List.range ops.size).all fun j => ((ops[j]?).bind (·.dst)) != some d || (if gm.getD j false then direct o j else (!gm.getD i false || (decide (i < j) && Nat.testBit (ms.getD j 0) i)))
structure FloatAt (ops : Array Oper) (N : Nat) (keys : List Nat) (gm : List Bool) (ms : List Nat) (i : Nat) (o : Oper) : Prop where
  sel : ∀ cs b, o.op ≠ .select cs b
  aft : ∀ e ∈ o.after, Region.binds .any e = true → e.on < i ∧ (gm.getD i false = true → gm.getD e.on false = true)
  gdst : gm.getD i false = true → ∃ d, o.dst = some d ∧ d < N ∧ d ∉ keys
  dst : ∀ d, o.dst = some d → d < N ∧ ∀ j, j < ops.size → j ≠ i → (ops[j]?).bind (·.dst) ≠ some d
  order : gm.getD i false = false → ∀ j, j < i → gm.getD j false = false → Nat.testBit (ms.getD i 0) j = true
  reads : ∀ d ∈ readsOf ops o, ∀ j, j < ops.size → (ops[j]?).bind (·.dst) = some d → (gm.getD j false = true → ∃ e ∈ o.after, Region.binds .any e = true ∧ e.on = j) ∧ (gm.getD j false = false → gm.getD i false = true → i < j ∧ Nat.testBit (ms.getD j 0) i = true)
theorem okFloat_at {ops : Array Oper} {N : Nat} {keys : List Nat} {gm : List Bool} {ms : List Nat} (h : okFloat ops N keys gm ms = true) {i : Nat} {o : Oper} (ho : ops[i]? = some o) : FloatAt ops N keys gm ms i o := by
  have hi := (Array.getElem?_eq_some_iff.1 ho).1
  unfold okFloat at h
  rw [Bool.and_eq_true] at h
  have h1 := List.all_eq_true.1 h.2 i (List.mem_range.2 hi)
  rw [ho] at h1
  simp only [Bool.and_eq_true] at h1
  obtain ⟨⟨⟨⟨⟨h1, h2⟩, h3⟩, h4⟩, h5⟩, h6⟩ := h1
  refine ⟨fun cs b e => ?_, fun e he hb => ?_, fun hg => ?_, fun d hd => ?_, fun hg j hj hgj => ?_, fun d hd j hj hdj => ⟨fun hgj => ?_, fun hgj hgi => ?_⟩⟩
  · rw [e] at h1
    cases h1
  · have := Array.all_eq_true'.1 h2 e he
    rw [hb] at this
    simp only [Bool.not_true, Bool.false_or, Bool.and_eq_true, decide_eq_true_eq, Bool.or_eq_true, Bool.not_eq_true'] at this
    exact ⟨this.1, fun hg => this.2.resolve_left (by rw [hg]; simp)⟩
  · rw [hg] at h3
    simp only [Bool.not_true, Bool.false_or] at h3
    cases hd : o.dst with
    | none => rw [hd] at h3; cases h3
    | some d =>
      rw [hd] at h3
      simp only [Bool.and_eq_true, decide_eq_true_eq, Bool.not_eq_true'] at h3
      exact ⟨d, rfl, h3.1, fun hc => by rw [List.contains_iff_mem.2 hc] at h3; cases h3.2⟩
  · rw [hd] at h4
    simp only [Bool.and_eq_true, decide_eq_true_eq, List.all_eq_true, List.mem_range, Bool.or_eq_true, beq_iff_eq, bne_iff_ne] at h4
    exact ⟨h4.1, fun j hj hne => (h4.2 j hj).resolve_left hne⟩
  · rw [hg] at h5
    simp only [Bool.false_or, List.all_eq_true, List.mem_range, Bool.or_eq_true] at h5
    exact (h5 j hj).resolve_left (by rw [hgj]; simp)
  · have h7 := List.all_eq_true.1 (List.all_eq_true.1 h6 d hd) j (List.mem_range.2 hj)
    rw [hdj, hgj] at h7
    simp only [bne_self_eq_false, Bool.false_or, if_true] at h7
    obtain ⟨e, he, h8⟩ := Array.any_eq_true'.1 h7
    simp only [Bool.and_eq_true, beq_iff_eq] at h8
    exact ⟨e, he, h8.1, h8.2⟩
  · have h7 := List.all_eq_true.1 (List.all_eq_true.1 h6 d hd) j (List.mem_range.2 hj)
    rw [hdj, hgj, hgi] at h7
    simpa using h7
def tailT : List Oper → List Bool → List Oper
  | _ :: os, true :: bs => tailT os bs
  | o :: os, false :: bs => o :: tailT os bs
  | _, _ => []
theorem tailT_nil (os : List Oper) (bs : List Bool) (h : ∀ i : Nat, bs[i]? ≠ some false) : tailT os bs = [] := by
  induction os generalizing bs with
  | nil => cases bs <;> rfl
  | cons o os ih =>
    cases bs with
    | nil => rfl
    | cons b bs =>
      cases b with
      | false => exact absurd rfl (h 0)
      | true => exact ih bs (fun i => by have := h (i + 1); simpa using this)
theorem tailT_at (d : Nat) : ∀ (os : List Oper) (bs : List Bool) (o : Oper), os[d]? = some o → bs[d]? = some false → (∀ j, j < d → bs[j]? = some true) → tailT os bs = o :: tailT (os.drop (d + 1)) (bs.drop (d + 1)) := by
  induction d with
  | zero =>
    intro os bs o ho hb _
    cases os with
    | nil => simp at ho
    | cons q os =>
      cases bs with
      | nil => simp at hb
      | cons b bs =>
        simp only [List.getElem?_cons_zero, Option.some.injEq] at ho hb
        subst ho; subst hb
        rfl
  | succ d ih =>
    intro os bs o ho hb hall
    cases os with
    | nil => simp at ho
    | cons q os =>
      cases bs with
      | nil => simp at hb
      | cons b bs =>
        have h0 := hall 0 (by omega)
        simp only [List.getElem?_cons_zero, Option.some.injEq] at h0
        subst h0
        simp only [List.getElem?_cons_succ] at ho hb
        simp only [tailT, List.drop_succ_cons]
        exact ih os bs o ho hb (fun j hj => by have := hall (j + 1) (by omega); simpa using this)
theorem act_ext {a b : Act} (hs : a.tmps.size = b.tmps.size) (hd : a.defers = b.defers) (h : ∀ d, sl a d = sl b d) : a = b := by
  obtain ⟨ta, da⟩ := a
  obtain ⟨tb, db⟩ := b
  simp only at hs hd
  subst hd
  congr 1
  apply Array.ext hs
  intro i h1 h2
  have := h i
  simpa [sl, Array.getD, h1, h2] using this
theorem eval_congr {a b : Act} {x : Operand} (h : ∀ d, x = .tmp d → sl a d = sl b d) : a.eval x = b.eval x := by
  cases x with
  | tmp d => exact h d rfl
  | const v => rfl
  | global g => rfl
  | func f => rfl
theorem wanted_congr {ops : Array Oper} {o : Oper} {a b : Act} (hs : a.tmps.size = b.tmps.size) (h : ∀ d ∈ readsOf ops o, sl a d = sl b d) : Region.wanted o (yielded ops a.tmps) = Region.wanted o (yielded ops b.tmps) := by
  unfold Region.wanted
  cases hg : o.guard with
  | none => rfl
  | some p =>
    obtain ⟨g, c⟩ := p
    have hy : yielded ops a.tmps g = yielded ops b.tmps g := by
      unfold yielded
      cases hd : (ops[g]?).bind (·.dst) with
      | none => rfl
      | some d =>
        have h1 := h d (by unfold readsOf; rw [hg]; simp [hd])
        have h2 : a.tmps[d]? = b.tmps[d]? := by
          by_cases hlt : d < a.tmps.size
          · have hlt2 : d < b.tmps.size := by rw [← hs]; exact hlt
            rw [Array.getElem?_eq_getElem hlt, Array.getElem?_eq_getElem hlt2]
            simpa [sl, Array.getD, hlt, hlt2] using h1
          · have hle := Nat.le_of_not_lt hlt
            rw [Array.getElem?_eq_none hle, Array.getElem?_eq_none (by rw [← hs]; exact hle)]
        simp only [Option.bind_some, h2]
    simp only [hy]
theorem exec_congr {ops : Array Oper} {o : Oper} {a b : Act} (hsel : ∀ cs b, o.op ≠ .select cs b) (h : ∀ d ∈ readsOf ops o, sl a d = sl b d) : execOp a.eval o = execOp b.eval o :=
  execOp_congr o hsel fun x hx => eval_congr fun d hd => h d (by
    subst hd
    unfold readsOf
    refine List.mem_append_left _ (List.mem_filterMap.2 ⟨_, by simpa using hx, rfl⟩))
theorem gm_cases {gm : List Bool} {n i : Nat} (hl : gm.length = n) (hi : i < n) : gm[i]? = some (gm.getD i false) := by
  rw [List.getD_eq_getElem?_getD, List.getElem?_eq_getElem (by omega)]
  rfl
section
variable {P : Program} {ops : Array Oper} {N : Nat} {keys : List Nat} {gm gs_ : List Bool} {gv : List Value} {ms : List Nat} {C : World → Prop} {Q : Exit → Act → World → Prop}
structure FInv (P : Program) (ops : Array Oper) (N : Nat) (gm gs_ : List Bool) (gv : List Value) (C : World → Prop) (Q : Exit → Act → World → Prop) (a0 : Act) (listed : Array Bool) (a as_ : Act) (w : World) (r : Nat) : Prop where
  sz : listed.size = ops.size
  cl : Closed ops listed
  sa : a.tmps.size = N
  ss : as_.tmps.size = N
  df : a.defers = as_.defers
  ag : ∀ d, (∀ i, i < ops.size → gm.getD i false = true → listed.getD i true = false → (ops[i]?).bind (·.dst) ≠ some d) → sl a d = sl as_ d
  gs : GPre ops N gs_ gv as_
  al : ∀ i, i < ops.size → gm.getD i false = true → gs_.getD i false = false → listed.getD i true = true
  h0 : ∀ d, (∀ i, i < ops.size → gm.getD i false = false → listed.getD i true = true → (ops[i]?).bind (·.dst) ≠ some d) → sl as_ d = sl a0 d
  hC : C w
  tl : ∀ i, i < ops.size → gm.getD i false = false → (listed.getD i true = true ↔ i < r)
  rest : ListC P ops C Q (tailT (ops.toList.drop r) (gm.drop r)) as_ w
theorem tail_at {r i : Nat} {o : Oper} (hl : gm.length = ops.size) (ho : ops[i]? = some o) (hri : r ≤ i) (hgi : gm.getD i false = false) (hbt : ∀ j, r ≤ j → j < i → gm.getD j false = true) : tailT (ops.toList.drop r) (gm.drop r) = o :: tailT (ops.toList.drop (i + 1)) (gm.drop (i + 1)) := by
  have hi := (Array.getElem?_eq_some_iff.1 ho).1
  have h1 := tailT_at (i - r) (ops.toList.drop r) (gm.drop r) o (by rw [List.getElem?_drop, show r + (i - r) = i by omega]; simpa using ho) (by rw [List.getElem?_drop, show r + (i - r) = i by omega, gm_cases hl hi, hgi]) (fun j hj => by rw [List.getElem?_drop, gm_cases hl (show r + j < ops.size by omega), hbt (r + j) (by omega) (by omega)])
  rw [h1, List.drop_drop, List.drop_drop, show r + (i - r + 1) = i + 1 by omega]
theorem tail_done {r : Nat} (hl : gm.length = ops.size) (h : ∀ i, i < ops.size → gm.getD i false = false → i < r) : tailT (ops.toList.drop r) (gm.drop r) = [] := tailT_nil _ _ fun i hi => by
  rw [List.getElem?_drop] at hi
  have hlt : r + i < gm.length := (List.getElem?_eq_some_iff.1 hi).1
  have h1 := gm_cases hl (show r + i < ops.size by omega)
  rw [hi] at h1
  have := h (r + i) (by omega) (Option.some.inj h1).symm
  omega
theorem float_from (hf : okFloat ops N keys gm ms = true) (hgl : gv.length = ops.size) (hsl : gs_.length = ops.size) (hsub : ∀ i, gs_.getD i false = true → gm.getD i false = true) {a0 : Act} (hgall : ∀ (i : Nat) (o : Oper) (v : Value), gs_[i]? = some true → gv[i]? = some v → ops[i]? = some o → ∀ w, C w → GRun P ops o v a0 w) (hs0 : a0.tmps.size = N) :
    ∀ (fuel : Nat) (listed : Array Bool) (a as_ : Act) (w : World) (r : Nat), left listed ≤ fuel → FInv P ops N gm gs_ gv C Q a0 listed a as_ w r → wpAny P .any ops Q fuel listed a w := by
  have hf2 := hf
  unfold okFloat at hf2
  simp only [Bool.and_eq_true, beq_iff_eq] at hf2
  obtain ⟨⟨hgm, hmask⟩, _⟩ := hf2
  have fin : ∀ (listed : Array Bool) (a as_ : Act) (w : World) (r : Nat), FInv P ops N gm gs_ gv C Q a0 listed a as_ w r → (∀ i, i < ops.size → listed.getD i true = true) → Q .normal a w := by
    intro listed a as_ w r I hall
    have hr := I.rest
    rw [tail_done hgm (fun i hi hg => (I.tl i hi hg).1 (hall i hi))] at hr
    have : a = as_ := act_ext (by rw [I.sa, I.ss]) I.df (fun d => I.ag d (fun i hi _ hl => by rw [hall i hi] at hl; cases hl))
    subst this
    exact hr
  have least : ∀ (listed : Array Bool) (a as_ : Act) (w : World) (r : Nat), FInv P ops N gm gs_ gv C Q a0 listed a as_ w r → Region.ready .any ops listed = [] → ∀ i, i < ops.size → listed.getD i true = true := by
    intro listed a as_ w r I h0 i
    induction i using Nat.strongRecOn with
    | _ i ih =>
      intro hi
      cases hb : listed.getD i true with
      | true => rfl
      | false =>
        exfalso
        have ho : ops[i]? = some ops[i] := Array.getElem?_eq_getElem hi
        have F := okFloat_at hf ho
        have hm : i ∈ Region.ready .any ops listed := ready_of ho hb (fun e he hbd => by
          have h1 := (F.aft e he hbd).1
          rw [getD_tf (by rw [I.sz]; omega)]
          exact ih e.on h1 (by omega))
        rw [h0] at hm
        simp at hm
  intro fuel
  induction fuel with
  | zero =>
    intro listed a as_ w r hfu I
    have hall : ∀ i, i < ops.size → listed.getD i true = true := by
      intro i hi
      cases hb : listed.getD i true with
      | true => rfl
      | false => have := left_set (show i < listed.size by rw [I.sz]; omega) hb; omega
    have hr0 : Region.ready .any ops listed = [] := by
      rw [List.eq_nil_iff_forall_not_mem]
      intro i hi
      obtain ⟨h1, h2, _⟩ := ready_mem hi
      rw [hall i h1] at h2
      cases h2
    exact wpAny_done hr0 (fin listed a as_ w r I hall) 0
  | succ fuel ih =>
    intro listed a as_ w r hfu I
    refine ⟨fun h0 => fin listed a as_ w r I (least listed a as_ w r I h0), fun i hi => ?_⟩
    obtain ⟨h1, h2, o, ho, h3⟩ := ready_mem hi
    have F := okFloat_at hf ho
    have hisz : i < listed.size := by rw [I.sz]; exact h1
    have hleft := left_set hisz h2
    -- what it reads stands as in the other
    have hrd : ∀ d ∈ readsOf ops o, sl a d = sl as_ d := fun d hd => I.ag d (fun j hj hgj hlj hdj => by
      obtain ⟨e, he, hb, hon⟩ := (F.reads d hd j hj hdj).1 hgj
      have := h3 e he hb
      rw [hon, getD_tf (by rw [I.sz]; exact hj), hlj] at this
      cases this)
    have hcl2 : Closed ops (listed.setIfInBounds i true) := by
      intro q oq hoq hql e he hb
      have hqs := (Array.getElem?_eq_some_iff.1 hoq).1
      rw [getD_set hisz] at hql ⊢
      by_cases hei : e.on = i
      · rw [if_pos hei]
      · rw [if_neg hei]
        by_cases hqi : q = i
        · subst hqi
          have : oq = o := Option.some.inj (hoq.symm.trans ho)
          subst this
          exact h3 e he hb
        · rw [if_neg hqi] at hql
          exact I.cl q oq hoq hql e he hb
    have hlset : ∀ j, (listed.setIfInBounds i true).getD j true = if j = i then true else listed.getD j true := fun j => getD_set hisz
    unfold wpOp
    rw [ho]
    show if Region.wanted o (yielded ops a.tmps) = true then _ else _
    cases hgi : gm.getD i false with
    | true =>
      obtain ⟨d, hd, hdN, hdk⟩ := F.gdst hgi
      have hgsi : gs_.getD i false = true := by
        cases hq : gs_.getD i false with
        | true => rfl
        | false => have := I.al i h1 hgi hq; rw [h2] at this; cases this
      have hgmi : gs_[i]? = some true := by rw [gm_cases hsl h1, hgsi]
      obtain ⟨v, hv⟩ : ∃ v, gv[i]? = some v := ⟨_, List.getElem?_eq_getElem (by rw [hgl]; exact h1)⟩
      have hrd0 : ∀ d ∈ readsOf ops o, sl as_ d = sl a0 d := fun d hd => I.h0 d (fun j hj hgj hlj hdj => by
        obtain ⟨hij, hbit⟩ := (F.reads d hd j hj hdj).2 hgj hgi
        have hoj : ops[j]? = some ops[j] := Array.getElem?_eq_getElem hj
        have := mask_listed hmask I.cl j i _ hoj (fun e he hb => I.cl j _ hoj hlj e he hb) hij hbit
        rw [getD_tf hisz, h2] at this
        cases this)
      have hwa := wanted_congr (ops := ops) (o := o) (show a.tmps.size = a0.tmps.size by rw [I.sa, hs0]) (fun d hd => (hrd d hd).trans (hrd0 d hd))
      have hex := exec_congr (ops := ops) F.sel (fun d hd => (hrd d hd).trans (hrd0 d hd))
      have hdst : dstOf ops N i = d := by simp [dstOf, ho, hd]
      have next : ∀ u, u = v → wpAny P .any ops Q fuel (listed.setIfInBounds i true) (a.put o.dst u) w := by
        rintro u rfl
        refine ih _ _ as_ w r (by omega) ⟨by simp [I.sz], hcl2, by rw [put_size]; exact I.sa, I.ss, by rw [put_def]; exact I.df, fun d' hd' => ?_, I.gs, fun j hj q1 q2 => (by rw [hlset]; split; rfl; exact I.al j hj q1 q2), fun d' hd' => I.h0 d' (fun j hj hgj hlj => hd' j hj hgj (by rw [hlset]; split <;> simp [hlj])), I.hC, fun j hj hgj => ?_, I.rest⟩
        · rw [hd]
          by_cases hdd : d' = d
          · subst hdd
            rw [sl_same (by rw [I.sa]; exact hdN), ← hdst]
            exact (I.gs i u hgmi hv).symm
          · rw [sl_put hdd]
            refine I.ag d' (fun j hj hgj hlj => ?_)
            by_cases hji : j = i
            · subst hji
              rw [ho]
              simp only [Option.bind_some, hd]
              exact fun e => hdd (Option.some.inj e).symm
            · exact hd' j hj hgj (by rw [hlset, if_neg hji]; exact hlj)
        · rw [hlset]
          have hji : j ≠ i := fun e => by rw [e, hgi] at hgj; cases hgj
          rw [if_neg hji]
          exact I.tl j hj hgj
      rcases hgall i o v hgmi hv ho w I.hC with ⟨g1, g2⟩ | ⟨g1, g2⟩
      · rw [if_pos (by rw [hwa]; exact g1)]
        refine .inl ?_
        unfold Oper.wp
        rw [hex, g2, Oper.upon_value]
        exact next v rfl
      · rw [if_neg (by rw [hwa, g1]; simp)]
        exact next undef g2.symm
    | false =>
      have hir : r ≤ i := by
        rcases Nat.lt_or_ge i r with hlt | hge
        · have := (I.tl i h1 hgi).2 hlt
          rw [h2] at this
          cases this
        · exact hge
      have hearly : ∀ j, j < i → gm.getD j false = false → listed.getD j true = true := fun j hj hgj => by
        have := mask_listed hmask I.cl i j o ho h3 hj (F.order hgi j hj hgj)
        rwa [getD_tf (by rw [I.sz]; omega)] at this
      have hrest := I.rest
      rw [tail_at hgm ho hir hgi (fun j hj1 hj2 => by
        cases hgj : gm.getD j false with
        | true => rfl
        | false => have := (I.tl j (by omega) hgj).1 (hearly j hj2 hgj); omega)] at hrest
      have hwa := wanted_congr (ops := ops) (o := o) (show a.tmps.size = as_.tmps.size by rw [I.sa, I.ss]) hrd
      have hex := exec_congr (ops := ops) F.sel hrd
      have next : ∀ v w', C w' → ListC P ops C Q (tailT (ops.toList.drop (i + 1)) (gm.drop (i + 1))) (as_.put o.dst v) w' → wpAny P .any ops Q fuel (listed.setIfInBounds i true) (a.put o.dst v) w' := by
        intro v w' hC' hL
        refine ih _ _ (as_.put o.dst v) w' (i + 1) (by omega) ⟨by simp [I.sz], hcl2, by rw [put_size]; exact I.sa, by rw [put_size]; exact I.ss, by rw [put_def, put_def]; exact I.df, fun d' hd' => ?_, fun j u hj hu => ?_, fun j hj q1 q2 => (by rw [hlset]; split; rfl; exact I.al j hj q1 q2), fun d' hd' => ?_, hC', fun j hj hgj => ?_, hL⟩
        · have hag := I.ag d' (fun j hj hgj hlj => by
            have hji : j ≠ i := fun e => by rw [e, hgi] at hgj; cases hgj
            exact hd' j hj hgj (by rw [hlset, if_neg hji]; exact hlj))
          cases hdo : o.dst with
          | none => exact hag
          | some d =>
            by_cases hdd : d' = d
            · subst hdd
              have hdN := (F.dst d' hdo).1
              rw [sl_same (by rw [I.sa]; exact hdN), sl_same (by rw [I.ss]; exact hdN)]
            · rw [sl_put hdd, sl_put hdd]
              exact hag
        · have hjm : j < gs_.length := (List.getElem?_eq_some_iff.1 hj).1
          have hjs : j < ops.size := by omega
          have hgj : gm.getD j false = true := hsub j (by
            have := gm_cases hsl hjs
            rw [hj] at this
            exact (Option.some.inj this).symm)
          have h4 := I.gs j u hj hu
          have hoj : ops[j]? = some ops[j] := Array.getElem?_eq_getElem hjs
          obtain ⟨dj, hdj, _, _⟩ := (okFloat_at hf hoj).gdst hgj
          have hdstj : dstOf ops N j = dj := by simp [dstOf, hoj, hdj]
          rw [hdstj] at h4 ⊢
          cases hdo : o.dst with
          | none => exact h4
          | some d =>
            have hji : j ≠ i := fun e => by rw [e, hgi] at hgj; cases hgj
            have hne : dj ≠ d := fun e => (F.dst d hdo).2 j hjs hji (by rw [hoj]; simp [hdj, e])
            rw [sl_put hne]
            exact h4
        · have hne : ∀ d, o.dst = some d → d' ≠ d := fun d hdo e => hd' i h1 hgi (by rw [hlset, if_pos rfl]) (by rw [ho]; simp [hdo, e])
          have hag := I.h0 d' (fun j hj hgj hlj => hd' j hj hgj (by rw [hlset]; split <;> simp [hlj]))
          cases hdo : o.dst with
          | none => exact hag
          | some d => rw [sl_put (hne d hdo)]; exact hag
        · rw [hlset]
          by_cases hji : j = i
          · rw [if_pos hji]
            exact ⟨fun _ => by omega, fun _ => rfl⟩
          · rw [if_neg hji]
            refine ⟨fun hlj => ?_, fun hlt => hearly j (by omega) hgj⟩
            have := (I.tl j hj hgj).1 hlj
            omega
      rcases hrest with ⟨hw1, R, hdo, hnx⟩ | ⟨hw1, hnx⟩
      · rw [if_pos (by rw [hwa]; exact hw1)]
        exact .inl ((hdo.congr hex.symm (by rw [I.ss, I.sa])) _ _ (fun v w' hv => next v w' (hnx v w' hv).1 (hnx v w' hv).2))
      · rw [if_neg (by rw [hwa, hw1]; simp)]
        exact next undef w I.hC hnx
theorem reg_float {id : Nat} {bs : List (Nat × Value)} {I : World → Prop} (gm : List Bool) (gv : List Value) (ms : List Nat) (hmo : P.follows .mixedOrders = true) (hf : okFloat ops N (bs.map (·.1)) gm ms = true) (hgl : gv.length = ops.size) (hI : ∀ w w', I w → Below w.heap.size w w' → I w') (hIC : ∀ w, I w → C w)
    {a : Act} {w : World} (hS : St N bs a) (hw : I w) (hg : ∀ a, St N bs a → GPre ops N gm gv a → GAll P ops C a ops.toList gm gv)
    (ht : ∀ a w, St N bs a → GPre ops N gm gv a → I w → ListC P ops C Q (tailT ops.toList gm) a w) : (Code.region id ops true).wp P Q a w := by
  have hf2 := hf
  unfold okFloat at hf2
  simp only [Bool.and_eq_true, beq_iff_eq] at hf2
  obtain ⟨⟨hgm, hmask⟩, _⟩ := hf2
  -- the frame with all that they yield
  have fill : ∀ n, n ≤ ops.size → ∃ a0 : Act, a0.tmps.size = N ∧ a0.defers = a.defers ∧ (∀ d, (∀ i, i < n → gm.getD i false = true → (ops[i]?).bind (·.dst) ≠ some d) → sl a0 d = sl a d) ∧ ∀ j v, j < n → gm[j]? = some true → gv[j]? = some v → sl a0 (dstOf ops N j) = v := by
    intro n
    induction n with
    | zero => exact fun _ => ⟨a, hS.size, rfl, fun _ _ => rfl, fun j v hj => by omega⟩
    | succ n ih =>
      intro hn
      obtain ⟨a0, h1, h2, h3, h4⟩ := ih (by omega)
      have ho : ops[n]? = some ops[n] := Array.getElem?_eq_getElem (by omega)
      have F := okFloat_at hf ho
      cases hgn : gm.getD n false with
      | false =>
        refine ⟨a0, h1, h2, fun d hd => h3 d (fun i hi => hd i (by omega)), fun j v hj hgj hv => ?_⟩
        refine h4 j v ?_ hgj hv
        have : j ≠ n := fun e => by
          have := gm_cases hgm (show n < ops.size by omega)
          rw [← e, hgj, e, hgn] at this
          cases this
        omega
      | true =>
        obtain ⟨d, hd, hdN, _⟩ := F.gdst hgn
        obtain ⟨v, hv⟩ : ∃ v, gv[n]? = some v := ⟨_, List.getElem?_eq_getElem (by rw [hgl]; omega)⟩
        have hdst : dstOf ops N n = d := by simp [dstOf, ho, hd]
        refine ⟨a0.put (some d) v, by rw [put_size]; exact h1, by rw [put_def]; exact h2, fun d' hd' => ?_, fun j u hj hgj hu => ?_⟩
        · have hne : d' ≠ d := fun e => hd' n (by omega) hgn (by rw [ho]; simp [hd, e])
          rw [sl_put hne]
          exact h3 d' (fun i hi => hd' i (by omega))
        · by_cases hjn : j = n
          · subst hjn
            rw [hv] at hu
            injection hu with hu
            rw [hdst, sl_same (by rw [h1]; exact hdN), hu]
          · have hoj : ops[j]? = some ops[j] := Array.getElem?_eq_getElem (by omega)
            have hgj2 : gm.getD j false = true := by
              have := gm_cases hgm (show j < ops.size by omega)
              rw [hgj] at this
              exact (Option.some.inj this).symm
            obtain ⟨dj, hdj, _, _⟩ := (okFloat_at hf hoj).gdst hgj2
            have hdstj : dstOf ops N j = dj := by simp [dstOf, hoj, hdj]
            have hne : dj ≠ d := fun e => (F.dst d hd).2 j (by omega) hjn (by rw [hoj]; simp [hdj, e])
            rw [hdstj, sl_put hne, ← hdstj]
            exact h4 j u (by omega) hgj hu
  obtain ⟨a0, h1, h2, h3, h4⟩ := fill ops.size (Nat.le_refl _)
  have hS0 : St N bs a0 := ⟨h1, by rw [h2]; exact hS.nodef, fun p hp => by
    rw [h3 p.1 (fun i hi hgi hd => ?_)]
    · exact hS.tell p hp
    · have ho : ops[i]? = some ops[i] := Array.getElem?_eq_getElem hi
      obtain ⟨d, hd2, _, hk⟩ := (okFloat_at hf ho).gdst hgi
      rw [ho] at hd
      simp only [Option.bind_some, hd2, Option.some.injEq] at hd
      exact hk (hd ▸ List.mem_map.2 ⟨p, hp, rfl⟩)⟩
  have hP0 : GPre ops N gm gv a0 := fun j v hj hv => h4 j v (by have := (List.getElem?_eq_some_iff.1 hj).1; omega) hj hv
  refine wp_region_any hmo ?_
  have hI' := hI w _ hw (Below.refl _ _).drew
  have hlf : ∀ j, j < ops.size → (Array.replicate ops.size false).getD j true = false := fun j hj => by simp [Array.getD, hj]
  refine float_from (C := C) (gs_ := gm) hf hgl hgm (fun _ h => h) (fun i o v g1 g2 g3 => (hg a0 hS0 hP0).out i o v g1 g2 (by simpa using g3)) h1 ops.size _ a a0 _ 0 (Nat.le_trans List.countP_le_length (by simp)) ⟨by simp, fun i o ho hi => ?_, hS.size, h1, h2.symm, fun d hd => ?_, hP0, fun i _ q1 q2 => (by rw [q1] at q2; cases q2), fun d _ => rfl, hIC _ hI', fun i hi hgi => ?_, ?_⟩
  · have hlt := (Array.getElem?_eq_some_iff.1 ho).1
    rw [hlf i hlt] at hi
    cases hi
  · exact (h3 d (fun i hi hgi => hd i hi hgi (hlf i hi))).symm
  · rw [hlf i hi]
    exact ⟨fun h => (by cases h), fun h => by omega⟩
  · rw [List.drop_zero, List.drop_zero]
    exact ht a0 _ hS0 hP0 hI'
inductive GTell : List Bool → List Value → List Told → Prop
  | nil {vs : List Value} : GTell [] vs []
  | g {bs : List Bool} {v : Value} {vs : List Value} {ps : List Told} : GTell bs vs ps → GTell (true :: bs) (v :: vs) (IsV v :: ps)
  | t {bs : List Bool} {v : Value} {vs : List Value} {p : Told} {ps : List Told} : GTell bs vs ps → GTell (false :: bs) (v :: vs) (p :: ps)
  | f {bs : List Bool} {v : Value} {vs : List Value} : GTell bs vs [] → GTell (false :: bs) (v :: vs) []
theorem GTell.out : ∀ {bs : List Bool} {vs : List Value} {ps : List Told}, GTell bs vs ps → ∀ (i : Nat) (v : Value), bs[i]? = some true → vs[i]? = some v → ps[i]? = some (IsV v)
  | _, _, _, .nil, i, v, h, _ => by simp at h
  | _, _, _, .g hs, i, v, h1, h2 => by
    cases i with
    | zero =>
      simp only [List.getElem?_cons_zero, Option.some.injEq] at h2
      subst h2
      rfl
    | succ i =>
      simp only [List.getElem?_cons_succ] at h1 h2 ⊢
      exact hs.out i v h1 h2
  | _, _, _, .t hs, i, v, h1, h2 => by
    cases i with
    | zero => simp at h1
    | succ i =>
      simp only [List.getElem?_cons_succ] at h1 h2 ⊢
      exact hs.out i v h1 h2
  | _, _, _, .f hs, i, v, h1, h2 => by
    cases i with
    | zero => simp at h1
    | succ i =>
      simp only [List.getElem?_cons_succ] at h1 h2
      have := hs.out i v h1 h2
      simp at this
end
end Go.Proofs.Ytiomlbkakiienaa.E
set_option linter.unusedVariables false
set_option linter.unusedSimpArgs false
namespace Go.Proofs.Ytiomlbkakiienaa.E
open Go Go.RowKit Go.Proofs.YtiomlbkakiienaaW.PrintWords Go.Proofs.YtiomlbkakiienaaW.PrintLast Go.Proofs.YtiomlbkakiienaaW.PrintMore
theorem wp_nojump {P : Program} {a : Act} {w : World} {Q : Exit → Act → World → Prop} {J : Act → World → Prop} {B : Code} {l : Nat} (h : B.wp P (Exit.jump l (fun _ _ => False) Q) a w) : B.wp P (Exit.jump l J Q) a w := wp_mono h fun e a w h => by
  cases e <;> first | exact h | exact h.2.elim
theorem wp_scope_fwd {P : Program} {a : Act} {w : World} {Q : Exit → Act → World → Prop} {c B : Code} (l : Nat) (J : Act → World → Prop) (hf : findLabel c l = some (.seq .skip B)) (pass : ∀ a w, J a w → B.wp P (Exit.jump l (fun _ _ => False) Q) a w)
    (first : (∀ a w, J a w → B.wp P (Exit.jump l (fun _ _ => False) Q) a w) → c.wp P (Exit.jump l J Q) a w) : (Code.scope c).wp P Q a w :=
  wp_scope_jumps l J (fun _ _ => 0) hf (first pass) fun a w hJ => wp_seq (wp_skip (wp_nojump (pass a w hJ)))
structure Flat {α : Type} (d : Kd α) (f : α → List Value) : Prop where
  opens : ∀ w x cs, d.K w x cs → cs = f x
  made : ∀ w base x, d.M w base (fun _ => False) x (f x)
theorem Flat.len {α : Type} {d : Kd α} {f : α → List Value} (F : Flat d f) (w : World) (x : α) : (f x).length = d.sz := d.K_len (d.K_of_M (F.made w 0 x))
theorem flat_int (k : IntKind) : Flat (Kd.int k) (fun x => [.int k x]) := ⟨fun _ _ _ h => h, fun _ _ _ => rfl⟩
theorem add_add (ad : Addr) (m j : Nat) : (ad.add m).add j = ad.add (m + j) := by
  unfold Addr.add
  by_cases hm : m = 0 <;> by_cases hj : j = 0 <;> simp [hm, hj]
  omega
theorem add_zero' (ad : Addr) : ad.add 0 = ad := by simp [Addr.add]
def IsAT (cs : List Value) : Told := fun v w => ∃ ad : Addr, v = .pointer (some ad) ∧ ad.block < w.heap.size ∧ ∀ j u, cs[j]? = some u → w.cell? (ad.add j) = some u
theorem Stays.at_ (cs : List Value) : Stays (IsAT cs) := fun _ w w' ⟨ad, h1, h2, h3⟩ hb => ⟨ad, h1, Nat.lt_of_lt_of_le h2 hb.size, fun j u hj => (hb.cell (by rw [add_block]; exact h2)).trans (h3 j u hj)⟩
def IsT (mk : Value → Array Value) (p : Told) : Told := fun v w => ∃ v0, v = .tuple (mk v0) ∧ p v0 w
theorem Stays.t (mk : Value → Array Value) {p : Told} (h : Stays p) : Stays (IsT mk p) := fun _ _ _ ⟨v0, h1, h2⟩ hb => ⟨v0, h1, h _ _ _ h2 hb⟩
section
variable {P : Program} {ops : Array Oper} {o : Oper} {a : Act} {w : World} {ρ : Operand → Value}
theorem row_some {α : Type} {d : Kd α} {A : Option Addr} {xs : List α} {i : Int} (z : α) (h : Kd.C d w A xs.length xs) (h0 : 0 ≤ i) (h1 : i < (xs.length : Int)) : ∃ ad, A = some ad := by
  obtain ⟨ad, _, h, _⟩ := Kd.C_get h z i h0 h1
  exact ⟨ad, h⟩
theorem row_cell {α : Type} {d : Kd α} {f : α → List Value} (F : Flat d f) (z : α) {ad : Addr} {xs : List α} (h : Kd.C d w (some ad) xs.length xs) (i : Int) (h0 : 0 ≤ i) (h1 : i < (xs.length : Int)) (j : Nat) (u : Value) (hu : (f (xs.getD i.toNat z))[j]? = some u) : w.cell? ((ad.add (i.toNat * d.sz)).add j) = some u := by
  obtain ⟨ad2, cs, h2, hl, hK, hc⟩ := Kd.C_get h z i h0 h1
  injection h2 with h2
  subst h2
  obtain rfl := F.opens _ _ _ hK
  rw [add_add]
  exact hc j u hu
theorem row_cell1 {α : Type} {d : Kd α} {f : α → List Value} (F : Flat d f) (z : α) {ad : Addr} {xs : List α} (h : Kd.C d w (some ad) xs.length xs) (i : Int) (h0 : 0 ≤ i) (h1 : i < (xs.length : Int)) (u : Value) (hu : (f (xs.getD i.toNat z))[0]? = some u) : w.cell? (ad.add (i.toNat * d.sz)) = some u := by
  have := row_cell F z h i h0 h1 0 u hu
  rwa [add_zero'] at this
theorem does_moreT {α : Type} {d : Kd α} {f : α → List Value} (F : Flat d f) {W : World} (s x : Operand) (t e : TypeId) (z : Value) (bytes : Nat) (ho : o.op = .call { callee := .builtin .append, args := #[s, x], argTypes := #[t, t] })
    (ht : P.underlying t = some (.slice e)) (hinfo : (P.info? e).map (fun i => (i.zero, i.size, i.bytes)) = some (some z, d.sz, bytes)) (hz : z.cells.size = d.sz) (hs0 : 0 < d.sz) (hb0 : 0 < bytes) (v : Value) (xs ys : List α) (A : Option Addr) (m c : Nat) (hs : a.eval s = v) (hx : a.eval x = .slice A m c)
    (HO : Kd.R d e w W.heap.size (fun _ => True) v xs) (HR : Kd.C d w A m ys) (hb : Below W.heap.size W w) (hl : (xs.length + ys.length) * bytes ≤ 140737488355328) : Does P o a w (fun v w' => Below W.heap.size W w' ∧ IsR d e W.heap.size (xs ++ ys) v w' ∧ KeepT e w w') := by
  have hm : ys.length = m := HR.1
  exact does_of_list fun _ _ _ h => Kd.R_append_rows d (Rr := d.K w) (w0 := W) W.heap.size rfl s x t e z bytes ho ht hinfo hz hs0 hb0 v xs ys A m c (fun _ => True) (fun _ => False) hs hx HO HR
    (fun x cs hK => by rw [F.opens _ _ _ hK]; exact F.made _ _ _) (fun _ h => h.elim) (fun _ _ => trivial) hb hb.size (by rw [← hm]; exact hl) (fun v1 w1 a1 a2 a3 _ => h v1 w1 ⟨a2, a1, keepT_of HO a3⟩)
theorem R_one {α : Type} {d : Kd α} {f : α → List Value} (F : Flat d f) (w : World) (B e : Nat) (p : α) (hb : B ≤ w.heap.size) : Kd.R d e (w.alloc (.cells (f p).toArray e)) B (fun _ => True) (.slice (some ⟨w.heap.size, 0, none⟩) 1 1) [p] := by
  have hrep : Reps (d.M w B (fun _ => False)) d.sz [p] (f p) := by
    have := (Reps.none (d.M w B (fun _ => False)) d.sz).snoc (F.made w B p) (F.len w p)
    simpa using this
  refine ⟨fun _ _ => trivial, f p, ?_, ?_⟩
  · have h2 := World.ownsRow_lit (base := B) (e := e) (size := d.sz) w (f p).toArray 1 hb (by simp [maxLen]) (by simpa using F.len w p)
    simpa using h2
  · refine hrep.imp_ (fun p c hp => d.M_mono (fun k hk => ⟨trivial, fun he => ?_⟩) (Kd.M_below (d.M_bound hp) (below_alloc (Below.refl _ _) _)))
    exact hk.1.elim
theorem does_litT {α : Type} {d : Kd α} {f : α → List Value} (F : Flat d f) (B t e : TypeId) (parts : Array (Nat × Operand)) (vs : List (Nat × Value)) (p : α) (ho : o.op = .buildSlice t 1 parts) (hu : P.underlying t = some (.slice e)) (hv : (parts.map fun (i, x) => (i, a.eval x)).toList = vs)
    (hf : P.builtSlice e 1 vs = some (f p).toArray) (hb : B ≤ w.heap.size) : Does P o a w (fun v w' => Below w.heap.size w w' ∧ IsR d e B [p] v w') := by
  subst hv
  exact does_of_list fun ops Q rest h => Great.wpList_buildSliceTo rfl t e 1 parts ho w.heap.size rfl o.dst rfl hu _ hf (h _ _ ⟨below_alloc (Below.refl _ _) _, R_one F w B e p hb⟩)
theorem x_cutcap {t e : TypeId} {x y z : Operand} {A : Option Addr} {n c : Nat} {j k : Int} (ho : o.op = .slice t x none (some y) (some z)) (ht : P.underlying t = some (.slice e)) (hi : ((P.info? e).map (·.size)).isSome = true) (hx : ρ x = .slice A n c) (hy : ρ y = .int .i64 j) (hz : ρ z = .int .i64 k) (h0 : 0 ≤ j) (hjk : j ≤ k) (hk : k ≤ (c : Int)) :
    (execOp ρ o).run P w = .ok (.value (.slice A j.toNat k.toNat)) w := by
  obtain ⟨f, hf⟩ := Option.isSome_iff_exists.1 hi
  obtain ⟨i, hi, _⟩ := Option.map_eq_some_iff.1 hf
  have h0k : 0 ≤ k := by omega
  have hjk2 : j ≤ max k 0 := by omega
  have hA : (if k.toNat = 0 then A else A.map (·.add 0)) = A := by
    split
    · rfl
    · cases A <;> simp [Addr.add]
  have hrun : (Instr.slice t (.slice A n c) none (some (.int .i64 j)) (some (.int .i64 k))).run P w = .ok (.slice A j.toNat k.toNat) w := by
    unfold Instr.slice
    rw [Sem.run_bind, run_underlying ht]
    simp [Instr.sliceBounds, Instr.sliceBound, asIntOf, h0, hjk, hk, h0k, hjk2, sizeOf, typeInfo, hi, go_sem]
    try exact hA
  simp only [execOp, ho, hx, hy, hz, Option.map_none, Option.map_some, Instr.sliceAt]
  rw [Sem.run_bind, Sem.run_bind, run_underlying ht]
  simp only [Result.andThen_ok]
  rw [hrun]
  rfl
theorem does_bytes {src dst e : TypeId} {x : Operand} {s : ByteArray} (ho : o.op = .convert src dst x) (hs : P.underlying src = some .string) (hd : P.underlying dst = some (.slice e)) (he : P.underlying e = some (.int .u8)) (hx : a.eval x = .string s) (hm : s.size ≤ 9223372036854775807) :
    Does P o a w (fun v w' => Below w.heap.size w w' ∧ IsC (Kd.int .u8) (bytesOf s) v w') := by
  have hr := print_bytes (P := P) src dst e hs hd he s w
  have hr2 : (execOp a.eval o).run P w = .ok (.value (.slice (some ⟨w.heap.size, 0, none⟩) s.size (grownCap w s.size 0 e))) (Lib.bytesWorld w e s) := by
    simp only [execOp, ho, hx]
    rw [Sem.run_bind, hr]
    rfl
  refine does_new hr2 (bytes_below (Below.refl _ _) (Nat.le_refl _) e s) ?_
  refine ⟨some ⟨w.heap.size, 0, none⟩, grownCap w s.size 0 e, by rw [bytesOf_length], by rw [bytesOf_length]; exact grownCap_ge _ _ _ _, ?_⟩
  rw [bytesOf_length]
  exact Kd.C_of_reads (d := (0 : Int)) (bytes_reads w e s hm)
end
end Go.Proofs.Ytiomlbkakiienaa.E
set_option linter.unusedVariables false
set_option linter.unusedSimpArgs false
namespace Go.Proofs.Ytiomlbkakiienaa.E
open Go Go.RowKit Go.Proofs.YtiomlbkakiienaaW.PrintWords Go.Proofs.YtiomlbkakiienaaW.PrintLast Go.Proofs.YtiomlbkakiienaaW.PrintMore
section
variable {P : Program} {ops : Array Oper} {N m : Nat} {bs : List (Nat × Value)} {I : World → Prop} {ps : List Told}
inductive StaysS (S : World → World → Prop) : List Told → List Bool → Prop
  | nil : StaysS S [] []
  | k {p : Told} {ps : List Told} {bs : List Bool} : (∀ v w w', p v w → S w w' → p v w') → StaysS S ps bs → StaysS S (p :: ps) (true :: bs)
  | s {p : Told} {ps : List Told} {bs : List Bool} : StaysS S ps bs → StaysS S (p :: ps) (false :: bs)
theorem StaysS.out {S : World → World → Prop} : ∀ {ps : List Told} {fl : List Bool}, StaysS S ps fl → ∀ j, fl.getD j false = true → ∀ v w w', told ps j v w → S w w' → told ps j v w'
  | _, _, .nil, j, h => by simp at h
  | _, _, .k hp hs, j, h => by
    cases j with
    | zero => exact fun v w w' h1 h2 => hp v w w' h1 h2
    | succ j => exact fun v w w' h1 h2 => hs.out j (by simpa using h) v w w' h1 h2
  | _, _, .s hs, j, h => by
    cases j with
    | zero => simp at h
    | succ j => exact fun v w w' h1 h2 => hs.out j (by simpa using h) v w w' h1 h2
inductive Makes (P : Program) (ops : Array Oper) (ps : List Told) (B : Nat) : List Nat → Prop
  | nil : Makes P ops ps B []
  | cons {i : Nat} {is : List Nat} {cs : Array Value} {t : TypeId} {o : Oper} : ps[i]? = some (IsB cs t B) → ops[i]? = some o → o.guard = none → (∀ a w, Does P o a w (fun v w' => Below w.heap.size w w' ∧ IsB cs t w.heap.size v w')) → Makes P ops ps B is → Makes P ops ps B (i :: is)
theorem Makes.out {B : Nat} : ∀ {is : List Nat}, Makes P ops ps B is → ∀ i ∈ is, ∃ cs t o, ps[i]? = some (IsB cs t B) ∧ ops[i]? = some o ∧ o.guard = none ∧ ∀ a w, Does P o a w (fun v w' => Below w.heap.size w w' ∧ IsB cs t w.heap.size v w')
  | _, .nil, i, h => by cases h
  | _, .cons h1 h2 h3 h4 hs, i, h => by
    rcases List.mem_cons.1 h with rfl | h
    · exact ⟨_, _, _, h1, h2, h3, h4⟩
    · exact hs.out i h
theorem Does.at_ {o : Oper} {a : Act} {w w' : World} {u : Value} {R : Value → World → Prop} (hr : (execOp a.eval o).run P w = .ok (.value u) w') (h : Does P o a w R) : Does P o a w (fun v1 w1 => R v1 w1 ∧ w1 = w') := fun K Q hk => by
  have h0 := h (fun b w1 => ∃ v, R v w1 ∧ b = a.put o.dst v) Q (fun v w1 hv => ⟨v, hv, rfl⟩)
  unfold Oper.wp at h0 ⊢
  rw [hr, Oper.upon_value] at h0 ⊢
  obtain ⟨v, hv, e⟩ := h0
  rw [e]
  exact hk v w' ⟨hv, rfl⟩
end
end Go.Proofs.Ytiomlbkakiienaa.E
