/- What a walk over a function's text leans on: variables, rows, and regions in which reads come in any order. -/
import Derived.Test.YtinlfcfcpolodaaZzOwnA
import Derived.Deep.MidRow
import Derived.ArgAppend
import Derived.Laws.Cells
import Derived.ScopeJumps
set_option linter.unusedVariables false
set_option linter.unusedSimpArgs false
namespace Go.Proofs.Ytinlfcfcpolodaa.E
open Go Go.RowKit Go.Proofs.YtinlfcfcpolodaaW.PrintWords Go.Proofs.YtinlfcfcpolodaaW.PrintLast Go.Proofs.YtinlfcfcpolodaaW.PrintMore
structure Tch (g : Nat) (w w' : World) : Prop where
  os : w'.os = w.os
  tape : w'.tape = w.tape
  output : w'.output = w.output
  size : w.heap.size ≤ w'.heap.size
  block : ∀ k, k < w.heap.size → k ≠ g → w'.heap[k]? = w.heap[k]?
theorem Tch.refl (g : Nat) (w : World) : Tch g w w := ⟨rfl, rfl, rfl, Nat.le_refl _, fun _ _ _ => rfl⟩
theorem Tch.trans {g : Nat} {a b c : World} (h : Tch g a b) (k : Tch g b c) : Tch g a c :=
  ⟨k.os.trans h.os, k.tape.trans h.tape, k.output.trans h.output, Nat.le_trans h.size k.size, fun i hi hne => (k.block i (Nat.lt_of_lt_of_le hi h.size) hne).trans (h.block i hi hne)⟩
theorem Tch.below {g B : Nat} {w0 w w' : World} (t : Tch g w w') (h : Below B w0 w) (hg : B ≤ g) (hB : B ≤ w.heap.size) : Below B w0 w' :=
  h.trans ⟨t.os, t.tape, t.output, t.size, fun k hk => t.block k (by omega) (by omega)⟩
theorem Tch.blk {g g2 : Nat} {w w' : World} {o : Obj} (t : Tch g w w') (h : w.heap[g2]? = some o) (hne : g2 ≠ g) : w'.heap[g2]? = some o := (t.block g2 (blk_lt h) hne).trans h
theorem Tch.row {α : Type} {d : Kd α} {e g base : Nat} {w w' : World} {ok : Nat → Prop} {v : Value} {xs : List α} (t : Tch g w w') (h : Kd.R d e w base ok v xs) (hg : g < base) : Kd.R d e w' base ok v xs :=
  Kd.R_mono (Kd.R_move (Kd.R_bound h) (fun k hk => t.block k hk.2.2.1 (by have := hk.2.1; omega))) (fun _ hk => hk.1)
section
variable {P : Program} {o : Oper} {a : Act} {w : World} {p : Told} {ρ : Operand → Value}
theorem Vals.at {tmps : Array Value} {u : Tmp} {v : Value} {rs : List ResultVar} {vs : List Value} (h : tmps.getD u undef = v) (hv : Vals P tmps w rs vs) : Vals P tmps w (.tmp u :: rs) (v :: vs) := by
  subst h
  exact .tmp hv
end
end Go.Proofs.Ytinlfcfcpolodaa.E
set_option linter.unusedVariables false
set_option linter.unusedSimpArgs false
namespace Go.Proofs.Ytinlfcfcpolodaa.E
open Go Go.RowKit Go.Proofs.YtinlfcfcpolodaaW.PrintWords Go.Proofs.YtinlfcfcpolodaaW.PrintLast Go.Proofs.YtinlfcfcpolodaaW.PrintMore
theorem Does.congr {P : Program} {o : Oper} {a b : Act} {w : World} {R : Value → World → Prop} (he : execOp a.eval o = execOp b.eval o) (hs : a.tmps.size = b.tmps.size) (h : Does P o a w R) : Does P o b w R := fun K Q hk => by
  let K0 : Act → World → Prop := fun c w' => ∃ v, R v w' ∧ c = a.put o.dst v
  let Q0 : Exit → Act → World → Prop := fun _ _ _ => False
  have h0 : o.wp P a w K0 Q0 := h K0 Q0 (fun v w' hv => ⟨v, hv, rfl⟩)
  have key : ∀ v w', K0 (a.put o.dst v) w' → K (b.put o.dst v) w' := by
    rintro v w' ⟨v0, hv, e⟩
    have hb : b.put o.dst v = b.put o.dst v0 := by
      cases hd : o.dst with
      | none => rfl
      | some d =>
        rw [hd] at e
        by_cases hlt : d < a.tmps.size
        · have h1 : sl (a.put (some d) v) d = sl (a.put (some d) v0) d := by rw [e]
          rw [sl_same hlt, sl_same hlt] at h1
          rw [h1]
        · simp only [Act.put]
          have hle : b.tmps.size ≤ d := by rw [← hs]; exact Nat.le_of_not_lt hlt
          rw [Array.setIfInBounds_eq_of_size_le hle, Array.setIfInBounds_eq_of_size_le hle]
    rw [hb]
    exact hk v0 w' hv
  unfold Oper.wp at h0 ⊢
  rw [← he]
  generalize (execOp a.eval o).run P w = r at *
  cases r with
  | ok n w' =>
    cases n with
    | value v => exact key _ _ h0
    | skip => exact key _ _ h0
    | defer d =>
      simp only [Oper.upon] at h0
      obtain ⟨v, _, e⟩ := h0
      have h1 := congrArg Act.defers e
      rw [put_def, put_def] at h1
      have h2 := congrArg List.length h1
      simp at h2
    | enter f xs =>
      simp only [Oper.upon] at h0 ⊢
      refine Calls.mono h0 (fun e w'' h1 => ?_)
      cases e with
      | returned v => exact key _ _ h1
      | panicked c => exact h1.elim
      | outgrown => exact absurd h1 (fun ⟨_, _, hq⟩ => hq)
    | row r xs =>
      simp only [Oper.upon] at h0 ⊢
      exact Rows.mono h0 (fun _ _ h1 => key _ _ h1)
    | _ => exact h0.elim
  | halt x w' => cases x <;> exact h0.elim
def ListC (P : Program) (ops : Array Oper) (C : World → Prop) (Q : Exit → Act → World → Prop) : List Oper → Act → World → Prop
  | [], a, w => Q .normal a w
  | o :: rest, a, w => (Region.wanted o (yielded ops a.tmps) = true ∧ ∃ R : Value → World → Prop, Does P o a w R ∧ ∀ v w', R v w' → C w' ∧ ListC P ops C Q rest (a.put o.dst v) w') ∨ (Region.wanted o (yielded ops a.tmps) = false ∧ ListC P ops C Q rest (a.put o.dst undef) w)
section
variable {P : Program} {ops : Array Oper} {C : World → Prop} {Q : Exit → Act → World → Prop} {o : Oper} {rest : List Oper} {a : Act} {w : World} {R : Value → World → Prop}
def GRun (P : Program) (ops : Array Oper) (o : Oper) (v : Value) (a : Act) (w : World) : Prop :=
  (Region.wanted o (yielded ops a.tmps) = true ∧ (execOp a.eval o).run P w = .ok (.value v) w) ∨ (Region.wanted o (yielded ops a.tmps) = false ∧ v = undef)
inductive GAll (P : Program) (ops : Array Oper) (C : World → Prop) (a : Act) : List Oper → List Bool → List Value → Prop
  | nil {os : List Oper} : GAll P ops C a os [] []
  | g {o : Oper} {os : List Oper} {bs : List Bool} {v : Value} {vs : List Value} : (∀ w, C w → GRun P ops o v a w) → GAll P ops C a os bs vs → GAll P ops C a (o :: os) (true :: bs) (v :: vs)
  | t {o : Oper} {os : List Oper} {bs : List Bool} {v : Value} {vs : List Value} : GAll P ops C a os bs vs → GAll P ops C a (o :: os) (false :: bs) (v :: vs)
theorem GAll.out : ∀ {os : List Oper} {bs : List Bool} {vs : List Value}, GAll P ops C a os bs vs → ∀ (i : Nat) (o : Oper) (v : Value), bs[i]? = some true → vs[i]? = some v → os[i]? = some o → ∀ w, C w → GRun P ops o v a w
  | _, _, _, .nil, i, o, v, h, _, _ => by simp at h
  | _, _, _, .g hg hs, i, o, v, h1, h2, h3 => by
    cases i with
    | zero =>
      simp only [List.getElem?_cons_zero, Option.some.injEq] at h2 h3
      subst h2; subst h3
      exact hg
    | succ i =>
      simp only [List.getElem?_cons_succ] at h1 h2 h3
      exact hs.out i o v h1 h2 h3
  | _, _, _, .t hs, i, o, v, h1, h2, h3 => by
    cases i with
    | zero => simp at h1
    | succ i =>
      simp only [List.getElem?_cons_succ] at h1 h2 h3
      exact hs.out i o v h1 h2 h3
theorem GRun.on {v : Value} (hg : o.guard = none) (h : (execOp a.eval o).run P w = .ok (.value v) w) : GRun P ops o v a w := .inl ⟨by simp [Region.wanted, hg], h⟩
theorem GRun.y {N : Nat} {bs : List (Nat × Value)} {v : Value} {g d : Nat} {b : Bool} (hS : St N bs a) (hg : o.guard = some (g, b)) (hd : (ops[g]?).bind (·.dst) = some d) (hN : Nat.blt d N = true) (hv : sl a d = .bool b) (h : (execOp a.eval o).run P w = .ok (.value v) w) : GRun P ops o v a w :=
  .inl ⟨by rw [wanted_of hg hd (by rw [hS.size]; simpa using hN) hv]; cases b <;> rfl, h⟩
theorem GRun.n {N : Nat} {bs : List (Nat × Value)} {g d : Nat} {b : Bool} (hS : St N bs a) (hg : o.guard = some (g, b)) (hd : (ops[g]?).bind (·.dst) = some d) (hN : Nat.blt d N = true) (hv : sl a d = .bool (!b)) : GRun P ops o undef a w :=
  .inr ⟨by rw [wanted_of hg hd (by rw [hS.size]; simpa using hN) hv]; cases b <;> rfl, rfl⟩
theorem GRun.u {N : Nat} {bs : List (Nat × Value)} {g d : Nat} {b : Bool} (hS : St N bs a) (hg : o.guard = some (g, b)) (hd : (ops[g]?).bind (·.dst) = some d) (hN : Nat.blt d N = true) (hv : sl a d = undef) : GRun P ops o undef a w := by
  have hlt : d < a.tmps.size := by rw [hS.size]; simpa using hN
  have h1 : a.tmps[d]? = some undef := by
    rw [Array.getElem?_eq_getElem hlt, ← hv]
    simp [sl, Array.getD, hlt]
  exact .inr ⟨by simp only [Region.wanted, hg, yielded, hd, Option.bind_some, h1]; simp [undef], rfl⟩
end
def GPre (ops : Array Oper) (N : Nat) (gm : List Bool) (gv : List Value) (a : Act) : Prop := ∀ (j : Nat) (v : Value), gm[j]? = some true → gv[j]? = some v → sl a (dstOf ops N j) = v
theorem GPre.get {ops : Array Oper} {N : Nat} {gm : List Bool} {gv : List Value} {a : Act} (h : GPre ops N gm gv a) (j : Nat) (hm : gm[j]? = some true) {v : Value} (hv : gv[j]? = some v) {d : Nat} (hd : dstOf ops N j = d) : sl a d = v := hd ▸ h j v hm hv
def readsOf (ops : Array Oper) (o : Oper) : List Nat :=
  (o.op.operands.toList.filterMap fun x => match x with | .tmp d => some d | _ => none) ++ (match o.guard with | some (g, _) => (match (ops[g]?).bind (·.dst) with | some d => [d] | none => []) | none => [])
structure FloatAt (ops : Array Oper) (N : Nat) (keys : List Nat) (gm : List Bool) (ms : List Nat) (i : Nat) (o : Oper) : Prop where
  sel : ∀ cs b, o.op ≠ .select cs b
  aft : ∀ e ∈ o.after, Region.binds .any e = true → e.on < i ∧ (gm.getD i false = true → gm.getD e.on false = true)
  gdst : gm.getD i false = true → ∃ d, o.dst = some d ∧ d < N ∧ d ∉ keys
  dst : ∀ d, o.dst = some d → d < N ∧ ∀ j, j < ops.size → j ≠ i → (ops[j]?).bind (·.dst) ≠ some d
  order : gm.getD i false = false → ∀ j, j < i → gm.getD j false = false → Nat.testBit (ms.getD i 0) j = true
  reads : ∀ d ∈ readsOf ops o, ∀ j, j < ops.size → (ops[j]?).bind (·.dst) = some d → (gm.getD j false = true → ∃ e ∈ o.after, Region.binds .any e = true ∧ e.on = j) ∧ (gm.getD j false = false → gm.getD i false = true → i < j ∧ Nat.testBit (ms.getD j 0) i = true)
def tailT : List Oper → List Bool → List Oper
  | _ :: os, true :: bs => tailT os bs
  | o :: os, false :: bs => o :: tailT os bs
  | _, _ => []
section
variable {P : Program} {ops : Array Oper} {N : Nat} {keys : List Nat} {gm gs_ : List Bool} {gv : List Value} {ms : List Nat} {C : World → Prop} {Q : Exit → Act → World → Prop}
structure FInv (P : Program) (ops : Array Oper) (N : Nat) (gm gs_ : List Bool) (gv : List Value) (C : World → Prop) (Q : Exit → Act → World → Prop) (a0 : Act) (listed : Array Bool) (a as_ : Act) (w : World) (r : Nat) : Prop where
  sz : listed.size = ops.size
  cl : Closed ops listed
  sa : a.tmps.size = N
  ss : as_.tmps.size = N
  df : a.defers = as_.defers
  ag : ∀ d, (∀ i, i < ops.size → gm.getD i false = true → listed.getD i true = false → (ops[i]?).bind (·.dst) ≠ some d) → sl a d = sl as_ d
  gs : GPre ops N gs_ gv as_
  al : ∀ i, i < ops.size → gm.getD i false = true → gs_.getD i false = false → listed.getD i true = true
  h0 : ∀ d, (∀ i, i < ops.size → gm.getD i false = false → listed.getD i true = true → (ops[i]?).bind (·.dst) ≠ some d) → sl as_ d = sl a0 d
  hC : C w
  tl : ∀ i, i < ops.size → gm.getD i false = false → (listed.getD i true = true ↔ i < r)
  rest : ListC P ops C Q (tailT (ops.toList.drop r) (gm.drop r)) as_ w
inductive GTell : List Bool → List Value → List Told → Prop
  | nil {vs : List Value} : GTell [] vs []
  | g {bs : List Bool} {v : Value} {vs : List Value} {ps : List Told} : GTell bs vs ps → GTell (true :: bs) (v :: vs) (IsV v :: ps)
  | t {bs : List Bool} {v : Value} {vs : List Value} {p : Told} {ps : List Told} : GTell bs vs ps → GTell (false :: bs) (v :: vs) (p :: ps)
  | f {bs : List Bool} {v : Value} {vs : List Value} : GTell bs vs [] → GTell (false :: bs) (v :: vs) []
theorem GTell.out : ∀ {bs : List Bool} {vs : List Value} {ps : List Told}, GTell bs vs ps → ∀ (i : Nat) (v : Value), bs[i]? = some true → vs[i]? = some v → ps[i]? = some (IsV v)
  | _, _, _, .nil, i, v, h, _ => by simp at h
  | _, _, _, .g hs, i, v, h1, h2 => by
    cases i with
    | zero =>
      simp only [List.getElem?_cons_zero, Option.some.injEq] at h2
      subst h2
      rfl
    | succ i =>
      simp only [List.getElem?_cons_succ] at h1 h2 ⊢
      exact hs.out i v h1 h2
  | _, _, _, .t hs, i, v, h1, h2 => by
    cases i with
    | zero => simp at h1
    | succ i =>
      simp only [List.getElem?_cons_succ] at h1 h2 ⊢
      exact hs.out i v h1 h2
  | _, _, _, .f hs, i, v, h1, h2 => by
    cases i with
    | zero => simp at h1
    | succ i =>
      simp only [List.getElem?_cons_succ] at h1 h2
      have := hs.out i v h1 h2
      simp at this
end
end Go.Proofs.Ytinlfcfcpolodaa.E
set_option linter.unusedVariables false
set_option linter.unusedSimpArgs false
namespace Go.Proofs.Ytinlfcfcpolodaa.E
open Go Go.RowKit Go.Proofs.YtinlfcfcpolodaaW.PrintWords Go.Proofs.YtinlfcfcpolodaaW.PrintLast Go.Proofs.YtinlfcfcpolodaaW.PrintMore
structure Flat {α : Type} (d : Kd α) (f : α → List Value) : Prop where
  opens : ∀ w x cs, d.K w x cs → cs = f x
  made : ∀ w base x, d.M w base (fun _ => False) x (f x)
theorem Flat.len {α : Type} {d : Kd α} {f : α → List Value} (F : Flat d f) (w : World) (x : α) : (f x).length = d.sz := d.K_len (d.K_of_M (F.made w 0 x))
theorem add_add (ad : Addr) (m j : Nat) : (ad.add m).add j = ad.add (m + j) := by
  unfold Addr.add
  by_cases hm : m = 0 <;> by_cases hj : j = 0 <;> simp [hm, hj]
  omega
def IsAT (cs : List Value) : Told := fun v w => ∃ ad : Addr, v = .pointer (some ad) ∧ ad.block < w.heap.size ∧ ∀ j u, cs[j]? = some u → w.cell? (ad.add j) = some u
theorem Stays.at_ (cs : List Value) : Stays (IsAT cs) := fun _ w w' ⟨ad, h1, h2, h3⟩ hb => ⟨ad, h1, Nat.lt_of_lt_of_le h2 hb.size, fun j u hj => (hb.cell (by rw [add_block]; exact h2)).trans (h3 j u hj)⟩
def IsT (mk : Value → Array Value) (p : Told) : Told := fun v w => ∃ v0, v = .tuple (mk v0) ∧ p v0 w
theorem Stays.t (mk : Value → Array Value) {p : Told} (h : Stays p) : Stays (IsT mk p) := fun _ _ _ ⟨v0, h1, h2⟩ hb => ⟨v0, h1, h _ _ _ h2 hb⟩
section
variable {P : Program} {ops : Array Oper} {o : Oper} {a : Act} {w : World} {ρ : Operand → Value}
end
end Go.Proofs.Ytinlfcfcpolodaa.E
set_option linter.unusedVariables false
set_option linter.unusedSimpArgs false
namespace Go.Proofs.Ytinlfcfcpolodaa.E
open Go Go.RowKit Go.Proofs.YtinlfcfcpolodaaW.PrintWords Go.Proofs.YtinlfcfcpolodaaW.PrintLast Go.Proofs.YtinlfcfcpolodaaW.PrintMore
section
variable {P : Program} {ops : Array Oper} {N m : Nat} {bs : List (Nat × Value)} {I : World → Prop} {ps : List Told}
inductive StaysS (S : World → World → Prop) : List Told → List Bool → Prop
  | nil : StaysS S [] []
  | k {p : Told} {ps : List Told} {bs : List Bool} : (∀ v w w', p v w → S w w' → p v w') → StaysS S ps bs → StaysS S (p :: ps) (true :: bs)
  | s {p : Told} {ps : List Told} {bs : List Bool} : StaysS S ps bs → StaysS S (p :: ps) (false :: bs)
theorem StaysS.out {S : World → World → Prop} : ∀ {ps : List Told} {fl : List Bool}, StaysS S ps fl → ∀ j, fl.getD j false = true → ∀ v w w', told ps j v w → S w w' → told ps j v w'
  | _, _, .nil, j, h => by simp at h
  | _, _, .k hp hs, j, h => by
    cases j with
    | zero => exact fun v w w' h1 h2 => hp v w w' h1 h2
    | succ j => exact fun v w w' h1 h2 => hs.out j (by simpa using h) v w w' h1 h2
  | _, _, .s hs, j, h => by
    cases j with
    | zero => simp at h
    | succ j => exact fun v w w' h1 h2 => hs.out j (by simpa using h) v w w' h1 h2
inductive Makes (P : Program) (ops : Array Oper) (ps : List Told) (B : Nat) : List Nat → Prop
  | nil : Makes P ops ps B []
  | cons {i : Nat} {is : List Nat} {cs : Array Value} {t : TypeId} {o : Oper} : ps[i]? = some (IsB cs t B) → ops[i]? = some o → o.guard = none → (∀ a w, Does P o a w (fun v w' => Below w.heap.size w w' ∧ IsB cs t w.heap.size v w')) → Makes P ops ps B is → Makes P ops ps B (i :: is)
theorem Makes.out {B : Nat} : ∀ {is : List Nat}, Makes P ops ps B is → ∀ i ∈ is, ∃ cs t o, ps[i]? = some (IsB cs t B) ∧ ops[i]? = some o ∧ o.guard = none ∧ ∀ a w, Does P o a w (fun v w' => Below w.heap.size w w' ∧ IsB cs t w.heap.size v w')
  | _, .nil, i, h => by cases h
  | _, .cons h1 h2 h3 h4 hs, i, h => by
    rcases List.mem_cons.1 h with rfl | h
    · exact ⟨_, _, _, h1, h2, h3, h4⟩
    · exact hs.out i h
/-! ### Functions as values, without anything captured -/
theorem x_callF {ρ : Operand → Value} {o : Oper} {w : World} {x : Operand} {xs : Array Operand} {ts : Array TypeId} {v : Value} {n : Next} (ho : o.op = .call { callee := .value x, args := xs, argTypes := ts }) (hx : ρ x = v)
    (h : (do let d ← Deferred.ofValue v (xs.map ρ); invoke d.target d.args : Sem Next).run P w = .ok n w) : (execOp ρ o).run P w = .ok n w := by
  unfold execOp
  simp only [ho, resolve, hx]
  exact h
/-! ### An append leaves the old row the call's own -/
theorem Does.at_ {o : Oper} {a : Act} {w w' : World} {u : Value} {R : Value → World → Prop} (hr : (execOp a.eval o).run P w = .ok (.value u) w') (h : Does P o a w R) : Does P o a w (fun v1 w1 => R v1 w1 ∧ w1 = w') := fun K Q hk => by
  have h0 := h (fun b w1 => ∃ v, R v w1 ∧ b = a.put o.dst v) Q (fun v w1 hv => ⟨v, hv, rfl⟩)
  unfold Oper.wp at h0 ⊢
  rw [hr, Oper.upon_value] at h0 ⊢
  obtain ⟨v, hv, e⟩ := h0
  rw [e]
  exact hk v w' ⟨hv, rfl⟩
end
end Go.Proofs.Ytinlfcfcpolodaa.E
