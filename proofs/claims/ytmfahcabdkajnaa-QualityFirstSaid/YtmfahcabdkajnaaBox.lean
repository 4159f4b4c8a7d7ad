/- Variables in memory: laid, read, written. -/
import Derived.Test.YtmfahcabdkajnaaOps
import Derived.Deep.MidRow
set_option linter.unusedVariables false
set_option linter.unusedSimpArgs false
namespace Go.Proofs.Ytmfahcabdkajnaa.E
open Go Go.RowKit Go.Proofs.YtmfahcabdkajnaaW.PrintWords Go.Proofs.YtmfahcabdkajnaaW.PrintLast Go.Proofs.YtmfahcabdkajnaaW.PrintMore
/-- Of what was there, one block alone may have turned. -/
structure Tch (g : Nat) (w w' : World) : Prop where
  os : w'.os = w.os
  tape : w'.tape = w.tape
  output : w'.output = w.output
  size : w.heap.size ≤ w'.heap.size
  block : ∀ k, k < w.heap.size → k ≠ g → w'.heap[k]? = w.heap[k]?
theorem Tch.refl (g : Nat) (w : World) : Tch g w w := ⟨rfl, rfl, rfl, Nat.le_refl _, fun _ _ _ => rfl⟩
theorem Tch.trans {g : Nat} {a b c : World} (h : Tch g a b) (k : Tch g b c) : Tch g a c :=
  ⟨k.os.trans h.os, k.tape.trans h.tape, k.output.trans h.output, Nat.le_trans h.size k.size, fun i hi hne => (k.block i (Nat.lt_of_lt_of_le hi h.size) hne).trans (h.block i hi hne)⟩
theorem Tch.setCell (g i : Nat) (w : World) (v : Value) : Tch g w (w.setCell ⟨g, i, none⟩ v) := ⟨rfl, rfl, rfl, by simp [World.setCell], fun k _ hk => Below.heap_setCell w ⟨g, i, none⟩ v k hk⟩
theorem Tch.below {g B : Nat} {w0 w w' : World} (t : Tch g w w') (h : Below B w0 w) (hg : B ≤ g) (hB : B ≤ w.heap.size) : Below B w0 w' :=
  h.trans ⟨t.os, t.tape, t.output, t.size, fun k hk => t.block k (by omega) (by omega)⟩
theorem Tch.of_grown {w w' : World} {row : Option Nat} {g : Nat} (h : w.grownBy w' row) (hr : ∀ k, row = some k → k = g) : Tch g w w' :=
  ⟨h.os, h.tape, h.output, h.size, fun k hk hne => h.block k hk (fun e => hne (hr k e.symm))⟩
theorem Tch.more {g : Nat} {a b c : World} (t : Tch g a b) (h : Below b.heap.size b c) : Tch g a c :=
  ⟨h.os.trans t.os, h.tape.trans t.tape, h.output.trans t.output, Nat.le_trans t.size h.size, fun k hk hne => (h.block k (Nat.lt_of_lt_of_le hk t.size)).trans (t.block k hk hne)⟩
theorem Tch.far {g g2 : Nat} {a b c : World} (t : Tch g a b) (h : Tch g2 b c) (hge : a.heap.size ≤ g2) : Tch g a c :=
  ⟨h.os.trans t.os, h.tape.trans t.tape, h.output.trans t.output, Nat.le_trans t.size h.size, fun k hk hne => (h.block k (Nat.lt_of_lt_of_le hk t.size) (by omega)).trans (t.block k hk hne)⟩
theorem Tch.blk {g g2 : Nat} {w w' : World} {o : Obj} (t : Tch g w w') (h : w.heap[g2]? = some o) (hne : g2 ≠ g) : w'.heap[g2]? = some o := (t.block g2 (blk_lt h) hne).trans h
theorem Tch.row {α : Type} {d : Kd α} {e g base : Nat} {w w' : World} {ok : Nat → Prop} {v : Value} {xs : List α} (t : Tch g w w') (h : Kd.R d e w base ok v xs) (hg : g < base) : Kd.R d e w' base ok v xs :=
  Kd.R_mono (Kd.R_move (Kd.R_bound h) (fun k hk => t.block k hk.2.2.1 (by have := hk.2.1; omega))) (fun _ hk => hk.1)
def putCells (cur : Array Value) : Nat → List Value → Array Value
  | _, [] => cur
  | o, v :: r => putCells (cur.setIfInBounds o v) (o + 1) r
theorem setCells_at (g : Nat) (t : TypeId) : ∀ (vs : List Value) (o : Nat) (cur : Array Value) (w : World), w.heap[g]? = some (.cells cur t (0, 0)) → (w.setCells g o vs).heap[g]? = some (.cells (putCells cur o vs) t (0, 0)) ∧ Tch g w (w.setCells g o vs)
  | [], _, _, w, h => ⟨h, Tch.refl _ _⟩
  | v :: r, o, cur, w, h => by
    have h1 := blk_put h o v rfl
    have ih := setCells_at g t r (o + 1) _ _ h1
    exact ⟨ih.1, (Tch.setCell g o w v).trans ih.2⟩
section
variable {P : Program} {o : Oper} {a : Act} {w : World} {p : Told} {ρ : Operand → Value}
theorem there_at {g off n : Nat} {cur : Array Value} {t : TypeId} (h : w.heap[g]? = some (.cells cur t (0, 0))) (hn : off + n ≤ cur.size) : w.there g off n := fun j hj => ⟨by
  rw [blk_cell h (off + j), Array.getElem?_eq_getElem (by omega)]
  rfl, blk_frozen h (off + j)⟩
/-- A store into a variable, or a part of it. -/
theorem does_store {t ty : TypeId} {x y : Operand} {g off : Nat} {v : Value} {cur new : Array Value} (ho : o.op = .store ty x y) (hx : a.eval x = .pointer (some ⟨g, off, none⟩)) (hy : a.eval y = v) (hg : w.heap[g]? = some (.cells cur t (0, 0)))
    (hi : (P.info? ty).map (·.size) = some v.cells.size) (hn : Nat.ble (off + v.cells.size) cur.size = true) (h1 : v.cells.toList.all (·.oneCell') = true) (hnew : putCells cur off v.cells.toList = new) :
    Does P o a w (fun u w' => u = undef ∧ w'.heap[g]? = some (.cells new t (0, 0)) ∧ Tch g w w') := fun K Q hk => by
  subst hnew
  have ht := there_at (w := w) (off := off) (n := v.cells.size) hg (Nat.le_of_ble_eq_true hn)
  have h2 := run_storeCells_cells (P := P) g off v.cells.toList 0 w (fun j hj => by simpa using (ht j (by simpa using hj)).1) (fun j hj => by simpa using (ht j (by simpa using hj)).2)
    (fun u hu => (List.all_eq_true.1 h1) u hu)
  have hs : (storeVar ty ⟨g, off, none⟩ v).run P w = .ok () (w.setCells g off v.cells.toList) := by
    cases hq : P.info? ty with
    | none => simp [hq] at hi
    | some i =>
      have hs : v.cells.size = i.size := by simp [hq] at hi; omega
      simp only [Nat.add_zero] at h2
      simp [storeVar, sizeOf, typeInfo, hq, hs, h2]
  have hc := setCells_at g t v.cells.toList off cur w hg
  unfold Oper.wp execOp
  simp only [ho, hx, hy, Instr.storeAt, Instr.sureAddr, Sem.run_bind, Sem.run_pure, Result.andThen_ok, hs]
  exact hk _ _ ⟨rfl, hc⟩
theorem Tch.setRow (g : Nat) (w : World) (cs : Array Value) : Tch g w (w.setRow g cs) := ⟨rfl, rfl, rfl, by simp, fun k _ hk => setRow_other w g k cs hk⟩
/-- A store into a whole variable. -/
theorem does_storeAll {t ty : TypeId} {x y : Operand} {g : Nat} {cs cur : Array Value} (ho : o.op = .store ty x y) (hx : a.eval x = .pointer (some ⟨g, 0, none⟩)) (hy : a.eval y = .agg cs) (hg : w.heap[g]? = some (.cells cur t (0, 0)))
    (hi : (P.info? ty).map (·.size) = some cs.size) (hold : cur.size = cs.size) (h1 : cs.toList.all (·.oneCell') = true) :
    Does P o a w (fun u w' => u = undef ∧ w'.heap[g]? = some (.cells cs t (0, 0)) ∧ Tch g w w') :=
  (does_storerow ho hx hy hg hi hold (by rw [← Array.all_toList]; exact h1)).mono fun v w' h => by
    obtain ⟨rfl, rfl⟩ := h
    exact ⟨rfl, setRow_heap w g cur cs t (0, 0) hg, Tch.setRow g w cs⟩
theorem x_box {t : TypeId} {x : Operand} {cs : Array Value} (ho : o.op = .box t x) (hx : (ρ x).cells = cs) : (execOp ρ o).run P w = .ok (.value (.pointer (some ⟨w.heap.size, 0, none⟩))) (w.alloc (.cells cs t (0, 0))) := by
  subst hx
  unfold execOp
  simp only [ho, Sem.run_bind, Instr.box, newVar, newRow, run_newObj_alloc, Sem.run_pure, Result.andThen_ok]
theorem x_alloc {t : TypeId} {cs : Array Value} (ho : o.op = .alloc t) (hz : ((P.info? t).bind (·.zero)).map (·.cells) = some cs) : (execOp ρ o).run P w = .ok (.value (.pointer (some ⟨w.heap.size, 0, none⟩))) (w.alloc (.cells cs t (0, 0))) := by
  obtain ⟨z, h1, rfl⟩ := Option.map_eq_some_iff.1 hz
  obtain ⟨i, hi, h2⟩ := Option.bind_eq_some_iff.1 h1
  unfold execOp
  simp [ho, Sem.run_bind, Instr.alloc, zeroValue, typeInfo, hi, h2, newVar, newRow, run_newObj_alloc, Sem.run_pure, Result.andThen_ok]
theorem x_field {s : TypeId} {x : Operand} {f : Nat} {g b : Nat} {fs : Array Field} {fd : Field} (ho : o.op = .fieldAddr s x f) (hx : ρ x = .pointer (some ⟨g, b, none⟩)) (hu : P.underlying s = some (.struct fs)) (hf : fs[f]? = some fd) (hs : ((P.info? fd.type).map fun i => i.size == 0) = some false) :
    (execOp ρ o).run P w = .ok (.value (.pointer (some ⟨g, b + fd.offset, none⟩))) w := by
  obtain ⟨i, hi, h0⟩ := Option.map_eq_some_iff.1 hs
  have h0 : ¬ i.size = 0 := by simpa using h0
  have ha : (⟨g, b, none⟩ : Addr).add fd.offset = ⟨g, b + fd.offset, none⟩ := Addr.add_mid g b fd.offset
  unfold execOp
  simp [ho, hx, Sem.run_bind, Instr.fieldAt, run_underlying hu, hf, Instr.sureAddr, fieldPlace, sizeOf, typeInfo, hi, h0, ha]
/-- A variable made. -/
theorem does_var {cs : Array Value} {t : TypeId} {B : Nat} (hr : (execOp a.eval o).run P w = .ok (.value (.pointer (some ⟨w.heap.size, 0, none⟩))) (w.alloc (.cells cs t (0, 0)))) (hB : B ≤ w.heap.size) : Does P o a w (fun v w' => Below w.heap.size w w' ∧ IsB cs t B v w') :=
  (does_box hr).mono fun v w' h => ⟨h.1, h.2.elim fun g h => ⟨g, h.1, Nat.le_trans hB h.2.1, h.2.2⟩⟩
theorem does_loadmid {ty t : TypeId} {x : Operand} {g off : Nat} {cs : List Value} {cur : Array Value} {d : TypeDesc} (ho : o.op = .load ty x) (hx : a.eval x = .pointer (some ⟨g, off, none⟩)) (hg : w.heap[g]? = some (.cells cur t (0, 0))) (hc : (cur.extract off (off + cs.length)).toList = cs)
    (hu : P.underlying ty = some d) (hd : d.isRow = true) (hi : (P.info? ty).map (·.size) = some cs.length) (hp : p (.agg cs.toArray) w) : Does P o a w (fun v w' => Below w.heap.size w w' ∧ p v w') :=
  fun K Q hk => wp_load_mid ty x ho g off hx cs d (by have := World.rangeAt_of_block hg off cs.length; rwa [hc] at this) hu hd hi (hk _ _ ⟨Below.refl _ _, hp⟩)
theorem results_cell {fn : Func} {p : Tmp} {ty t : TypeId} (h : fn.results = #[.cell p ty]) (tmps : Array Value) (g : Nat) (cs : Array Value) (d : TypeDesc) (hp : tmps.getD p undef = .pointer (some ⟨g, 0, none⟩)) (hg : w.heap[g]? = some (.cells cs t (0, 0)))
    (hu : P.underlying ty = some d) (hd : (match d with | .struct _ | .array _ _ => true | _ => false) = true) (hi : (P.info? ty).map (·.size) = some cs.size) : (results fn tmps).run P w = .ok (.agg cs) w :=
  results_cell_row h tmps w g t cs (0, 0) d hp hg hu hd hi
/-- Zeros behind a row of the call's own. -/
theorem does_zeros {k : IntKind} {W : World} (s x : Operand) (t ti e : TypeId) (bytes : Nat) {ki kx : IntKind} (ho : o.op = .call { callee := .builtin .append, args := #[s, x], argTypes := #[t, ti] })
    (ht : P.underlying t = some (.slice e)) (hti : P.underlying ti = some (.int ki)) (hinfo : (P.info? e).map (fun i => (i.zero, i.size, i.bytes)) = some (some (.int k 0), 1, bytes)) (hb0 : 0 < bytes) (v : Value) (xs : List Int) (n : Int) (hs : a.eval s = v) (hx : a.eval x = .int kx n)
    (HO : Kd.R (Kd.int k) e w W.heap.size (fun _ => True) v xs) (hb : Below W.heap.size W w) (h0 : 0 ≤ n) (hl : (xs.length + n.toNat) * bytes ≤ 140737488355328) : Does P o a w (fun v w' => Below W.heap.size W w' ∧ IsR (Kd.int k) e W.heap.size (xs ++ List.replicate n.toNat 0) v w') :=
  does_of_list fun _ _ _ h => Kd.R_append_zeros (Kd.int k) (w0 := W) W.heap.size rfl s x t ti e (.int k 0) bytes ho ht hti hinfo rfl (Nat.zero_lt_one) hb0 v xs 0 n (fun _ => True) hs hx rfl (fun _ _ => trivial) HO h0 hb hb.size hl (fun v1 w1 a1 a2 _ _ => h v1 w1 ⟨a2, a1⟩)
/-- The place of an element of a row of the call's own. -/
def IsP (A : Option Addr) (i : Nat) : Told := fun v _ => ∃ g, A = some ⟨g, 0, none⟩ ∧ v = .pointer (some ⟨g, i, none⟩)
theorem stays_p (A : Option Addr) (i : Nat) : Stays (IsP A i) := fun _ _ _ h _ => h
theorem own_block {k : IntKind} {e base n c : Nat} {ok : Nat → Prop} {A : Option Addr} {xs : List Int} (h : Kd.R (Kd.int k) e w base ok (.slice A n c) xs) (hn : 0 < xs.length) : ∃ g cur, A = some ⟨g, 0, none⟩ ∧ base ≤ g ∧ w.heap[g]? = some (.cells cur e (0, 0)) ∧ cur.size = c ∧ n = xs.length ∧ n ≤ c := by
  have hr := Kd.R_reads' h
  obtain ⟨inner, ho⟩ := Kd.R_own h
  rcases ho.2 with ⟨h1, h2⟩ | ⟨g, cap, cur, h1, hg, hh, h3, h4, h5, h6⟩
  · omega
  · injection h1 with a1 a2 a3
    subst a1 a3
    exact ⟨g, cur, rfl, hg, hh, by rw [h5]; exact Nat.mul_one _, hr.1, hr.2.1⟩
theorem does_place {k ki : IntKind} {t e : TypeId} {x y : Operand} {A : Option Addr} {n c base : Nat} {ok : Nat → Prop} {xs : List Int} {i : Int} (ho : o.op = .indexAddr t x y) (hx : a.eval x = .slice A n c) (hy : a.eval y = .int ki i) (ht : P.underlying t = some (.slice e)) (hs : (P.info? e).map (·.size) = some 1) (h0 : 0 ≤ i) (h1 : i < (xs.length : Int)) (HO : Kd.R (Kd.int k) e w base ok (.slice A n c) xs) :
    Does P o a w (fun v w' => Below w.heap.size w w' ∧ IsP A i.toNat v w') := by
  obtain ⟨g, cur, rfl, _, _, _, rfl, _⟩ := own_block HO (by omega)
  have hr := x_index (P := P) (w := w) (ρ := a.eval) ho hx hy ht hs h0 h1
  refine does_val (p := IsP _ i.toNat) hr ⟨g, rfl, ?_⟩
  rw [Nat.mul_one, Addr.add_mid, Nat.zero_add]
/-- A store into an element. -/
theorem does_put {k : IntKind} {ty e : TypeId} {x y : Operand} {A : Option Addr} {n c base : Nat} {ok : Nat → Prop} {xs : List Int} {i u : Int} (ho : o.op = .store ty x y) (hx : IsP A i.toNat (a.eval x) w) (hy : a.eval y = .int k u) (hi : (P.info? ty).map (·.size) = some 1) (h0 : 0 ≤ i) (h1 : i < (xs.length : Int)) (HO : Kd.R (Kd.int k) e w base ok (.slice A n c) xs) :
    Does P o a w (fun v w' => v = undef ∧ ∃ g, A = some ⟨g, 0, none⟩ ∧ base ≤ g ∧ g < w.heap.size ∧ Tch g w w' ∧ Kd.R (Kd.int k) e w' base ok (.slice A n c) (xs.set i.toNat u)) := fun K Q hk => by
  obtain ⟨g, cur, rfl, hg, hh, hc, rfl, hle⟩ := own_block HO (by omega)
  obtain ⟨g', e1, hx⟩ := hx
  injection e1 with e1
  injection e1 with e1
  subst e1
  have ht := there_at (w := w) (off := i.toNat) (n := 1) hh (by omega)
  have h2 := run_storeCells_cells (P := P) g i.toNat [.int k u] 0 w (fun j hj => by simpa using (ht j (by simpa using hj)).1) (fun j hj => by simpa using (ht j (by simpa using hj)).2) (fun z hz => by simp at hz; subst hz; rfl)
  have hs : (storeVar ty ⟨g, i.toNat, none⟩ (.int k u)).run P w = .ok () (w.setCell ⟨g, i.toNat, none⟩ (.int k u)) := by
    cases hq : P.info? ty with
    | none => simp [hq] at hi
    | some i' =>
      have hs : i'.size = 1 := by simpa [hq] using hi
      simp only [Nat.add_zero] at h2
      simp [storeVar, sizeOf, typeInfo, hq, hs, Value.cells, h2, World.setCells]
  unfold Oper.wp execOp
  simp only [ho, hx, hy, Instr.storeAt, Instr.sureAddr, Sem.run_bind, Sem.run_pure, Result.andThen_ok, hs]
  exact hk _ _ ⟨rfl, g, rfl, hg, blk_lt hh, Tch.setCell g i.toNat w _, Kd.R_putn HO i u⟩
theorem Vals.at {tmps : Array Value} {u : Tmp} {v : Value} {rs : List ResultVar} {vs : List Value} (h : tmps.getD u undef = v) (hv : Vals P tmps w rs vs) : Vals P tmps w (.tmp u :: rs) (v :: vs) := by
  subst h
  exact .tmp hv
end
end Go.Proofs.Ytmfahcabdkajnaa.E
