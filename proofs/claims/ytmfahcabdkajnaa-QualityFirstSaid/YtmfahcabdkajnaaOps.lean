/- What each kind of operation yields. -/
import Derived.Test.YtmfahcabdkajnaaEng
import Derived.Test.YtmfahcabdkajnaaBig
import Derived.Great.Walk
set_option linter.unusedVariables false
set_option linter.unusedSimpArgs false
namespace Go.Proofs.Ytmfahcabdkajnaa.E
open Go Go.RowKit Go.Proofs.YtmfahcabdkajnaaW.PrintWords Go.Proofs.YtmfahcabdkajnaaW.PrintLast Go.Proofs.YtmfahcabdkajnaaW.PrintMore
section
variable {P : Program} {ops : Array Oper} {N : Nat} {o : Oper} {a : Act} {w : World} {p : Told} {ρ : Operand → Value}
theorem ok_on (hg : o.guard = none) (h : Does P o a w (fun v w' => Below w.heap.size w w' ∧ p v w')) : StepOk P ops o p a w := .inl ⟨by simp [Region.wanted, hg], h⟩
theorem wanted_of {g d : Nat} {b c : Bool} (hg : o.guard = some (g, b)) (hd : (ops[g]?).bind (·.dst) = some d) (hN : d < a.tmps.size) (hv : sl a d = .bool c) : Region.wanted o (yielded ops a.tmps) = (c == b) := by
  have h1 : a.tmps[d]? = some (.bool c) := by
    rw [Array.getElem?_eq_getElem hN, ← hv]
    simp [sl, Array.getD, hN]
  simp only [Region.wanted, hg, yielded, hd, Option.bind_some, h1]
  cases b <;> cases c <;> rfl
theorem ok_if {g d : Nat} {b : Bool} (hg : o.guard = some (g, b)) (hd : (ops[g]?).bind (·.dst) = some d) (hN : d < a.tmps.size) (hv : sl a d = .bool b) (h : Does P o a w (fun v w' => Below w.heap.size w w' ∧ p v w')) : StepOk P ops o p a w :=
  .inl ⟨by rw [wanted_of hg hd hN hv]; cases b <;> rfl, h⟩
theorem ok_off {g d : Nat} {b : Bool} (hg : o.guard = some (g, b)) (hd : (ops[g]?).bind (·.dst) = some d) (hN : d < a.tmps.size) (hv : sl a d = .bool (!b)) (h : p undef w) : StepOk P ops o p a w :=
  .inr ⟨by rw [wanted_of hg hd hN hv]; cases b <;> rfl, h⟩
theorem ok_offu {g d : Nat} {b : Bool} (hg : o.guard = some (g, b)) (hd : (ops[g]?).bind (·.dst) = some d) (hN : d < a.tmps.size) (hv : sl a d = undef) (h : p undef w) : StepOk P ops o p a w := by
  have h1 : a.tmps[d]? = some undef := by
    rw [Array.getElem?_eq_getElem hN, ← hv]
    simp [sl, Array.getD, hN]
  refine .inr ⟨?_, h⟩
  simp only [Region.wanted, hg, yielded, hd, Option.bind_some, h1]
  rfl
theorem does_val {v : Value} (hr : (execOp a.eval o).run P w = .ok (.value v) w) (hp : p v w) : Does P o a w (fun v w' => Below w.heap.size w w' ∧ p v w') := fun K Q hk => by
  unfold Oper.wp
  rw [hr, Oper.upon_value]
  exact hk v w ⟨Below.refl _ _, hp⟩
theorem does_new {v : Value} {w' : World} (hr : (execOp a.eval o).run P w = .ok (.value v) w') (hb : Below w.heap.size w w') (hp : p v w') : Does P o a w (fun v w' => Below w.heap.size w w' ∧ p v w') := fun K Q hk => by
  unfold Oper.wp
  rw [hr, Oper.upon_value]
  exact hk v w' ⟨hb, hp⟩
theorem x_move {x : Operand} {v : Value} (ho : o.op = .move x) (hx : ρ x = v) : (execOp ρ o).run P w = .ok (.value v) w := by simp [execOp, ho, hx]
theorem x_assign {x : Operand} {v : Value} (ho : o.op = .assign x) (hx : ρ x = v) : (execOp ρ o).run P w = .ok (.value v) w := by simp [execOp, ho, hx]
theorem x_pickT {c x y : Operand} {v : Value} (ho : o.op = .pick c x y) (hc : ρ c = .bool true) (hx : ρ x = v) : (execOp ρ o).run P w = .ok (.value v) w := by simp [execOp, ho, hx, hc, asBool, go_sem]
theorem x_pickF {c x y : Operand} {v : Value} (ho : o.op = .pick c x y) (hc : ρ c = .bool false) (hy : ρ y = v) : (execOp ρ o).run P w = .ok (.value v) w := by simp [execOp, ho, hy, hc, asBool, go_sem]
theorem x_bin {op : BinOp} {t t' : TypeId} {x y : Operand} {vx vy v : Value} (ho : o.op = .binOp op t x y t') (hx : ρ x = vx) (hy : ρ y = vy)
    (hv : (do eqGuard op t x y vx vy; binOp op t vx vy : Sem Value).run P w = .ok v w) : (execOp ρ o).run P w = .ok (.value v) w := by
  simp only [execOp, ho, hx, hy]
  rw [Sem.run_bind, hv]
  rfl
theorem b_lss (t : TypeId) (x y : Operand) (k : IntKind) (m n : Int) : (do eqGuard .lss t x y (.int k m) (.int k n); binOp .lss t (.int k m) (.int k n) : Sem Value).run P w = .ok (.bool (decide (m < n))) w := by simp [eqGuard, binOp, go_sem]
theorem b_leq (t : TypeId) (x y : Operand) (k : IntKind) (m n : Int) : (do eqGuard .leq t x y (.int k m) (.int k n); binOp .leq t (.int k m) (.int k n) : Sem Value).run P w = .ok (.bool (decide (m ≤ n))) w := by simp [eqGuard, binOp, go_sem]
theorem b_gtr (t : TypeId) (x y : Operand) (k : IntKind) (m n : Int) : (do eqGuard .gtr t x y (.int k m) (.int k n); binOp .gtr t (.int k m) (.int k n) : Sem Value).run P w = .ok (.bool (decide (m > n))) w := by simp [eqGuard, binOp, go_sem]
theorem b_geq (t : TypeId) (x y : Operand) (k : IntKind) (m n : Int) : (do eqGuard .geq t x y (.int k m) (.int k n); binOp .geq t (.int k m) (.int k n) : Sem Value).run P w = .ok (.bool (decide (m ≥ n))) w := by simp [eqGuard, binOp, go_sem]
theorem b_eql (t : TypeId) (x y : Operand) (k : IntKind) (m n : Int) : (do eqGuard .eql t x y (.int k m) (.int k n); binOp .eql t (.int k m) (.int k n) : Sem Value).run P w = .ok (.bool (decide (m = n))) w := by simp [eqGuard, binOp, go_sem]; rfl
theorem b_neq (t : TypeId) (x y : Operand) (k : IntKind) (m n : Int) : (do eqGuard .neq t x y (.int k m) (.int k n); binOp .neq t (.int k m) (.int k n) : Sem Value).run P w = .ok (.bool (!decide (m = n))) w := by simp [eqGuard, binOp, go_sem]; rfl
theorem b_add (t : TypeId) (x y : Operand) (m n : Int) : (do eqGuard .add t x y (.int .i64 m) (.int .i64 n); binOp .add t (.int .i64 m) (.int .i64 n) : Sem Value).run P w = .ok (.int .i64 (wrap64 (m + n))) w := by simp [eqGuard, binOp, go_sem, i64_w]
theorem b_sub (t : TypeId) (x y : Operand) (m n : Int) : (do eqGuard .sub t x y (.int .i64 m) (.int .i64 n); binOp .sub t (.int .i64 m) (.int .i64 n) : Sem Value).run P w = .ok (.int .i64 (wrap64 (m - n))) w := by simp [eqGuard, binOp, go_sem, i64_w]
theorem b_mul (t : TypeId) (x y : Operand) (m n : Int) : (do eqGuard .mul t x y (.int .i64 m) (.int .i64 n); binOp .mul t (.int .i64 m) (.int .i64 n) : Sem Value).run P w = .ok (.int .i64 (wrap64 (m * n))) w := by simp [eqGuard, binOp, go_sem, i64_w]
theorem b_addk (t : TypeId) (x y : Operand) (k : IntKind) (m n : Int) : (do eqGuard .add t x y (.int k m) (.int k n); binOp .add t (.int k m) (.int k n) : Sem Value).run P w = .ok (.int k (k.wrap (m + n))) w := by simp [eqGuard, binOp, go_sem]
theorem b_subk (t : TypeId) (x y : Operand) (k : IntKind) (m n : Int) : (do eqGuard .sub t x y (.int k m) (.int k n); binOp .sub t (.int k m) (.int k n) : Sem Value).run P w = .ok (.int k (k.wrap (m - n))) w := by simp [eqGuard, binOp, go_sem]
theorem b_quo (t : TypeId) (x y : Operand) (m n : Int) (h : n ≠ 0) : (do eqGuard .quo t x y (.int .i64 m) (.int .i64 n); binOp .quo t (.int .i64 m) (.int .i64 n) : Sem Value).run P w = .ok (.int .i64 (wrap64 (Int.tdiv m n))) w := by simp [eqGuard, binOp, go_sem, i64_w, h]
theorem b_rem (t : TypeId) (x y : Operand) (k : IntKind) (m n : Int) (h : n ≠ 0) : (do eqGuard .rem t x y (.int k m) (.int k n); binOp .rem t (.int k m) (.int k n) : Sem Value).run P w = .ok (.int k (Int.tmod m n)) w := by simp [eqGuard, binOp, go_sem, h]
theorem b_and (t : TypeId) (x y : Operand) (k : IntKind) (m n : Int) : (do eqGuard .and t x y (.int k m) (.int k n); binOp .and t (.int k m) (.int k n) : Sem Value).run P w = .ok (.int k (Go.bits .and k m n)) w := by simp [eqGuard, binOp, go_sem]
theorem b_or (t : TypeId) (x y : Operand) (k : IntKind) (m n : Int) : (do eqGuard .or t x y (.int k m) (.int k n); binOp .or t (.int k m) (.int k n) : Sem Value).run P w = .ok (.int k (Go.bits .or k m n)) w := by simp [eqGuard, binOp, go_sem]
theorem b_shl (t : TypeId) (x y : Operand) (k k2 : IntKind) (m n : Int) (h0 : 0 ≤ n) : (do eqGuard .shl t x y (.int k m) (.int k2 n); binOp .shl t (.int k m) (.int k2 n) : Sem Value).run P w = .ok (.int k (shl k m n)) w := by
  have hn : ¬ n < 0 := by omega
  have e : Op.shift .shl k m k2 n = pure (.int k (shl k m n)) := by
    unfold Op.shift shl
    rw [if_neg hn]
  simp [eqGuard, binOp_shl, e, go_sem]
theorem b_shr (t : TypeId) (x y : Operand) (k k2 : IntKind) (m n : Int) (h0 : 0 ≤ n) : (do eqGuard .shr t x y (.int k m) (.int k2 n); binOp .shr t (.int k m) (.int k2 n) : Sem Value).run P w = .ok (.int k (shr k m n)) w := by
  have hn : ¬ n < 0 := by omega
  have e : Op.shift .shr k m k2 n = pure (.int k (shr k m n)) := by
    unfold Op.shift shr
    rw [if_neg hn]
    have e2 : Int.fdiv m (2 ^ min n.toNat k.bits) = m / 2 ^ min n.toNat k.bits := Int.fdiv_eq_ediv_of_nonneg _ (Int.pow_nonneg (by decide : (0 : Int) ≤ 2))
    show (pure (Value.int k (Int.fdiv m (2 ^ min n.toNat k.bits))) : Sem Value) = _
    rw [e2]
  simp [eqGuard, binOp_shr, e, go_sem]
theorem b_eqb (t : TypeId) (x y : Operand) (m n : Bool) (ht : P.underlying t = some .bool) : (do eqGuard .eql t x y (.bool m) (.bool n); binOp .eql t (.bool m) (.bool n) : Sem Value).run P w = .ok (.bool (m == n)) w := by simp [eqGuard, binOp, go_sem, Op.equal, Op.maxDepth, run_equalIn_bool' w 9999 t m n ht]
theorem b_neb (t : TypeId) (x y : Operand) (m n : Bool) (ht : P.underlying t = some .bool) : (do eqGuard .neq t x y (.bool m) (.bool n); binOp .neq t (.bool m) (.bool n) : Sem Value).run P w = .ok (.bool (!(m == n))) w := by simp [eqGuard, binOp, go_sem, Op.equal, Op.maxDepth, run_equalIn_bool' w 9999 t m n ht]
theorem b_eqs (t : TypeId) (x y : Operand) (m n : ByteArray) : (do eqGuard .eql t x y (.string m) (.string n); binOp .eql t (.string m) (.string n) : Sem Value).run P w = .ok (.bool (m.toList == n.toList)) w := by simp [eqGuard, binOp, Op.stringOp, go_sem]
theorem b_nes (t : TypeId) (x y : Operand) (m n : ByteArray) : (do eqGuard .neq t x y (.string m) (.string n); binOp .neq t (.string m) (.string n) : Sem Value).run P w = .ok (.bool (!(m.toList == n.toList))) w := by simp [eqGuard, binOp, Op.stringOp, go_sem]
theorem b_lts (t : TypeId) (x y : Operand) (m n : ByteArray) : (do eqGuard .lss t x y (.string m) (.string n); binOp .lss t (.string m) (.string n) : Sem Value).run P w = .ok (.bool (Op.bytesLess m.toList n.toList)) w := by simp [eqGuard, binOp, Op.stringOp, go_sem]
theorem b_adds (t : TypeId) (x y : Operand) (m n : ByteArray) (h : m.size + n.size ≤ 9223372036854775807) : (do eqGuard .add t x y (.string m) (.string n); binOp .add t (.string m) (.string n) : Sem Value).run P w = .ok (.string (m ++ n)) w := by simp [eqGuard, binOp, Op.stringOp, go_sem]; omega
theorem run_equalIn_pn (d : Nat) (t e : TypeId) (ad : Addr) (h : P.underlying t = some (.pointer e)) : (Op.equalIn (d + 1) t (.pointer (some ad)) (.pointer none)).run P w = .ok false w := by
  simp [Op.equalIn, run_underlying h]
theorem b_eqp (t e : TypeId) (x y : Operand) (ad : Addr) (ht : P.underlying t = some (.pointer e)) : (do eqGuard .eql t x y (.pointer (some ad)) (.pointer none); binOp .eql t (.pointer (some ad)) (.pointer none) : Sem Value).run P w = .ok (.bool false) w := by simp [eqGuard, binOp, go_sem, Op.equal, Op.maxDepth, run_equalIn_pn (w := w) 9999 t e ad ht]
theorem b_nep (t e : TypeId) (x y : Operand) (ad : Addr) (ht : P.underlying t = some (.pointer e)) : (do eqGuard .neq t x y (.pointer (some ad)) (.pointer none); binOp .neq t (.pointer (some ad)) (.pointer none) : Sem Value).run P w = .ok (.bool true) w := by simp [eqGuard, binOp, go_sem, Op.equal, Op.maxDepth, run_equalIn_pn (w := w) 9999 t e ad ht]
theorem x_nilck {x : Operand} {ad : Addr} (ho : o.op = .nilCheck x) (hx : ρ x = .pointer (some ad)) : (execOp ρ o).run P w = .ok (.value (.pointer (some ad))) w := by simp [execOp, ho, hx, go_sem]
theorem x_not {t : TypeId} {x : Operand} {b : Bool} (ho : o.op = .unOp .not t x) (hx : ρ x = .bool b) : (execOp ρ o).run P w = .ok (.value (.bool (!b))) w := by simp [execOp, ho, hx, go_sem]
theorem x_neg {t : TypeId} {x : Operand} {k : IntKind} {n : Int} (ho : o.op = .unOp .neg t x) (hx : ρ x = .int k n) : (execOp ρ o).run P w = .ok (.value (.int k (k.wrap (-n)))) w := by simp [execOp, ho, hx, go_sem]
theorem x_extract {x : Operand} {i : Nat} {vs : Array Value} {v : Value} (ho : o.op = .extract x i) (hx : ρ x = .tuple vs) (hv : vs[i]? = some v) : (execOp ρ o).run P w = .ok (.value v) w := by simp [execOp, ho, hx, Instr.extract, hv, go_sem]
theorem x_convI {src dst : TypeId} {x : Operand} {k k' : IntKind} {n : Int} (ho : o.op = .convert src dst x) (hs : P.underlying src = some (.int k)) (hd : P.underlying dst = some (.int k')) (hx : ρ x = .int k n) : (execOp ρ o).run P w = .ok (.value (.int k' (k'.wrap n))) w := by
  simp [execOp, ho, hx, convert, run_underlying hs, run_underlying hd, go_sem]
theorem x_len {x : Operand} {t e : TypeId} {A : Option Addr} {n c : Nat} (ho : o.op = .call { callee := .builtin .len, args := #[x], argTypes := #[t] }) (ht : P.underlying t = some (.slice e)) (hx : ρ x = .slice A n c) : (execOp ρ o).run P w = .ok (.value (.int .i64 n)) w := by
  simp [execOp, ho, hx, resolve, invoke, builtin, Builtin.len_, run_underlying ht, go_sem]
theorem x_lenS {x : Operand} {t : TypeId} {s : ByteArray} (ho : o.op = .call { callee := .builtin .len, args := #[x], argTypes := #[t] }) (ht : P.underlying t = some .string) (hx : ρ x = .string s) : (execOp ρ o).run P w = .ok (.value (.int .i64 s.size)) w := by
  simp [execOp, ho, hx, resolve, invoke, builtin, Builtin.len_, run_underlying ht, go_sem]
theorem x_conv {src dst : TypeId} {x : Operand} {v u : Value} (ho : o.op = .convert src dst x) (hx : ρ x = v) (hr : (convert src dst v).run P w = .ok u w) : (execOp ρ o).run P w = .ok (.value u) w := by
  simp only [execOp, ho, hx]
  rw [Sem.run_bind, hr]
  rfl
theorem x_slice {t : TypeId} {x : Operand} {lo hi : Option Operand} {v u : Value} {l h : Option Value} (ho : o.op = .slice t x lo hi none) (hx : ρ x = v) (hl : lo.map ρ = l) (hh : hi.map ρ = h) (hr : (Instr.slice t v l h none).run P w = .ok u w) (ht : ∀ n e, P.underlying t ≠ some (.array n e)) (hu : (P.underlying t).isSome = true) : (execOp ρ o).run P w = .ok (.value u) w := by
  obtain ⟨d, hd⟩ := Option.isSome_iff_exists.1 hu
  simp only [execOp, ho, hx, hl, hh, Option.map_none, Instr.sliceAt]
  rw [Sem.run_bind, Sem.run_bind, run_underlying hd]
  cases d <;> first | (simp only [Result.andThen_ok]; rw [hr]; rfl) | exact absurd hd (ht _ _)
theorem x_index {t e : TypeId} {x y : Operand} {ad : Addr} {n c sz : Nat} {k : IntKind} {i : Int} (ho : o.op = .indexAddr t x y) (hx : ρ x = .slice (some ad) n c) (hy : ρ y = .int k i) (ht : P.underlying t = some (.slice e)) (hs : (P.info? e).map (·.size) = some sz) (h0 : 0 ≤ i) (h1 : i < n) : (execOp ρ o).run P w = .ok (.value (.pointer (some (ad.add (i.toNat * sz))))) w := by
  obtain ⟨f, hf, rfl⟩ := Option.map_eq_some_iff.1 hs
  simp only [execOp, ho, hx, hy]
  simp [Instr.indexAt, run_underlying ht, asIntOf, sizeOf, typeInfo, hf, h0, h1, go_sem]
theorem x_load1 {t : TypeId} {x : Operand} {ad : Addr} {v : Value} {d : TypeDesc} (ho : o.op = .load t x) (hx : ρ x = .pointer (some ad)) (hu : P.underlying t = some d) (hd : (match d with | .struct _ | .array _ _ => true | _ => false) = false) (hc : w.cell? ad = some v) : (execOp ρ o).run P w = .ok (.value v) w := by
  have hag : (isAgg t).run P w = .ok false w := by
    unfold isAgg
    rw [Sem.run_bind, run_underlying hu w]
    cases d <;> simp_all
  simp [execOp, ho, hx, Instr.loadAt, Instr.sureAddr, loadVar, Sem.run_bind, hag, hc, go_sem]
theorem x_build {t : TypeId} {parts : Array (Nat × Operand)} {vs : List (Nat × Value)} {cs : Array Value} (ho : o.op = .build t parts) (hv : (parts.map fun (i, x) => (i, ρ x)).toList = vs) (hb : P.built t vs = some cs) : (execOp ρ o).run P w = .ok (.value (.agg cs)) w := by
  simp only [execOp, ho]
  rw [Sem.run_bind, run_build w t _ cs (by rw [hv]; exact hb)]
  rfl
theorem does_loadrow {t ty : TypeId} {x : Operand} {g : Nat} {cs : Array Value} {d : TypeDesc} (ho : o.op = .load ty x) (hx : a.eval x = .pointer (some ⟨g, 0, none⟩)) (hg : w.heap[g]? = some (.cells cs t (0, 0)))
    (hu : P.underlying ty = some d) (hd : (match d with | .struct _ | .array _ _ => true | _ => false) = true) (hi : (P.info? ty).map (·.size) = some cs.size) (hp : p (.agg cs) w) : Does P o a w (fun v w' => Below w.heap.size w w' ∧ p v w') :=
  fun K Q hk => wp_load_row ty x ho g hx t cs (0, 0) d hg hu hd hi (hk _ _ ⟨Below.refl _ _, hp⟩)
theorem does_storerow {t ty : TypeId} {x y : Operand} {g : Nat} {cs old : Array Value} (ho : o.op = .store ty x y) (hx : a.eval x = .pointer (some ⟨g, 0, none⟩)) (hy : a.eval y = .agg cs) (hg : w.heap[g]? = some (.cells old t (0, 0)))
    (hi : (P.info? ty).map (·.size) = some cs.size) (hold : old.size = cs.size) (h1 : cs.all (·.oneCell') = true) : Does P o a w (fun v w' => v = undef ∧ w' = w.setRow g cs) :=
  fun K Q hk => wp_store_row ty x y ho g cs hx hy t old hg hi hold h1 (hk _ _ ⟨rfl, rfl⟩)
theorem does_box {cs : Array Value} {t : TypeId} (hr : (execOp a.eval o).run P w = .ok (.value (.pointer (some ⟨w.heap.size, 0, none⟩))) (w.alloc (.cells cs t (0, 0)))) : Does P o a w (fun v w' => Below w.heap.size w w' ∧ ∃ g, v = .pointer (some ⟨g, 0, none⟩) ∧ w.heap.size ≤ g ∧ w'.heap[g]? = some (.cells cs t (0, 0))) := fun K Q hk => by
  unfold Oper.wp
  rw [hr, Oper.upon_value]
  exact hk _ _ ⟨below_alloc (Below.refl _ _) _, _, rfl, Nat.le_refl _, blk_new w _⟩
/-- A call by its contract. -/
theorem does_call {f : FuncId} {xs vs : Array Value} {R : Value → World → Prop} (hr : (execOp a.eval o).run P w = .ok (.enter f xs) w) (hx : xs = vs) (hc : Calls P f vs w fun e w' => ∃ v, e = .returned v ∧ R v w') : Does P o a w R := fun K Q hk => by
  subst hx
  unfold Oper.wp
  rw [hr, Oper.upon_enter]
  refine hc.mono ?_
  rintro e w' ⟨v, rfl, hR⟩
  exact hk v w' hR
/-- A rule over lists of operations is one on the operation. -/
theorem does_of_list {R : Value → World → Prop} (h : ∀ (ops : Array Oper) (Q : Exit → Act → World → Prop) (rest : List Oper), (∀ v w', R v w' → wpList P ops Q rest (a.put o.dst v) w') → wpList P ops Q ({ o with guard := none } :: rest) a w) : Does P o a w R := fun K Q hk => by
  let Q0 : Exit → Act → World → Prop := fun e a w => match e with | .normal => K a w | .outgrown => False | e => Q e a w
  have h1 := h #[] Q0 [] (fun v w' hv => hk v w' hv)
  unfold wpList at h1
  rw [if_pos (by simp [Region.wanted])] at h1
  have hno : ¬ LetsOut Q0 := fun ⟨_, _, hq⟩ => hq
  have h2 : ({ o with guard := none } : Oper).wp P a w K Q0 := h1.resolve_right (fun hh => hno hh.2)
  have h3 : o.wp P a w K Q0 := h2
  unfold Oper.wp at h3 ⊢
  generalize (execOp a.eval o).run P w = r at *
  cases r with
  | ok n w' =>
    cases n <;> simp only [Oper.upon] at h3 ⊢ <;>
      first
        | exact h3
        | exact Calls.mono h3 (fun e w'' he => by cases e <;> first | exact he | exact absurd he hno)
  | halt x w' => cases x <;> simp only [Oper.upon] at h3 ⊢ <;> exact h3
theorem does_append {α : Type} (enc : α → Value) (d : α) {h1 : ∀ x : α, (enc x).oneCell' = true} {w0 : World} (base : Nat) (s x : Operand) (t e : TypeId) (z : Value) (bytes : Nat)
    (ho : o.op = .call { callee := .builtin .append, args := #[s, x], argTypes := #[t, t] })
    (ht : P.underlying t = some (.slice e)) (hinfo : (P.info? e).map (fun i => (i.zero, i.size, i.bytes)) = some (some z, 1, bytes)) (hz : z.cells.size = 1) (hb0 : 0 < bytes)
    (v : Value) (xs ys : List α) (A : Option Addr) (m c : Nat) (ok : Nat → Prop) (hs : a.eval s = v) (hx : a.eval x = .slice A m c) (hfresh : ∀ k, w.heap.size ≤ k → ok k)
    (HO : (Kd.scalar enc h1).R e w base ok v xs) (HR : (Kd.scalar enc h1).C w A m ys) (HB : Below base w0 w) (hbase : base ≤ w.heap.size) (hl : (xs.length + m) * bytes ≤ 140737488355328) :
    Does P o a w (fun v1 w1 => (Kd.scalar enc h1).R e w1 base ok v1 (xs ++ ys) ∧ Below base w0 w1 ∧ w.grownBy w1 v.ownBlock) :=
  does_of_list fun _ _ _ h => Kd.R_append_row enc d (h1 := h1) (w0 := w0) base rfl s x t e z bytes ho ht hinfo hz hb0 v xs ys A m c ok hs hx hfresh HO HR HB hbase hl (fun v1 w1 a1 a2 a3 _ => h v1 w1 ⟨a1, a2, a3⟩)
theorem list_step {Q : Exit → Act → World → Prop} {rest : List Oper} {R : Value → World → Prop} (hg : o.guard = none) (hd : Does P o a w R) (h : ∀ v w', R v w' → wpList P ops Q rest (a.put o.dst v) w') : wpList P ops Q (o :: rest) a w :=
  wpList_plain hg fun K hK => hd K Q fun v w' hv => hK _ _ (h v w' hv)
theorem list_if {Q : Exit → Act → World → Prop} {rest : List Oper} {R : Value → World → Prop} {g d : Nat} {b : Bool} (hg : o.guard = some (g, b)) (hd : (ops[g]?).bind (·.dst) = some d) (hN : d < a.tmps.size) (hv : sl a d = .bool b) (hdo : Does P o a w R) (h : ∀ v w', R v w' → wpList P ops Q rest (a.put o.dst v) w') : wpList P ops Q (o :: rest) a w := by
  unfold wpList
  rw [if_pos (by rw [wanted_of hg hd hN hv]; cases b <;> rfl)]
  exact .inl (hdo _ _ (fun v w' hv => h v w' hv))
theorem list_off {Q : Exit → Act → World → Prop} {rest : List Oper} {g d : Nat} {b : Bool} (hg : o.guard = some (g, b)) (hd : (ops[g]?).bind (·.dst) = some d) (hN : d < a.tmps.size) (hv : sl a d = .bool (!b)) (h : wpList P ops Q rest (a.put o.dst undef) w) : wpList P ops Q (o :: rest) a w := by
  unfold wpList
  rw [if_neg (by rw [wanted_of hg hd hN hv]; cases b <;> simp)]
  exact h
theorem list_offu {Q : Exit → Act → World → Prop} {rest : List Oper} {g d : Nat} {b : Bool} (hg : o.guard = some (g, b)) (hd : (ops[g]?).bind (·.dst) = some d) (hN : d < a.tmps.size) (hv : sl a d = undef) (h : wpList P ops Q rest (a.put o.dst undef) w) : wpList P ops Q (o :: rest) a w := by
  have h1 : a.tmps[d]? = some undef := by
    rw [Array.getElem?_eq_getElem hN, ← hv]
    simp [sl, Array.getD, hN]
  unfold wpList
  rw [if_neg (by simp only [Region.wanted, hg, yielded, hd, Option.bind_some, h1]; simp [undef])]
  exact h
end
theorem St.put {N : Nat} {bs : List (Nat × Value)} {a : Act} (h : St N bs a) {d : Nat} {v : Value} (hd : d < N) (hk : (bs.all fun p => p.1 != d) = true) : St N ((d, v) :: bs) (a.put (some d) v) := by
  refine ⟨by rw [put_size]; exact h.size, by rw [put_def]; exact h.nodef, fun p hp => ?_⟩
  rcases List.mem_cons.1 hp with rfl | hp
  · exact sl_same (by rw [h.size]; exact hd)
  · have := List.all_eq_true.1 hk p hp
    rw [sl_put (by simpa using this)]
    exact h.tell p hp
theorem St.next {P : Program} {ops : Array Oper} {Q : Exit → Act → World → Prop} {rest : List Oper} {N : Nat} {bs : List (Nat × Value)} {a : Act} (hS : St N bs a) {dst : Option Nat} {d : Nat} {v : Value} {w : World} (ho : dst = some d) (hd : d < N) (hk : (bs.all fun p => p.1 != d) = true)
    (h : ∀ a', St N ((d, v) :: bs) a' → wpList P ops Q rest a' w) : wpList P ops Q rest (a.put dst v) w := by
  subst ho
  exact h _ (hS.put hd hk)
theorem St.nil {N : Nat} {bs : List (Nat × Value)} {a : Act} (h : St N bs a) : St N [] a := ⟨h.size, h.nodef, fun p hp => by cases hp⟩
theorem St.cons {N : Nat} {bs : List (Nat × Value)} {a : Act} (h : St N bs a) {d : Nat} {v : Value} (hv : sl a d = v) : St N ((d, v) :: bs) a := ⟨h.size, h.nodef, fun p hp => by
  rcases List.mem_cons.1 hp with rfl | hp
  · exact hv
  · exact h.tell p hp⟩
/-! ### What is told of a slot -/
def IsV (u : Value) : Told := fun v _ => v = u
def IsR {α : Type} (d : Kd α) (e B : Nat) (xs : List α) : Told := fun v w => Kd.R d e w B (fun _ => True) v xs
def IsTR {α : Type} (d : Kd α) (e B : Nat) (xs : List α) (rest : List Value) : Told := fun v w => ∃ v0, v = .tuple (v0 :: rest).toArray ∧ Kd.R d e w B (fun _ => True) v0 xs
def IsB (cs : Array Value) (t : TypeId) (B : Nat) : Told := fun v w => ∃ g, v = .pointer (some ⟨g, 0, none⟩) ∧ B ≤ g ∧ w.heap[g]? = some (.cells cs t (0, 0))
def Any : Told := fun _ _ => True
abbrev Stays (p : Told) : Prop := ∀ v w w', p v w → Below w.heap.size w w' → p v w'
theorem Stays.v (u : Value) : Stays (IsV u) := fun _ _ _ h _ => h
theorem Stays.any : Stays Any := fun _ _ _ h _ => h
theorem Stays.r {α : Type} (d : Kd α) (e B : Nat) (xs : List α) : Stays (IsR d e B xs) := fun _ _ _ h hb => Kd.R_below h hb
theorem Stays.tr {α : Type} (d : Kd α) (e B : Nat) (xs : List α) (rest : List Value) : Stays (IsTR d e B xs rest) := fun _ _ _ ⟨v0, h1, h2⟩ hb => ⟨v0, h1, Kd.R_below h2 hb⟩
theorem Stays.b (cs : Array Value) (t : TypeId) (B : Nat) : Stays (IsB cs t B) := fun _ _ _ ⟨g, h1, h2, h3⟩ hb => ⟨g, h1, h2, (hb.block g (blk_lt h3)).trans h3⟩
inductive AllStay : List Told → Prop
  | nil : AllStay []
  | cons {p : Told} {ps : List Told} : Stays p → AllStay ps → AllStay (p :: ps)
theorem AllStay.out : ∀ {ps : List Told}, AllStay ps → ∀ p ∈ ps, ∀ v w w', p v w → Below w.heap.size w w' → p v w'
  | _, .nil, p, hp => by cases hp
  | _, .cons h hs, p, hp => by
    rcases List.mem_cons.1 hp with rfl | hp
    · exact h
    · exact hs.out p hp
inductive Steps (P : Program) (ops : Array Oper) (N : Nat) (bs : List (Nat × Value)) (I : World → Prop) (ps0 : List Told) : List Oper → List Told → Prop
  | nil {os : List Oper} : Steps P ops N bs I ps0 os []
  | cons {o : Oper} {os : List Oper} {p : Told} {ps : List Told} : (∀ a w, St N bs a → I w → Pre ops N ps0 a w o → StepOk P ops o p a w) → Steps P ops N bs I ps0 os ps → Steps P ops N bs I ps0 (o :: os) (p :: ps)
theorem Steps.out {P : Program} {ops : Array Oper} {N : Nat} {bs : List (Nat × Value)} {I : World → Prop} {ps0 : List Told} : ∀ {os : List Oper} {ps : List Told}, Steps P ops N bs I ps0 os ps → ∀ i o, i < ps.length → os[i]? = some o → ∀ a w, St N bs a → I w → Pre ops N ps0 a w o → StepOk P ops o (told ps i) a w
  | _, _, .nil, i, o, hi, _ => by simp at hi
  | _, _, .cons h hs, i, o, hi, ho => by
    cases i with
    | zero =>
      simp only [List.getElem?_cons_zero, Option.some.injEq] at ho
      subst ho
      exact h
    | succ i =>
      simp only [List.getElem?_cons_succ] at ho
      have := hs.out i o (by simpa using hi) ho
      simpa [told] using this
theorem Steps.on {P : Program} {ops : Array Oper} {N : Nat} {bs : List (Nat × Value)} {I : World → Prop} {ps0 : List Told} {o : Oper} {os : List Oper} {p : Told} {ps : List Told} (hg : o.guard = none)
    (h : ∀ a w, St N bs a → I w → Pre ops N ps0 a w o → Does P o a w (fun v w' => Below w.heap.size w w' ∧ p v w')) (hs : Steps P ops N bs I ps0 os ps) : Steps P ops N bs I ps0 (o :: os) (p :: ps) := .cons (fun a w h1 h2 h3 => ok_on hg (h a w h1 h2 h3)) hs
theorem Steps.of {P : Program} {ops : Array Oper} {N : Nat} {bs : List (Nat × Value)} {I : World → Prop} {ps0 : List Told} {o : Oper} {os : List Oper} {p : Told} {ps : List Told}
    (h : ∀ a w, St N bs a → I w → Pre ops N ps0 a w o → StepOk P ops o p a w) (hs : Steps P ops N bs I ps0 os ps) : Steps P ops N bs I ps0 (o :: os) (p :: ps) := .cons h hs
theorem AllStay.v {u : Value} {ps : List Told} (h : AllStay ps) : AllStay (IsV u :: ps) := .cons (Stays.v u) h
section
variable {P : Program} {ops : Array Oper} {o : Oper} {a : Act} {w : World} {p : Told} {N : Nat} {bs : List (Nat × Value)}
theorem ok_y {g d : Nat} {b : Bool} (hS : St N bs a) (hg : o.guard = some (g, b)) (hd : (ops[g]?).bind (·.dst) = some d) (hN : Nat.blt d N = true) (hv : sl a d = .bool b) (h : Does P o a w (fun v w' => Below w.heap.size w w' ∧ p v w')) : StepOk P ops o p a w :=
  ok_if hg hd (by rw [hS.size]; simpa using hN) hv h
theorem ok_n {g d : Nat} {b : Bool} (hS : St N bs a) (hg : o.guard = some (g, b)) (hd : (ops[g]?).bind (·.dst) = some d) (hN : Nat.blt d N = true) (hv : sl a d = .bool (!b)) (h : p undef w) : StepOk P ops o p a w :=
  ok_off hg hd (by rw [hS.size]; simpa using hN) hv h
theorem ok_u {g d : Nat} {b : Bool} (hS : St N bs a) (hg : o.guard = some (g, b)) (hd : (ops[g]?).bind (·.dst) = some d) (hN : Nat.blt d N = true) (hv : sl a d = undef) (h : p undef w) : StepOk P ops o p a w :=
  ok_offu hg hd (by rw [hS.size]; simpa using hN) hv h
theorem Pre.g {ps : List Told} (h : Pre ops N ps a w o) (j : Nat) {p : Told} {d : Nat} (hj : (o.after.toList.any fun e => Region.binds .any e && e.on == j) = true := by rfl) (hp : ps[j]? = some p := by rfl) (hd : dstOf ops N j = d := by rfl) : p (sl a d) w := h.get j hj hp hd
end
section
variable {P : Program} {ops : Array Oper} {N : Nat} {bs : List (Nat × Value)} {I : World → Prop} {ps : List Told} {a : Act} {w : World} {Q : Exit → Act → World → Prop} {id : Nat}
theorem okTail_all (ops : Array Oper) : okTail ops [] ops.size = true := by
  simp only [okTail, okMask, Bool.and_eq_true, List.all_eq_true, List.mem_range, Bool.or_eq_true, decide_eq_true_eq]
  refine ⟨fun j hj => ?_, fun j hj => .inl hj⟩
  rw [Array.getElem?_eq_getElem hj]
  simp
/-- A region of which all operations are told: whatever their order. -/
theorem reg_any (hmo : P.follows .mixedOrders = true) (h : okRegion ops N ops.size (bs.map (·.1)) = true) (hI : ∀ w w', I w → Below w.heap.size w w' → I w') (hps : AllStay ps) (hm : ps.length = ops.size)
    (hS : St N bs a) (hw : I w) (step : Steps P ops N bs I ps ops.toList ps)
    (hend : ∀ a w, St N bs a → I w → (∀ j, j < ops.size → told ps j (sl a (dstOf ops N j)) w) → Q .normal a w) : (Code.region id ops true).wp P Q a w :=
  wp_any_region (ms := []) hmo h (okTail_all ops) hI hps.out hm (Nat.le_refl _) (fun i o hi ho => step.out i o (by omega) (by simpa using ho)) (fun a w h1 h2 h3 => by rw [List.drop_of_length_le (by simp)]; exact hend a w h1 h2 h3) hS hw
theorem reg_seq (h : okRegion ops N ops.size (bs.map (·.1)) = true) (hI : ∀ w w', I w → Below w.heap.size w w' → I w') (hps : AllStay ps) (hm : ps.length = ops.size)
    (hS : St N bs a) (hw : I w) (step : Steps P ops N bs I ps ops.toList ps)
    (hend : ∀ a w, St N bs a → I w → (∀ j, j < ops.size → told ps j (sl a (dstOf ops N j)) w) → Q .normal a w) : (Code.region id ops false).wp P Q a w :=
  wp_seq_region h hI hps.out hm (fun i o hi ho => step.out i o (by omega) (by simpa using ho)) (fun a w h1 h2 h3 => by rw [List.drop_of_length_le (by simp)]; exact hend a w h1 h2 h3) hS hw
/-- The first m operations are told; those behind them, one by one. -/
theorem reg_any_tail (m : Nat) (ms : List Nat) (hmo : P.follows .mixedOrders = true) (h : okRegion ops N m (bs.map (·.1)) = true) (ht : okTail ops ms m = true) (hmn : m ≤ ops.size) (hI : ∀ w w', I w → Below w.heap.size w w' → I w') (hps : AllStay ps) (hm : ps.length = m)
    (hS : St N bs a) (hw : I w) (step : Steps P ops N bs I ps ops.toList ps)
    (hend : ∀ a w, St N bs a → I w → (∀ j, j < m → told ps j (sl a (dstOf ops N j)) w) → wpList P ops Q (ops.toList.drop m) a w) : (Code.region id ops true).wp P Q a w :=
  wp_any_region hmo h ht hI hps.out hm hmn (fun i o hi ho => step.out i o (by omega) (by simpa using ho)) hend hS hw
theorem reg_seq_tail (m : Nat) (h : okRegion ops N m (bs.map (·.1)) = true) (hI : ∀ w w', I w → Below w.heap.size w w' → I w') (hps : AllStay ps) (hm : ps.length = m)
    (hS : St N bs a) (hw : I w) (step : Steps P ops N bs I ps ops.toList ps)
    (hend : ∀ a w, St N bs a → I w → (∀ j, j < m → told ps j (sl a (dstOf ops N j)) w) → wpList P ops Q (ops.toList.drop m) a w) : (Code.region id ops false).wp P Q a w :=
  wp_seq_region h hI hps.out hm (fun i o hi ho => step.out i o (by omega) (by simpa using ho)) hend hS hw
end
def IsC {α : Type} (d : Kd α) (xs : List α) : Told := fun v w => ∃ A c, v = .slice A xs.length c ∧ xs.length ≤ c ∧ Kd.C d w A xs.length xs
theorem Stays.c {α : Type} (d : Kd α) (xs : List α) : Stays (IsC d xs) := fun _ _ _ ⟨A, c, h1, h2, h3⟩ hb => ⟨A, c, h1, h2, Kd.C_below h3 hb⟩
theorem IsC.of_r {α : Type} {d : Kd α} {e B : Nat} {xs : List α} {v : Value} {w : World} (h : IsR d e B xs v w) : IsC d xs v w := by
  obtain ⟨A, c, h1, h2, h3⟩ := Kd.R_reads h
  exact ⟨A, c, h1, h2, h3⟩
section
variable {P : Program} {ops : Array Oper} {o : Oper} {a : Act} {w : World} {p : Told}
/-- A literal of numbers. -/
theorem does_lit {k : IntKind} (B t e len : Nat) (parts : Array (Nat × Operand)) (vs : List (Nat × Value)) (xs : List Int) (ho : o.op = .buildSlice t len parts) (hu : P.underlying t = some (.slice e)) (hv : (parts.map fun (i, x) => (i, a.eval x)).toList = vs)
    (hf : P.builtSlice e len vs = some (encs (Value.int k) xs).toArray) (hl : len = xs.length) (hb : B ≤ w.heap.size) (hm : xs.length ≤ 9223372036854775807) : Does P o a w (fun v w' => Below w.heap.size w w' ∧ IsR (Kd.int k) e B xs v w') := by
  subst hl hv
  refine does_of_list fun ops Q rest h => Great.wpList_buildSliceTo rfl t e xs.length parts ho w.heap.size rfl o.dst rfl hu _ hf (h _ _ ⟨below_alloc (Below.refl _ _) _, ?_⟩)
  exact Kd.R_of_own (own_lit_of (enc := Value.int k) w B e xs hb hm) (fun _ _ => trivial)
/-- A copy: an append to no row. -/
theorem does_copy {k : IntKind} (B : Nat) (s x : Operand) (t e : TypeId) (bytes : Nat) (ho : o.op = .call { callee := .builtin .append, args := #[s, x], argTypes := #[t, t] })
    (ht : P.underlying t = some (.slice e)) (hinfo : (P.info? e).map (fun i => (i.zero, i.size, i.bytes)) = some (some (.int k 0), 1, bytes)) (hb0 : 0 < bytes) (ys : List Int) (A : Option Addr) (c : Nat) (hs : a.eval s = .slice none 0 0) (hx : a.eval x = .slice A ys.length c)
    (HR : Kd.C (Kd.int k) w A ys.length ys) (hb : B ≤ w.heap.size) (hl : ys.length * bytes ≤ 140737488355328) : Does P o a w (fun v w' => Below w.heap.size w w' ∧ IsR (Kd.int k) e B ys v w') :=
  (does_append (Value.int k) (0 : Int) (h1 := fun _ => rfl) (w0 := w) w.heap.size s x t e (.int k 0) bytes ho ht hinfo rfl hb0 (.slice none 0 0) [] ys A ys.length c (fun _ => True) hs hx (fun _ _ => trivial) (Kd.R_nil _ _ _ _ _) HR (Below.refl _ _) (Nat.le_refl _) (by simpa using hl)).mono fun v w' h => ⟨h.2.1, Kd.R_lower h.1 hb⟩
/-- An append to a row of the call's own. -/
theorem does_more {k : IntKind} {W : World} (s x : Operand) (t e : TypeId) (bytes : Nat) (ho : o.op = .call { callee := .builtin .append, args := #[s, x], argTypes := #[t, t] })
    (ht : P.underlying t = some (.slice e)) (hinfo : (P.info? e).map (fun i => (i.zero, i.size, i.bytes)) = some (some (.int k 0), 1, bytes)) (hb0 : 0 < bytes) (v : Value) (xs ys : List Int) (A : Option Addr) (c : Nat) (hs : a.eval s = v) (hx : a.eval x = .slice A ys.length c)
    (HO : Kd.R (Kd.int k) e w W.heap.size (fun _ => True) v xs) (HR : Kd.C (Kd.int k) w A ys.length ys) (hb : Below W.heap.size W w) (hl : (xs.length + ys.length) * bytes ≤ 140737488355328) : Does P o a w (fun v w' => Below W.heap.size W w' ∧ IsR (Kd.int k) e W.heap.size (xs ++ ys) v w') :=
  (does_append (Value.int k) (0 : Int) (h1 := fun _ => rfl) (w0 := W) W.heap.size s x t e (.int k 0) bytes ho ht hinfo rfl hb0 v xs ys A ys.length c (fun _ => True) hs hx (fun _ _ => trivial) HO HR hb hb.size hl).mono fun v w' h => ⟨h.2.1, h.1⟩
theorem cut_hi (t e : TypeId) (ht : P.underlying t = some (.slice e)) (hi : ((P.info? e).map (·.size)).isSome = true) {α : Type} (xs : List α) (A : Option Addr) (n c : Nat) (j : Int) (h0 : 0 ≤ j) (hm : j ≤ xs.length) (hc : xs.length ≤ c) :
    (Instr.slice t (.slice A n c) none (some (.int .i64 j)) none).run P w = .ok (.slice A (xs.take j.toNat).length c) w := by
  obtain ⟨f, hf⟩ := Option.isSome_iff_exists.1 hi
  obtain ⟨i, hi, _⟩ := Option.map_eq_some_iff.1 hf
  rw [Go.Proofs.Ytmfahcabdkajnaa.P.cut_over t e .i64 ht hi A n c j h0 (by omega)]
  congr 2
  rw [List.length_take]
  omega
theorem not_array {t e : TypeId} (ht : P.underlying t = some (.slice e)) : ∀ n f, P.underlying t ≠ some (.array n f) := fun n f h => by rw [ht] at h; cases h
theorem x_cuthi {ρ : Operand → Value} {t e : TypeId} {x y : Operand} {α : Type} {xs : List α} {A : Option Addr} {n c : Nat} {j : Int} (ho : o.op = .slice t x none (some y) none) (ht : P.underlying t = some (.slice e)) (hi : ((P.info? e).map (·.size)).isSome = true) (hx : ρ x = .slice A n c) (hy : ρ y = .int .i64 j) (h0 : 0 ≤ j) (hm : j ≤ xs.length) (hc : xs.length ≤ c) :
    (execOp ρ o).run P w = .ok (.value (.slice A (xs.take j.toNat).length c)) w :=
  x_slice ho hx (l := none) (h := some (.int .i64 j)) rfl (by rw [Option.map_some, hy]) (cut_hi t e ht hi xs A n c j h0 hm hc) (not_array ht) (by rw [ht]; rfl)
theorem does_load8 {t e : TypeId} {x y : Operand} {k : IntKind} {A : Option Addr} {c : Nat} {xs : List Int} {i : Int} {ki : IntKind} : True := trivial
theorem does_index {k ki : IntKind} {t e : TypeId} {x y : Operand} {A : Option Addr} {n c : Nat} {xs : List Int} {i : Int} (ho : o.op = .indexAddr t x y) (hx : a.eval x = .slice A n c) (hy : a.eval y = .int ki i) (ht : P.underlying t = some (.slice e)) (hs : (P.info? e).map (·.size) = some 1) (h0 : 0 ≤ i) (hn : i < n) (h1 : i < (xs.length : Int)) (hC : Kd.C (Kd.int k) w A xs.length xs) :
    Does P o a w (fun v w' => Below w.heap.size w w' ∧ ∃ ad, v = .pointer (some ad) ∧ ad.block < w'.heap.size ∧ w'.cell? ad = some (.int k (rd xs i))) := by
  obtain ⟨ad, rfl, hc⟩ := Kd.at_int hC i h0 (by omega)
  have hr := x_index (P := P) (w := w) (ρ := a.eval) ho hx hy ht hs h0 hn
  refine (does_val (p := fun v w' => ∃ ad, v = .pointer (some ad) ∧ ad.block < w'.heap.size ∧ w'.cell? ad = some (.int k (rd xs i))) hr ⟨_, rfl, ?_, ?_⟩)
  · exact World.block_lt_of_cell? w _ (by rw [Nat.mul_one]; exact hc)
  · rw [Nat.mul_one]; exact hc
/-- A cut from a place on, or from one to another. -/
theorem does_cut {k : IntKind} {t e : TypeId} {x : Operand} {lo hi : Option Operand} {xs : List Int} {A : Option Addr} {c : Nat} {i j : Int} (ho : o.op = .slice t x lo hi none) (ht : P.underlying t = some (.slice e)) (hinfo : (P.info? e).map (·.size) = some 1) (hx : a.eval x = .slice A xs.length c)
    (hlo : (lo = none ∧ i = 0) ∨ ∃ y, lo = some y ∧ a.eval y = .int .i64 i) (hhi : (hi = none ∧ j = xs.length) ∨ ∃ y, hi = some y ∧ a.eval y = .int .i64 j) (h0 : 0 ≤ i) (hij : i ≤ j) (hj : j ≤ xs.length) (hc : xs.length ≤ c) (hC : Kd.C (Kd.int k) w A xs.length xs) :
    Does P o a w (fun v w' => Below w.heap.size w w' ∧ IsC (Kd.int k) ((xs.take j.toNat).drop i.toNat) v w') := by
  obtain ⟨f, hf, hs⟩ := Option.map_eq_some_iff.1 hinfo
  have hl1 : lo.map a.eval = if lo.isSome then some (.int .i64 i) else none := by rcases hlo with ⟨rfl, _⟩ | ⟨y, rfl, hy⟩ <;> simp [*]
  have hl2 : hi.map a.eval = if hi.isSome then some (.int .i64 j) else none := by rcases hhi with ⟨rfl, _⟩ | ⟨y, rfl, hy⟩ <;> simp [*]
  have hct := Kd.C_take (m := j.toNat) hC (by omega)
  have hlt : (xs.take j.toNat).length = j.toNat := by rw [List.length_take]; omega
  have hcd := Kd.C_drop (m := i.toNat) (c := c) hct (by rw [hlt]; omega) (by rw [hlt]; omega)
  have hld : ((xs.take j.toNat).drop i.toNat).length = j.toNat - i.toNat := by rw [List.length_drop, hlt]
  have hel : P.elem t = e := by simp [Program.elem, ht]
  have hb : ∀ (z : Int) (m : Nat) (cd : BoundsCode), 0 ≤ z → z ≤ m → (Instr.sliceBound (.int .i64 z) m cd).run P w = .ok z.toNat w := fun z m cd h1 h2 => by
    simp [Instr.sliceBound, asIntOf, h1, h2]
  have hrun : (Instr.slice t (.slice A xs.length c) (lo.map a.eval) (hi.map a.eval) none).run P w = .ok (.slice (if c = i.toNat then A else A.map (·.add (i.toNat * 1))) (j.toNat - i.toNat) (c - i.toNat)) w := by
    have hsl : (Instr.sliceBounds true xs.length c (lo.map a.eval) (hi.map a.eval) none).run P w = .ok (i.toNat, j.toNat, c) w := by
      rw [hl1, hl2]
      have hj0 : 0 ≤ j := by omega
      have hjc : j ≤ (c : Int) := by omega
      have him : i ≤ max j 0 := by omega
      have hll : xs.length = j.toNat ∨ hi.isSome = true := hhi.elim (fun h => .inl (by have := h.2; omega)) (fun ⟨z, h, _⟩ => .inr (by rw [h]; rfl))
      have hii : i.toNat = 0 ∨ lo.isSome = true := hlo.elim (fun h => .inl (by have := h.2; omega)) (fun ⟨z, h, _⟩ => .inr (by rw [h]; rfl))
      have hil : i ≤ (xs.length : Int) := by omega
      cases hlo1 : lo.isSome <;> cases hhi1 : hi.isSome <;> rw [hlo1] at hii <;> rw [hhi1] at hll <;> simp at hii hll <;> simp [Instr.sliceBounds, hb, h0, hij, hj, hj0, hjc, him, hil, hii, hll, go_sem] <;> omega
    unfold Instr.slice
    rw [Sem.run_bind, run_underlying ht]
    simp only [Result.andThen_ok]
    rw [Sem.run_bind, hsl]
    simp [sizeOf, typeInfo, hf, hs, go_sem]
  refine does_val (p := IsC (Kd.int k) ((xs.take j.toNat).drop i.toNat)) (x_slice ho hx rfl rfl hrun (not_array ht) (by rw [ht]; rfl)) ?_
  refine ⟨_, c - i.toNat, ?_, ?_, hcd⟩
  · rw [hld]
    rfl
  · rw [hld]
    omega
end
theorem ite_and {α : Type} [DecidableEq α] {a b : α} {e : Bool} {w : World} {R : Result Value} (h : R = .ok (.bool e) w) : (if a = b then R else .ok (.bool false) w) = .ok (.bool (a == b && e)) w := by
  subst h
  by_cases h : a = b <;> simp [h]
theorem ite_last {α : Type} [DecidableEq α] {a b : α} {w : World} : (if a = b then Result.ok (Value.bool true) w else .ok (.bool false) w) = .ok (.bool (a == b)) w := by
  by_cases h : a = b <;> simp [h]
theorem ite_nand {α : Type} [DecidableEq α] {a b : α} {e : Bool} {w : World} {R : Result Value} (h : R = .ok (.bool (!e)) w) : (if a = b then R else .ok (.bool true) w) = .ok (.bool (!(a == b && e))) w := by
  subst h
  by_cases h : a = b <;> simp [h]
theorem ite_nlast {α : Type} [DecidableEq α] {a b : α} {w : World} : (if a = b then Result.ok (Value.bool false) w else .ok (.bool true) w) = .ok (.bool (!(a == b))) w := by
  by_cases h : a = b <;> simp [h]
def IsA (u : Value) : Told := fun v w => ∃ ad : Addr, v = .pointer (some ad) ∧ ad.block < w.heap.size ∧ w.cell? ad = some u
theorem Stays.a (u : Value) : Stays (IsA u) := fun _ _ _ ⟨ad, h1, h2, h3⟩ hb => ⟨ad, h1, Nat.lt_of_lt_of_le h2 hb.size, (hb.cell h2).trans h3⟩
theorem ar1 {a a' : Value} (h : a = a') : #[a] = #[a'] := by rw [h]
theorem ar2 {a a' b b' : Value} (h : a = a') (h2 : b = b') : #[a, b] = #[a', b'] := by rw [h, h2]
theorem ar3 {a a' b b' c c' : Value} (h : a = a') (h2 : b = b') (h3 : c = c') : #[a, b, c] = #[a', b', c'] := by rw [h, h2, h3]
theorem ar4 {a a' b b' c c' d d' : Value} (h : a = a') (h2 : b = b') (h3 : c = c') (h4 : d = d') : #[a, b, c, d] = #[a', b', c', d'] := by rw [h, h2, h3, h4]
theorem li1 {i : Nat} {a a' : Value} (h : a = a') : [(i, a)] = [(i, a')] := by rw [h]
theorem li_cons {i : Nat} {a a' : Value} {l l' : List (Nat × Value)} (h : a = a') (hl : l = l') : (i, a) :: l = (i, a') :: l' := by rw [h, hl]
theorem bT {b : Bool} (h : b = true) : Value.bool b = .bool true := by rw [h]
theorem bF {b : Bool} (h : b = false) : Value.bool b = .bool false := by rw [h]
end Go.Proofs.Ytmfahcabdkajnaa.E
