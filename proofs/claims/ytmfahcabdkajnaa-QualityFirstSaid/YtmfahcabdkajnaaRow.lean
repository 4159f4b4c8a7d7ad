/- Rows of structs, strings, bytes of strings, capped cuts, what is made: what each operation yields. -/
import Derived.Test.YtmfahcabdkajnaaBox
import Derived.ArgAppend
import Derived.Laws.Cells
import Derived.ScopeJumps
set_option linter.unusedVariables false
set_option linter.unusedSimpArgs false
namespace Go.Proofs.Ytmfahcabdkajnaa.E
open Go Go.RowKit Go.Proofs.YtmfahcabdkajnaaW.PrintWords Go.Proofs.YtmfahcabdkajnaaW.PrintLast Go.Proofs.YtmfahcabdkajnaaW.PrintMore

theorem wp_nojump {P : Program} {a : Act} {w : World} {Q : Exit → Act → World → Prop} {J : Act → World → Prop} {B : Code} {l : Nat} (h : B.wp P (Exit.jump l (fun _ _ => False) Q) a w) : B.wp P (Exit.jump l J Q) a w := wp_mono h fun e a w h => by
  cases e <;> first | exact h | exact h.2.elim
/-- A scope in which the run jumps onward alone, to one label. -/
theorem wp_scope_fwd {P : Program} {a : Act} {w : World} {Q : Exit → Act → World → Prop} {c B : Code} (l : Nat) (J : Act → World → Prop) (hf : findLabel c l = some (.seq .skip B)) (pass : ∀ a w, J a w → B.wp P (Exit.jump l (fun _ _ => False) Q) a w)
    (first : (∀ a w, J a w → B.wp P (Exit.jump l (fun _ _ => False) Q) a w) → c.wp P (Exit.jump l J Q) a w) : (Code.scope c).wp P Q a w :=
  wp_scope_jumps l J (fun _ _ => 0) hf (first pass) fun a w hJ => wp_seq (wp_skip (wp_nojump (pass a w hJ)))
theorem wp_label_seq {P : Program} {a : Act} {w : World} {Q : Exit → Act → World → Prop} {J : Act → World → Prop} {B : Code} {l l2 : Nat} (h : B.wp P (Exit.jump l (fun _ _ => False) Q) a w) : (Code.seq (.label l2) B).wp P (Exit.jump l J Q) a w :=
  wp_seq (wp_label (wp_nojump h))
/-- A kind whose elements are told by their cells alone. -/
structure Flat {α : Type} (d : Kd α) (f : α → List Value) : Prop where
  opens : ∀ w x cs, d.K w x cs → cs = f x
  made : ∀ w base x, d.M w base (fun _ => False) x (f x)
theorem Flat.len {α : Type} {d : Kd α} {f : α → List Value} (F : Flat d f) (w : World) (x : α) : (f x).length = d.sz := d.K_len (d.K_of_M (F.made w 0 x))
theorem flat_int (k : IntKind) : Flat (Kd.int k) (fun x => [.int k x]) := ⟨fun _ _ _ h => h, fun _ _ _ => rfl⟩
theorem add_add (ad : Addr) (m j : Nat) : (ad.add m).add j = ad.add (m + j) := by
  unfold Addr.add
  by_cases hm : m = 0 <;> by_cases hj : j = 0 <;> simp [hm, hj]
  omega
theorem add_zero' (ad : Addr) : ad.add 0 = ad := by simp [Addr.add]
/-- The place of a struct, its cells. -/
def IsAT (cs : List Value) : Told := fun v w => ∃ ad : Addr, v = .pointer (some ad) ∧ ad.block < w.heap.size ∧ ∀ j u, cs[j]? = some u → w.cell? (ad.add j) = some u
theorem Stays.at_ (cs : List Value) : Stays (IsAT cs) := fun _ w w' ⟨ad, h1, h2, h3⟩ hb => ⟨ad, h1, Nat.lt_of_lt_of_le h2 hb.size, fun j u hj => (hb.cell (by rw [add_block]; exact h2)).trans (h3 j u hj)⟩
/-- A tuple with a row in it. -/
def IsT (mk : Value → Array Value) (p : Told) : Told := fun v w => ∃ v0, v = .tuple (mk v0) ∧ p v0 w
theorem Stays.t (mk : Value → Array Value) {p : Told} (h : Stays p) : Stays (IsT mk p) := fun _ _ _ ⟨v0, h1, h2⟩ hb => ⟨v0, h1, h _ _ _ h2 hb⟩
section
variable {P : Program} {ops : Array Oper} {o : Oper} {a : Act} {w : World} {ρ : Operand → Value}
theorem does_indexT {α : Type} {d : Kd α} {f : α → List Value} (F : Flat d f) {t e : TypeId} {x y : Operand} {A : Option Addr} {n c : Nat} {xs : List α} {i : Int} {ki : IntKind} (z : α) (ho : o.op = .indexAddr t x y) (hx : a.eval x = .slice A n c) (hy : a.eval y = .int ki i) (ht : P.underlying t = some (.slice e)) (hs : (P.info? e).map (·.size) = some d.sz)
    (h0 : 0 ≤ i) (hn : i < n) (h1 : i < (xs.length : Int)) (hsz : 0 < d.sz) (hC : Kd.C d w A xs.length xs) : Does P o a w (fun v w' => Below w.heap.size w w' ∧ IsAT (f (xs.getD i.toNat z)) v w') := by
  obtain ⟨ad, cs, rfl, hl, hK, hc⟩ := Kd.C_get hC z i h0 h1
  obtain rfl := F.opens _ _ _ hK
  refine does_val (p := IsAT (f (xs.getD i.toNat z))) (x_index ho hx hy ht hs h0 hn) ⟨_, rfl, ?_, fun j u hj => ?_⟩
  · have h3 := hc 0 _ (List.getElem?_eq_getElem (by omega))
    have h4 := World.block_lt_of_cell? w _ h3
    rw [add_block] at h4 ⊢
    exact h4
  · rw [add_add]
    exact hc j u hj
theorem x_fieldA {s : TypeId} {x : Operand} {f off : Nat} {ad : Addr} {fs : Array Field} {fd : Field} (ho : o.op = .fieldAddr s x f) (hx : ρ x = .pointer (some ad)) (hu : P.underlying s = some (.struct fs)) (hf : fs[f]? = some fd) (hoff : fd.offset = off) (hs : ((P.info? fd.type).map fun i => i.size == 0) = some false) :
    (execOp ρ o).run P w = .ok (.value (.pointer (some (ad.add off)))) w := by
  obtain ⟨i, hi, h0⟩ := Option.map_eq_some_iff.1 hs
  have h0 : ¬ i.size = 0 := by simpa using h0
  unfold execOp
  simp [ho, hx, Sem.run_bind, Instr.fieldAt, run_underlying hu, hf, Instr.sureAddr, fieldPlace, sizeOf, typeInfo, hi, h0, hoff]
theorem does_fieldT {cs sub : List Value} {s : TypeId} {x : Operand} {f off : Nat} {fs : Array Field} {fd : Field} (ho : o.op = .fieldAddr s x f) (hx : IsAT cs (a.eval x) w) (hu : P.underlying s = some (.struct fs)) (hf : fs[f]? = some fd) (hoff : fd.offset = off) (hs : ((P.info? fd.type).map fun i => i.size == 0) = some false)
    (hsub : (cs.drop off).take sub.length = sub) : Does P o a w (fun v w' => Below w.heap.size w w' ∧ IsAT sub v w') := by
  obtain ⟨ad, h1, h2, h3⟩ := hx
  refine does_val (p := IsAT sub) (x_fieldA ho h1 hu hf hoff hs) ⟨_, rfl, by rw [add_block]; exact h2, fun j u hj => ?_⟩
  rw [add_add]
  apply h3
  have hjl : j < sub.length := (List.getElem?_eq_some_iff.1 hj).1
  rw [← hsub, List.getElem?_take, if_pos hjl, List.getElem?_drop] at hj
  exact hj
theorem does_loadA {u : Value} {t : TypeId} {x : Operand} {d : TypeDesc} (ho : o.op = .load t x) (hx : IsAT [u] (a.eval x) w) (hu : P.underlying t = some d) (hd : (match d with | .struct _ | .array _ _ => true | _ => false) = false) : Does P o a w (fun v w' => Below w.heap.size w w' ∧ IsV u v w') := by
  obtain ⟨ad, h1, h2, h3⟩ := hx
  have h4 := h3 0 u rfl
  rw [add_zero'] at h4
  exact does_val (x_load1 ho h1 hu hd h4) rfl
theorem run_loadVar_at (ad : Addr) (ty : TypeId) (cs : List Value) (d : TypeDesc) (hc : ∀ j v, cs[j]? = some v → w.cell? (ad.add j) = some v)
    (hu : P.underlying ty = some d) (hd : d.isRow = true) (hi : (P.info? ty).map (·.size) = some cs.length) : (loadVar ty ad).run P w = .ok (.agg cs.toArray) w := by
  have hl : (loadCells ad cs.length).run P w = .ok cs.toArray w := run_loadCells_list (P := P) w ad cs hc
  cases hq : P.info? ty with
  | none => simp [hq] at hi
  | some i =>
    have hs : i.size = cs.length := by simpa [hq] using hi
    have hagg : (isAgg ty).run P w = .ok true w := by
      unfold isAgg
      rw [Sem.run_bind, run_underlying hu w]
      cases d <;> simp_all
    simp [loadVar, Sem.run_bind, hagg, sizeOf, typeInfo, hq, hs, hl]
theorem does_loadT {cs : List Value} {t : TypeId} {x : Operand} {d : TypeDesc} (ho : o.op = .load t x) (hx : IsAT cs (a.eval x) w) (hu : P.underlying t = some d) (hd : d.isRow = true) (hi : (P.info? t).map (·.size) = some cs.length) : Does P o a w (fun v w' => Below w.heap.size w w' ∧ IsV (.agg cs.toArray) v w') := by
  obtain ⟨ad, h1, h2, h3⟩ := hx
  refine does_val ?_ rfl
  simp [execOp, ho, h1, Instr.loadAt, Instr.sureAddr, Sem.run_bind, run_loadVar_at ad t cs d h3 hu hd hi]
/-- An append of a row to a row of the call's own. -/
theorem does_moreT {α : Type} {d : Kd α} {f : α → List Value} (F : Flat d f) {W : World} (s x : Operand) (t e : TypeId) (z : Value) (bytes : Nat) (ho : o.op = .call { callee := .builtin .append, args := #[s, x], argTypes := #[t, t] })
    (ht : P.underlying t = some (.slice e)) (hinfo : (P.info? e).map (fun i => (i.zero, i.size, i.bytes)) = some (some z, d.sz, bytes)) (hz : z.cells.size = d.sz) (hs0 : 0 < d.sz) (hb0 : 0 < bytes) (v : Value) (xs ys : List α) (A : Option Addr) (m c : Nat) (hs : a.eval s = v) (hx : a.eval x = .slice A m c)
    (HO : Kd.R d e w W.heap.size (fun _ => True) v xs) (HR : Kd.C d w A m ys) (hb : Below W.heap.size W w) (hl : (xs.length + ys.length) * bytes ≤ 140737488355328) : Does P o a w (fun v w' => Below W.heap.size W w' ∧ IsR d e W.heap.size (xs ++ ys) v w') := by
  have hm : ys.length = m := HR.1
  exact does_of_list fun _ _ _ h => Kd.R_append_rows d (Rr := d.K w) (w0 := W) W.heap.size rfl s x t e z bytes ho ht hinfo hz hs0 hb0 v xs ys A m c (fun _ => True) (fun _ => False) hs hx HO HR
    (fun x cs hK => by rw [F.opens _ _ _ hK]; exact F.made _ _ _) (fun _ h => h.elim) (fun _ _ => trivial) hb hb.size (by rw [← hm]; exact hl) (fun v1 w1 a1 a2 _ _ => h v1 w1 ⟨a2, a1⟩)
/-- A copy: an append to no row. -/
theorem does_copyT {α : Type} {d : Kd α} {f : α → List Value} (F : Flat d f) (B : Nat) (s x : Operand) (t e : TypeId) (z : Value) (bytes : Nat) (ho : o.op = .call { callee := .builtin .append, args := #[s, x], argTypes := #[t, t] })
    (ht : P.underlying t = some (.slice e)) (hinfo : (P.info? e).map (fun i => (i.zero, i.size, i.bytes)) = some (some z, d.sz, bytes)) (hz : z.cells.size = d.sz) (hs0 : 0 < d.sz) (hb0 : 0 < bytes) (ys : List α) (A : Option Addr) (m c : Nat) (hs : a.eval s = .slice none 0 0) (hx : a.eval x = .slice A m c)
    (HR : Kd.C d w A m ys) (hb : B ≤ w.heap.size) (hl : ys.length * bytes ≤ 140737488355328) : Does P o a w (fun v w' => Below w.heap.size w w' ∧ IsR d e B ys v w') :=
  (does_moreT (W := w) F s x t e z bytes ho ht hinfo hz hs0 hb0 (.slice none 0 0) [] ys A m c hs hx (Kd.R_nil _ _ _ _ _) HR (Below.refl _ _) (by simpa using hl)).mono fun v w' h => ⟨h.1, Kd.R_lower h.2 hb⟩
/-- A string's bytes behind a row of the call's own. -/
theorem does_moreS {W : World} (s x : Operand) (t u e : TypeId) (ho : o.op = .call { callee := .builtin .append, args := #[s, x], argTypes := #[t, u] })
    (ht : P.underlying t = some (.slice e)) (hu : P.underlying u = some .string) (hinfo : (P.info? e).map (fun i => (i.zero, i.size, i.bytes)) = some (some (.int .u8 0), 1, 1)) (v : Value) (xs : List Int) (y : ByteArray) (hs : a.eval s = v) (hx : a.eval x = .string y)
    (HO : Kd.R (Kd.int .u8) e w W.heap.size (fun _ => True) v xs) (hb : Below W.heap.size W w) (hl : xs.length + y.size ≤ 140737488355328) : Does P o a w (fun v w' => Below W.heap.size W w' ∧ IsR (Kd.int .u8) e W.heap.size (xs ++ bytesOf y) v w') :=
  does_of_list fun _ _ _ h => print_append_str (w0 := W) W.heap.size rfl s x t u e ho ht hu hinfo v xs y hs hx (Kd.own_of_R HO) hb hb.size hl (fun v1 w1 a1 a2 _ => h v1 w1 ⟨a2, Kd.R_of_own a1 (fun _ _ => trivial)⟩)
/-- A literal of one struct. -/
theorem R_one {α : Type} {d : Kd α} {f : α → List Value} (F : Flat d f) (w : World) (B e : Nat) (p : α) (hb : B ≤ w.heap.size) : Kd.R d e (w.alloc (.cells (f p).toArray e)) B (fun _ => True) (.slice (some ⟨w.heap.size, 0, none⟩) 1 1) [p] := by
  have hrep : Reps (d.M w B (fun _ => False)) d.sz [p] (f p) := by
    have := (Reps.none (d.M w B (fun _ => False)) d.sz).snoc (F.made w B p) (F.len w p)
    simpa using this
  refine ⟨fun _ _ => trivial, f p, ?_, ?_⟩
  · have h2 := World.ownsRow_lit (base := B) (e := e) (size := d.sz) w (f p).toArray 1 hb (by simp [maxLen]) (by simpa using F.len w p)
    simpa using h2
  · refine hrep.imp_ (fun p c hp => d.M_mono (fun k hk => ⟨trivial, fun he => ?_⟩) (Kd.M_below (d.M_bound hp) (below_alloc (Below.refl _ _) _)))
    exact hk.1.elim
theorem does_litT {α : Type} {d : Kd α} {f : α → List Value} (F : Flat d f) (B t e : TypeId) (parts : Array (Nat × Operand)) (vs : List (Nat × Value)) (p : α) (ho : o.op = .buildSlice t 1 parts) (hu : P.underlying t = some (.slice e)) (hv : (parts.map fun (i, x) => (i, a.eval x)).toList = vs)
    (hf : P.builtSlice e 1 vs = some (f p).toArray) (hb : B ≤ w.heap.size) : Does P o a w (fun v w' => Below w.heap.size w w' ∧ IsR d e B [p] v w') := by
  subst hv
  exact does_of_list fun ops Q rest h => Great.wpList_buildSliceTo rfl t e 1 parts ho w.heap.size rfl o.dst rfl hu _ hf (h _ _ ⟨below_alloc (Below.refl _ _) _, R_one F w B e p hb⟩)
/-- make([]T, n). -/
theorem does_make {α : Type} {d : Kd α} {f : α → List Value} (F : Flat d f) (B t e : TypeId) (x y : Operand) {N : Tmp} (hN : o.dst = some N) (ho : o.op = .makeSlice t x y) (n : Int) (hx : a.eval x = .int .i64 n) (hy : a.eval y = .int .i64 n) (ht : P.underlying t = some (.slice e)) (z : Value) (z0 : α) (bytes : Nat) (hinfo : (P.info? e).map (fun i => (i.zero, i.size, i.bytes)) = some (some z, d.sz, bytes))
    (hz : z.cells.toList = f z0) (hs0 : 0 < d.sz) (hb0 : 0 < bytes) (h0 : 0 ≤ n) (hl : n.toNat * bytes ≤ 281474976710656) (hb : B ≤ w.heap.size) : Does P o a w (fun v w' => Below w.heap.size w w' ∧ IsR d e B (List.replicate n.toNat z0) v w') :=
  does_of_list fun _ _ _ h => Kd.R_make d (w0 := w) w.heap.size e rfl (N := N) hN t x y ho n hx hy ht z bytes hinfo (by rw [← Array.length_toList, hz]; exact F.len w z0) hs0 hb0 z0 (ok := fun _ => True) (okp := fun _ => False) (by rw [hz]; exact F.made _ _ _) (fun _ h => h.elim) trivial h0 hl (Below.refl _ _) (Nat.le_refl _)
    (fun v1 w1 a1 a2 _ _ => h v1 w1 ⟨a2, Kd.R_lower a1 hb⟩)
/-- A row's cut from its head on, no room behind it. -/
theorem x_cutcap {t e : TypeId} {x y z : Operand} {A : Option Addr} {n c m : Nat} {j k : Int} (ho : o.op = .slice t x none (some y) (some z)) (ht : P.underlying t = some (.slice e)) (hi : ((P.info? e).map (·.size)).isSome = true) (hx : ρ x = .slice A n c) (hy : ρ y = .int .i64 j) (hz : ρ z = .int .i64 k) (h0 : 0 ≤ j) (hjk : j ≤ k) (hk : k ≤ (c : Int)) :
    (execOp ρ o).run P w = .ok (.value (.slice A j.toNat k.toNat)) w := by
  obtain ⟨f, hf⟩ := Option.isSome_iff_exists.1 hi
  obtain ⟨i, hi, _⟩ := Option.map_eq_some_iff.1 hf
  have h0k : 0 ≤ k := by omega
  have hjk2 : j ≤ max k 0 := by omega
  have hA : (if k.toNat = 0 then A else A.map (·.add 0)) = A := by
    split
    · rfl
    · cases A <;> simp [Addr.add]
  have hrun : (Instr.slice t (.slice A n c) none (some (.int .i64 j)) (some (.int .i64 k))).run P w = .ok (.slice A j.toNat k.toNat) w := by
    unfold Instr.slice
    rw [Sem.run_bind, run_underlying ht]
    simp [Instr.sliceBounds, Instr.sliceBound, asIntOf, h0, hjk, hk, h0k, hjk2, sizeOf, typeInfo, hi, go_sem]
    try exact hA
  simp only [execOp, ho, hx, hy, hz, Option.map_none, Option.map_some, Instr.sliceAt]
  rw [Sem.run_bind, Sem.run_bind, run_underlying ht]
  simp only [Result.andThen_ok]
  rw [hrun]
  rfl
/-- A string's cut. -/
theorem x_cutstr {t : TypeId} {x : Operand} {lo hi : Option Operand} {s : ByteArray} {i j : Int} (ho : o.op = .slice t x lo hi none) (ht : P.underlying t = some .string) (hx : ρ x = .string s)
    (hlo : (lo = none ∧ i = 0) ∨ ∃ y, lo = some y ∧ ρ y = .int .i64 i) (hhi : (hi = none ∧ j = s.size) ∨ ∃ y, hi = some y ∧ ρ y = .int .i64 j) (h0 : 0 ≤ i) (hij : i ≤ j) (hj : j ≤ s.size) :
    (execOp ρ o).run P w = .ok (.value (.string (s.extract i.toNat j.toNat))) w := by
  have hl1 : lo.map ρ = if lo.isSome then some (.int .i64 i) else none := by rcases hlo with ⟨rfl, _⟩ | ⟨y, rfl, hy⟩ <;> simp [*]
  have hl2 : hi.map ρ = if hi.isSome then some (.int .i64 j) else none := by rcases hhi with ⟨rfl, _⟩ | ⟨y, rfl, hy⟩ <;> simp [*]
  have hb : ∀ (z : Int) (m : Nat) (cd : BoundsCode), 0 ≤ z → z ≤ m → (Instr.sliceBound (.int .i64 z) m cd).run P w = .ok z.toNat w := fun z m cd h1 h2 => by
    simp [Instr.sliceBound, asIntOf, h1, h2]
  have hrun : (Instr.slice t (.string s) (lo.map ρ) (hi.map ρ) none).run P w = .ok (.string (s.extract i.toNat j.toNat)) w := by
    have hsl : (Instr.sliceBounds false s.size s.size (lo.map ρ) (hi.map ρ) none).run P w = .ok (i.toNat, j.toNat, s.size) w := by
      rw [hl1, hl2]
      have hj0 : 0 ≤ j := by omega
      have him : i ≤ max j 0 := by omega
      have hll : s.size = j.toNat ∨ hi.isSome = true := hhi.elim (fun h => .inl (by have := h.2; omega)) (fun ⟨z, h, _⟩ => .inr (by rw [h]; rfl))
      have hii : i.toNat = 0 ∨ lo.isSome = true := hlo.elim (fun h => .inl (by have := h.2; omega)) (fun ⟨z, h, _⟩ => .inr (by rw [h]; rfl))
      have hil : i ≤ (s.size : Int) := by omega
      cases hlo1 : lo.isSome <;> cases hhi1 : hi.isSome <;> rw [hlo1] at hii <;> rw [hhi1] at hll <;> simp at hii hll <;> simp [Instr.sliceBounds, hb, h0, hij, hj, hj0, him, hil, hii, hll, go_sem] <;> omega
    unfold Instr.slice
    rw [Sem.run_bind, run_underlying ht]
    simp only [Result.andThen_ok]
    simp only [Option.isSome_none, Bool.false_eq_true, if_false]
    rw [Sem.run_bind, hsl]
    rfl
  simp only [execOp, ho, hx, Option.map_none, Instr.sliceAt]
  rw [Sem.run_bind, Sem.run_bind, run_underlying ht]
  simp only [Result.andThen_ok]
  rw [hrun]
  rfl
/-- A string's bytes in a row. -/
theorem does_bytes {src dst e : TypeId} {x : Operand} {s : ByteArray} (ho : o.op = .convert src dst x) (hs : P.underlying src = some .string) (hd : P.underlying dst = some (.slice e)) (he : P.underlying e = some (.int .u8)) (hx : a.eval x = .string s) (hm : s.size ≤ 9223372036854775807) :
    Does P o a w (fun v w' => Below w.heap.size w w' ∧ IsC (Kd.int .u8) (bytesOf s) v w') := by
  have hr := print_bytes (P := P) src dst e hs hd he s w
  have hr2 : (execOp a.eval o).run P w = .ok (.value (.slice (some ⟨w.heap.size, 0, none⟩) s.size (grownCap w s.size 0 e))) (Lib.bytesWorld w e s) := by
    simp only [execOp, ho, hx]
    rw [Sem.run_bind, hr]
    rfl
  refine does_new hr2 (bytes_below (Below.refl _ _) (Nat.le_refl _) e s) ?_
  refine ⟨some ⟨w.heap.size, 0, none⟩, grownCap w s.size 0 e, by rw [bytesOf_length], by rw [bytesOf_length]; exact grownCap_ge _ _ _ _, ?_⟩
  rw [bytesOf_length]
  exact Kd.C_of_reads (d := (0 : Int)) (bytes_reads w e s hm)
/-- An append to a row without room behind it: what comes is new. -/
theorem does_capped {k : IntKind} {B : Nat} (s x : Operand) (t e : TypeId) (z : Value) (bytes : Nat) (ho : o.op = .call { callee := .builtin .append, args := #[s, x], argTypes := #[t, t] })
    (ht : P.underlying t = some (.slice e)) (hinfo : (P.info? e).map (fun i => (i.zero, i.size, i.bytes)) = some (some z, 1, bytes)) (hz : z.cells.size = 1) (hb0 : 0 < bytes) (xs ys : List Int) (A A2 : Option Addr) (c2 : Nat) (hs : a.eval s = .slice A xs.length xs.length) (hx : a.eval x = .slice A2 ys.length c2) (hy : 0 < ys.length)
    (HC : Kd.C (Kd.int k) w A xs.length xs) (HR : Kd.C (Kd.int k) w A2 ys.length ys) (hb : B ≤ w.heap.size) (hl : (xs.length + ys.length) * bytes ≤ 140737488355328) : Does P o a w (fun v w' => Below w.heap.size w w' ∧ IsR (Kd.int k) e B (xs ++ ys) v w') := by
  obtain ⟨i0, hi, hzz⟩ := Option.map_eq_some_iff.1 hinfo
  simp only [Prod.mk.injEq] at hzz
  obtain ⟨hz0, hz1, hz2⟩ := hzz
  have hlen : xs.length + ys.length ≤ 140737488355328 := Nat.le_trans (Nat.le_mul_of_pos_right _ hb0) hl
  have hrx := Kd.reads_of_C (d := (0 : Int)) HC
  have hry := Kd.reads_of_C (d := (0 : Int)) HR
  obtain ⟨ad2, rfl, hc2⟩ := hry.2.2 hy
  refine does_of_list fun ops Q rest h => wpList_append_grows w rfl s x t ho e i0 z 1 bytes ht hi hz0 hz1 hz2 hz (by omega) A xs.length xs.length (encs (Value.int k) xs) hs ?_ (by simp [encs_length]) ?_ ad2 ys.length c2 (encs (Value.int k) ys) hx (by simp [encs_length]) ?_ ?_ (by omega) (by simp only [maxLen]; omega) hl ?_
  · rintro rfl
    rcases Nat.eq_zero_or_pos xs.length with h0 | h0
    · exact ⟨h0, h0⟩
    · obtain ⟨ad, e1, _⟩ := hrx.2.2 h0
      cases e1
  · rintro b rfl j u hj
    have hjl : j < xs.length := by have := (List.getElem?_eq_some_iff.1 hj).1; simpa [encs_length] using this
    obtain ⟨ad, e1, hc⟩ := hrx.2.2 (by omega)
    injection e1 with e1
    subst e1
    have h1 := hc j hjl
    have h2 : u = .int k (xs.getD j 0) := by
      simp only [encs, List.getElem?_map, List.getElem?_eq_getElem hjl, Option.map_some, Option.some.injEq] at hj
      rw [← hj, List.getD_eq_getElem?_getD, List.getElem?_eq_getElem hjl]
      rfl
    rw [h2]
    exact h1
  · intro j u hj
    have hjl : j < ys.length := by have := (List.getElem?_eq_some_iff.1 hj).1; simpa [encs_length] using this
    have h1 := hc2 j hjl
    have h2 : u = .int k (ys.getD j 0) := by
      simp only [encs, List.getElem?_map, List.getElem?_eq_getElem hjl, Option.map_some, Option.some.injEq] at hj
      rw [← hj, List.getD_eq_getElem?_getD, List.getElem?_eq_getElem hjl]
      rfl
    rw [h2]
    exact h1
  · intro u hu
    simp only [encs, List.mem_map] at hu
    obtain ⟨_, _, rfl⟩ := hu
    rfl
  · intro v1 w1 hown hg
    refine h v1 w1 ⟨pw_below_grown (Below.refl _ _) none (Nat.le_refl _) hg (by simp), ?_⟩
    have hown2 : w1.ownsRow w.heap.size e 1 v1 (xs ++ ys).length (encs (Value.int k) (xs ++ ys)) := by
      have h3 : encs (Value.int k) (xs ++ ys) = encs (Value.int k) xs ++ encs (Value.int k) ys := by simp [encs]
      rw [h3, List.length_append]
      exact hown
    exact Kd.R_lower (Kd.R_of_own hown2 (fun _ _ => trivial)) hb
end
end Go.Proofs.Ytmfahcabdkajnaa.E
