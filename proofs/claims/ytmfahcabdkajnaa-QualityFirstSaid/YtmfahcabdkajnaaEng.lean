/- Regions and operations one by one: what a walk over a function's text leans on. -/
import Derived.Test.YtmfahcabdkajnaaWMore
import Derived.RegionTactic
import Derived.Tactics
import Derived.KernelRfl
import Derived.Laws.Rows
import Derived.Laws.Tables
import Derived.Laws.Slices
import Derived.Laws.StructEq
set_option linter.unusedVariables false
set_option linter.unusedSimpArgs false
namespace Go.Proofs.Ytmfahcabdkajnaa.E
open Go Go.RowKit Go.Proofs.YtmfahcabdkajnaaW.PrintWords Go.Proofs.YtmfahcabdkajnaaW.PrintLast Go.Proofs.YtmfahcabdkajnaaW.PrintMore

/-- What stands in a slot. -/
def sl (a : Act) (d : Nat) : Value := a.tmps.getD d undef
/-- A frame of N slots, of which some are told. -/
structure St (N : Nat) (bs : List (Nat × Value)) (a : Act) : Prop where
  size : a.tmps.size = N
  nodef : a.defers = []
  tell : ∀ p ∈ bs, sl a p.1 = p.2
theorem St.get {N : Nat} {bs : List (Nat × Value)} {a : Act} (h : St N bs a) (i : Nat) {d : Nat} {v : Value} (hi : bs[i]? = some (d, v)) : sl a d = v :=
  h.tell (d, v) (List.mem_of_getElem? hi)
theorem St.sub {N : Nat} {bs cs : List (Nat × Value)} {a : Act} (h : St N bs a) (hs : ∀ p ∈ cs, sl a p.1 = p.2) : St N cs a := ⟨h.size, h.nodef, hs⟩
theorem sl_put {a : Act} {d e : Nat} {v : Value} (h : e ≠ d) : sl (a.put (some d) v) e = sl a e := by
  simp only [sl, Act.put, Array.getD_eq_getD_getElem?]
  rw [Array.getElem?_setIfInBounds_ne (Ne.symm h)]
theorem sl_same {a : Act} {d : Nat} {v : Value} (h : d < a.tmps.size) : sl (a.put (some d) v) d = v := by
  simp [sl, Act.put, h]
theorem put_size {a : Act} {d : Option Nat} {v : Value} : (a.put d v).tmps.size = a.tmps.size := by
  cases d <;> simp [Act.put]
theorem put_def {a : Act} {d : Option Nat} {v : Value} : (a.put d v).defers = a.defers := by
  cases d <;> rfl
theorem St.enter (args : Array Value) (N : Nat) (h : args.size ≤ N) (bs : List (Nat × Value)) (hb : ∀ p ∈ bs, args[p.1]? = some p.2) : St N bs { tmps := args ++ Array.replicate (N - args.size) undef, defers := [] } := by
  refine ⟨by simp; omega, rfl, fun p hp => ?_⟩
  have h1 := hb p hp
  have h2 : p.1 < args.size := (Array.getElem?_eq_some_iff.1 h1).1
  simp only [sl, Array.getD_eq_getD_getElem?]
  rw [Array.getElem?_append_left h2, h1]
  rfl
/-- An operation's work: what it yields and the world that it leaves, told by R. -/
def Does (P : Program) (o : Oper) (a : Act) (w : World) (R : Value → World → Prop) : Prop :=
  ∀ (K : Act → World → Prop) (Q : Exit → Act → World → Prop), (∀ v w', R v w' → K (a.put o.dst v) w') → o.wp P a w K Q
theorem Does.mono {P : Program} {o : Oper} {a : Act} {w : World} {R R' : Value → World → Prop} (h : Does P o a w R) (hr : ∀ v w', R v w' → R' v w') : Does P o a w R' :=
  fun K Q hk => h K Q fun v w' hv => hk v w' (hr v w' hv)
def dstOf (ops : Array Oper) (N i : Nat) : Nat := ((ops[i]?).bind (·.dst)).getD N
abbrev Told := Value → World → Prop
def told (ps : List Told) (i : Nat) : Told := (ps[i]?).getD fun _ _ => True
def StepOk (P : Program) (ops : Array Oper) (o : Oper) (p : Told) (a : Act) (w : World) : Prop :=
  (Region.wanted o (yielded ops a.tmps) = true ∧ Does P o a w (fun v w' => Below w.heap.size w w' ∧ p v w')) ∨ (Region.wanted o (yielded ops a.tmps) = false ∧ p undef w)
/-- What holds of the operations ahead, by their numbers. -/
def Pre (ops : Array Oper) (N : Nat) (ps : List Told) (a : Act) (w : World) (o : Oper) : Prop :=
  ∀ e ∈ o.after, Region.binds .any e = true → told ps e.on (sl a (dstOf ops N e.on)) w
theorem Pre.get {ops : Array Oper} {N : Nat} {ps : List Told} {a : Act} {w : World} {o : Oper} (h : Pre ops N ps a w o) (j : Nat) (hj : (o.after.toList.any fun e => Region.binds .any e && e.on == j) = true) {p : Told} (hp : ps[j]? = some p) {d : Nat} (hd : dstOf ops N j = d) : p (sl a d) w := by
  obtain ⟨e, he, h2⟩ := List.any_eq_true.1 hj
  simp only [Bool.and_eq_true, beq_iff_eq] at h2
  have h3 := h e (by simpa using he) h2.1
  rw [h2.2, hd] at h3
  unfold told at h3
  rw [hp] at h3
  exact h3
/-- Each of the first operations has a slot of its own, which nothing told stands in; each waits for elder ones alone. -/
def okRegion (ops : Array Oper) (N m : Nat) (keys : List Nat) : Bool :=
  (List.range m).all fun i => match ops[i]? with
    | some o => (match o.dst with | some d => decide (d < N) && !keys.contains d && (List.range i).all (fun j => dstOf ops N j != d) | none => false) && o.after.all (fun e => !Region.binds .any e || decide (e.on < i))
    | none => false
/-- ms: for each operation, as bits, some of those that it waits for, directly or through others. -/
def okMask (ops : Array Oper) (ms : List Nat) : Bool :=
  (List.range ops.size).all fun j => match ops[j]? with
    | some o => (List.range j).all fun i => !(Nat.testBit (ms.getD j 0) i) || o.after.any fun e => Region.binds .any e && (e.on == i || (decide (e.on < j) && decide (i < e.on) && Nat.testBit (ms.getD e.on 0) i))
    | none => false
/-- The operations behind the first ones wait for all ahead of them. -/
def okTail (ops : Array Oper) (ms : List Nat) (m : Nat) : Bool :=
  okMask ops ms && (List.range ops.size).all fun j => decide (j < m) || (match ops[j]? with
    | some o => (List.range j).all (fun i => Nat.testBit (ms.getD j 0) i) && o.after.all (fun e => !Region.binds .any e || decide (e.on < j))
    | none => false)
/-- What is listed, with all that it waits for. -/
def Closed (ops : Array Oper) (listed : Array Bool) : Prop := ∀ i o, ops[i]? = some o → listed.getD i true = true → ∀ e ∈ o.after, Region.binds .any e = true → listed.getD e.on false = true
theorem mask_listed {ops : Array Oper} {ms : List Nat} (hm : okMask ops ms = true) {listed : Array Bool} (hc : Closed ops listed) : ∀ (j i : Nat) (o : Oper), ops[j]? = some o → (∀ e ∈ o.after, Region.binds .any e = true → listed.getD e.on false = true) → i < j → Nat.testBit (ms.getD j 0) i = true → listed.getD i false = true := by
  intro j
  induction j using Nat.strongRecOn with
  | _ j ih =>
    intro i o ho ha hij hb
    have hlt := (Array.getElem?_eq_some_iff.1 ho).1
    have h1 := List.all_eq_true.1 hm j (List.mem_range.2 hlt)
    rw [ho] at h1
    have h2 := List.all_eq_true.1 h1 i (List.mem_range.2 hij)
    rw [hb] at h2
    simp only [Bool.not_true, Bool.false_or] at h2
    obtain ⟨e, he, h3⟩ := Array.any_eq_true'.1 h2
    simp only [Bool.and_eq_true, Bool.or_eq_true, beq_iff_eq, decide_eq_true_eq] at h3
    obtain ⟨hbind, h4⟩ := h3
    have hl := ha e he hbind
    rcases h4 with h4 | ⟨⟨h4, h5⟩, h6⟩
    · rw [← h4]; exact hl
    · have hk : e.on < ops.size := by omega
      have hlt2 : listed.getD e.on true = true := by
        simp only [Array.getD_eq_getD_getElem?] at hl ⊢
        cases hq : listed[e.on]? with
        | none => rw [hq] at hl; simp at hl
        | some b => rw [hq] at hl; simpa using hl
      exact ih e.on h4 i _ (Array.getElem?_eq_getElem hk) (hc e.on _ (Array.getElem?_eq_getElem hk) hlt2) h5 h6
section
variable {P : Program} {ops : Array Oper} {N m : Nat} {bs : List (Nat × Value)} {I : World → Prop} {ps : List Told}
theorem okRegion_at (h : okRegion ops N m (bs.map (·.1)) = true) {i : Nat} (hi : i < m) : ∃ o d, ops[i]? = some o ∧ o.dst = some d ∧ d < N ∧ dstOf ops N i = d ∧ (∀ p ∈ bs, p.1 ≠ d) ∧ (∀ j, j < i → dstOf ops N j ≠ d) ∧ ∀ e ∈ o.after, Region.binds .any e = true → e.on < i := by
  have h1 := List.all_eq_true.1 h i (List.mem_range.2 hi)
  cases ho : ops[i]? with
  | none => rw [ho] at h1; simp at h1
  | some o =>
    rw [ho] at h1
    simp only [Bool.and_eq_true] at h1
    obtain ⟨h1, h2⟩ := h1
    cases hd : o.dst with
    | none => rw [hd] at h1; simp at h1
    | some d =>
      rw [hd] at h1
      simp only [Bool.and_eq_true, decide_eq_true_eq, Bool.not_eq_true', List.all_eq_true, List.mem_range, bne_iff_ne] at h1
      refine ⟨o, d, rfl, hd, h1.1.1, by simp [dstOf, ho, hd], fun p hp e => ?_, h1.2, fun e he hb => ?_⟩
      · have : (bs.map (·.1)).contains d = true := List.contains_iff_mem.2 (List.mem_map.2 ⟨p, hp, e⟩)
        rw [h1.1.2] at this
        cases this
      · have := Array.all_eq_true'.1 h2 e he
        rw [hb] at this
        simpa using this
theorem dst_ne (h : okRegion ops N m (bs.map (·.1)) = true) {i j : Nat} (hi : i < m) (hj : j < m) (hne : i ≠ j) : dstOf ops N i ≠ dstOf ops N j := by
  obtain ⟨_, d, _, _, _, hd, _, hlt, _⟩ := okRegion_at h hi
  obtain ⟨_, d', _, _, _, hd', _, hlt', _⟩ := okRegion_at h hj
  rcases Nat.lt_or_gt_of_ne hne with hl | hl
  · rw [hd']; exact hlt' i hl
  · rw [hd]; exact (hlt j hl).symm
/-- What a step leaves: the frame with one slot more, and all that held. -/
theorem step_keeps (h : okRegion ops N m (bs.map (·.1)) = true) (hI : ∀ w w', I w → Below w.heap.size w w' → I w') (hps : ∀ p ∈ ps, ∀ v w w', p v w → Below w.heap.size w w' → p v w') (hm : ps.length = m)
    {a : Act} {w : World} (hS : St N bs a) (hw : I w) {i : Nat} (hi : i < m) {o : Oper} (ho : ops[i]? = some o) {v : Value} {w' : World} (hb : Below w.heap.size w w') (hp : told ps i v w')
    {D : Nat → Prop} (hD : ∀ j, j < m → D j → told ps j (sl a (dstOf ops N j)) w) :
    St N bs (a.put o.dst v) ∧ I w' ∧ ∀ j, j < m → (D j ∨ j = i) → told ps j (sl (a.put o.dst v) (dstOf ops N j)) w' := by
  obtain ⟨o', d, ho', hd, hdN, hdi, hk, hlt, _⟩ := okRegion_at h hi
  have : o' = o := Option.some.inj (ho'.symm.trans ho)
  subst this
  rw [hd]
  refine ⟨⟨by rw [put_size]; exact hS.size, by rw [put_def]; exact hS.nodef, fun p hp => ?_⟩, hI w w' hw hb, fun j hj hD' => ?_⟩
  · rw [sl_put (hk p hp)]
    exact hS.tell p hp
  · by_cases hji : j = i
    · subst hji
      rw [hdi, sl_same (by rw [hS.size]; exact hdN)]
      exact hp
    · rw [sl_put (by rw [← hdi]; exact dst_ne h hj hi hji)]
      have h1 := hD j hj (hD'.resolve_right hji)
      unfold told at h1 ⊢
      have hl : j < ps.length := by omega
      rw [List.getElem?_eq_getElem hl] at h1 ⊢
      exact hps _ (List.getElem_mem hl) _ _ _ h1 hb
/-- Operations one behind the other. -/
theorem list_from (h : okRegion ops N m (bs.map (·.1)) = true) (hI : ∀ w w', I w → Below w.heap.size w w' → I w') (hps : ∀ p ∈ ps, ∀ v w w', p v w → Below w.heap.size w w' → p v w') (hm : ps.length = m)
    (step : ∀ i o, i < m → ops[i]? = some o → ∀ a w, St N bs a → I w → Pre ops N ps a w o → StepOk P ops o (told ps i) a w) {Q : Exit → Act → World → Prop}
    (hend : ∀ a w, St N bs a → I w → (∀ j, j < m → told ps j (sl a (dstOf ops N j)) w) → wpList P ops Q (ops.toList.drop m) a w) :
    ∀ (d i : Nat), i + d = m → ∀ a w, St N bs a → I w → (∀ j, j < m → j < i → told ps j (sl a (dstOf ops N j)) w) → wpList P ops Q (ops.toList.drop i) a w := by
  intro d
  induction d with
  | zero =>
    intro i hi a w hS hw hD
    rw [show i = m by omega]
    exact hend a w hS hw (fun j hj => hD j hj (by omega))
  | succ d ih =>
    intro i hi a w hS hw hD
    obtain ⟨o, dd, ho, hd, hdN, hdi, hk, hlt, haft⟩ := okRegion_at h (show i < m by omega)
    have hlt' : i < ops.toList.length := by have := (Array.getElem?_eq_some_iff.1 ho).1; simpa using this
    have ho' : ops.toList[i] = o := by
      have := (Array.getElem?_eq_some_iff.1 ho).2
      simpa using this
    rw [List.drop_eq_getElem_cons hlt', ho']
    have hpre : Pre ops N ps a w o := fun e he hb => hD e.on (by have := haft e he hb; omega) (haft e he hb)
    have hs := step i o (by omega) ho a w hS hw hpre
    have next : ∀ v w', Below w.heap.size w w' → told ps i v w' → wpList P ops Q (ops.toList.drop (i + 1)) (a.put o.dst v) w' := by
      intro v w' hb hp
      obtain ⟨h1, h2, h3⟩ := step_keeps h hI hps hm hS hw (show i < m by omega) ho hb hp (D := fun j => j < i) (fun j hj hji => hD j hj hji)
      exact ih (i + 1) (by omega) _ _ h1 h2 (fun j hj hji => h3 j hj (by omega))
    unfold wpList
    rcases hs with ⟨hw1, hdo⟩ | ⟨hw1, hp⟩
    · rw [if_pos hw1]
      exact .inl (hdo _ _ (fun v w' hv => next v w' hv.1 hv.2))
    · rw [if_neg (by rw [hw1]; simp)]
      exact next undef w (Below.refl _ _) hp
theorem wp_seq_region {id : Nat} (h : okRegion ops N m (bs.map (·.1)) = true) (hI : ∀ w w', I w → Below w.heap.size w w' → I w') (hps : ∀ p ∈ ps, ∀ v w w', p v w → Below w.heap.size w w' → p v w') (hm : ps.length = m)
    (step : ∀ i o, i < m → ops[i]? = some o → ∀ a w, St N bs a → I w → Pre ops N ps a w o → StepOk P ops o (told ps i) a w) {Q : Exit → Act → World → Prop}
    (hend : ∀ a w, St N bs a → I w → (∀ j, j < m → told ps j (sl a (dstOf ops N j)) w) → wpList P ops Q (ops.toList.drop m) a w) {a : Act} {w : World} (hS : St N bs a) (hw : I w) : (Code.region id ops false).wp P Q a w :=
  wp_region_list (by have := list_from h hI hps hm step hend m 0 (by omega) a w hS hw (fun j _ hj => by omega); simpa using this)
/-- How many are not yet listed. -/
def left (l : Array Bool) : Nat := l.toList.countP (fun b => !b)
theorem left_set {l : Array Bool} {i : Nat} (hi : i < l.size) (h : l.getD i true = false) : left (l.setIfInBounds i true) + 1 = left l := by
  have hl : i < l.toList.length := by simpa using hi
  have hv : l.toList[i] = false := by
    simp [Array.getD, hi] at h
    simpa using h
  unfold left
  have hpos : 0 < l.toList.countP (fun b => !b) := List.countP_pos_iff.2 ⟨false, by rw [← hv]; exact List.getElem_mem hl, rfl⟩
  have hset := List.countP_set (p := fun b : Bool => !b) (a := true) hl
  rw [hv] at hset
  rw [Array.toList_setIfInBounds, hset]
  simp only [Bool.not_false, if_true, Bool.not_true, Bool.false_eq_true, if_false]
  omega
theorem ready_mem {md : Region.Mode} {listed : Array Bool} {i : Nat} (h : i ∈ Region.ready md ops listed) : i < ops.size ∧ listed.getD i true = false ∧ ∃ o, ops[i]? = some o ∧ ∀ e ∈ o.after, Region.binds md e = true → listed.getD e.on false = true := by
  unfold Region.ready at h
  simp only [List.mem_filter, List.mem_range, Bool.and_eq_true, Bool.not_eq_true'] at h
  obtain ⟨h1, h2, h3⟩ := h
  refine ⟨h1, h2, ?_⟩
  rw [Array.getElem?_eq_getElem h1] at h3
  refine ⟨_, Array.getElem?_eq_getElem h1, fun e he hb => ?_⟩
  simp only [Option.map_some, Option.getD_some] at h3
  have := Array.all_eq_true'.1 h3 e he
  rw [hb] at this
  simpa using this
theorem ready_of {md : Region.Mode} {listed : Array Bool} {i : Nat} {o : Oper} (ho : ops[i]? = some o) (h : listed.getD i true = false) (ha : ∀ e ∈ o.after, Region.binds md e = true → listed.getD e.on false = true) : i ∈ Region.ready md ops listed := by
  have h1 := (Array.getElem?_eq_some_iff.1 ho).1
  unfold Region.ready
  simp only [List.mem_filter, List.mem_range, Bool.and_eq_true, Bool.not_eq_true']
  refine ⟨h1, h, ?_⟩
  rw [ho]
  simp only [Option.map_some, Option.getD_some]
  rw [Array.all_eq_true']
  intro e he
  cases hb : Region.binds md e with
  | false => rfl
  | true => simpa using ha e he hb
theorem getD_set {l : Array Bool} {i j : Nat} {b : Bool} (hi : i < l.size) : (l.setIfInBounds i true).getD j b = if j = i then true else l.getD j b := by
  simp only [Array.getD_eq_getD_getElem?]
  by_cases h : j = i
  · subst h
    simp [hi]
  · rw [if_neg h, Array.getElem?_setIfInBounds_ne (Ne.symm h)]
theorem getD_tf {l : Array Bool} {j : Nat} (h : j < l.size) : l.getD j false = l.getD j true := by
  simp [Array.getD, h]
theorem okTail_at {ms : List Nat} (ht : okTail ops ms m = true) {j : Nat} {o : Oper} (ho : ops[j]? = some o) (hj : m ≤ j) : (∀ i, i < j → ∀ listed : Array Bool, Closed ops listed → (∀ e ∈ o.after, Region.binds .any e = true → listed.getD e.on false = true) → listed.getD i false = true) ∧ ∀ e ∈ o.after, Region.binds .any e = true → e.on < j := by
  have hlt := (Array.getElem?_eq_some_iff.1 ho).1
  unfold okTail at ht
  rw [Bool.and_eq_true] at ht
  have h1 := List.all_eq_true.1 ht.2 j (List.mem_range.2 hlt)
  rw [ho] at h1
  simp only [Bool.or_eq_true, decide_eq_true_eq, Bool.and_eq_true, List.all_eq_true, List.mem_range] at h1
  rcases h1 with h1 | ⟨h1, h2⟩
  · omega
  · refine ⟨fun i hi listed hc ha => mask_listed ht.1 hc j i o ho ha hi (h1 i hi), fun e he hb => ?_⟩
    · have := Array.all_eq_true'.1 h2 e he
      rw [hb] at this
      simpa using this
theorem any_tail {ms : List Nat} (haf : ∀ i o, ops[i]? = some o → i < m → ∀ e ∈ o.after, Region.binds .any e = true → e.on < i) (ht : okTail ops ms m = true) {Q : Exit → Act → World → Prop} : ∀ (d j : Nat), j + d = ops.size → m ≤ j → ∀ (fuel : Nat) (listed : Array Bool) (a : Act) (w : World), listed.size = ops.size → d ≤ fuel → (∀ i, i < ops.size → (listed.getD i true = true ↔ i < j)) →
    wpList P ops Q (ops.toList.drop j) a w → wpAny P .any ops Q fuel listed a w := by
  intro d
  induction d with
  | zero =>
    intro j hj hmj fuel listed a w hsz _ hl h
    refine wpAny_done ?_ ?_ fuel
    · rw [List.eq_nil_iff_forall_not_mem]
      intro i hi
      obtain ⟨h1, h2, _⟩ := ready_mem hi
      have := (hl i h1).2 (by omega)
      rw [this] at h2
      cases h2
    · rw [List.drop_of_length_le (by simp; omega)] at h
      exact h
  | succ d ih =>
    intro j hj hmj fuel listed a w hsz hf hl h
    obtain ⟨fuel, rfl⟩ : ∃ f, fuel = f + 1 := ⟨fuel - 1, by omega⟩
    have hlt : j < ops.size := by omega
    have hlt' : j < ops.toList.length := by simpa using hlt
    have ho : ops[j]? = some ops[j] := Array.getElem?_eq_getElem hlt
    have ho' : ops.toList[j] = ops[j] := by simp
    obtain ⟨_, haft⟩ := okTail_at ht ho hmj
    have hcl : Closed ops listed := fun i o ho hi e he hb => by
      have hlt := (Array.getElem?_eq_some_iff.1 ho).1
      have h1 := (hl i hlt).1 hi
      have h2 : e.on < i := by
        by_cases him : i < m
        · exact haf i o ho him e he hb
        · exact (okTail_at ht ho (by omega)).2 e he hb
      rw [getD_tf (by omega)]
      exact (hl e.on (by omega)).2 (by omega)
    have hjf : listed.getD j true = false := by
      cases hb : listed.getD j true with
      | false => rfl
      | true => have := (hl j hlt).1 hb; omega
    refine ⟨fun h0 => ?_, fun i hi => ?_⟩
    · have : j ∈ Region.ready .any ops listed := ready_of ho hjf (fun e he hb => by
        have := haft e he hb
        rw [getD_tf (by omega)]
        exact (hl e.on (by omega)).2 this)
      rw [h0] at this
      simp at this
    · obtain ⟨h1, h2, o, ho2, h3⟩ := ready_mem hi
      have hij : i = j := by
        have hge : ¬ i < j := fun hlt => by rw [(hl i h1).2 hlt] at h2; cases h2
        by_cases hgt : j < i
        · have := (okTail_at ht ho2 (by omega)).1 j hgt listed hcl h3
          rw [getD_tf (by omega), hjf] at this
          cases this
        · omega
      subst hij
      rw [List.drop_eq_getElem_cons hlt', ho'] at h
      have : wpOp P ops Q i (wpList P ops Q (ops.toList.drop (i + 1))) a w := by
        unfold wpOp
        rw [ho]
        unfold wpList at h
        exact h
      refine wpOp_mono (fun a' w' hk => ?_) this
      refine ih (i + 1) (by omega) (by omega) fuel _ a' w' (by simp [hsz]) (by omega) (fun q hq => ?_) hk
      rw [getD_set (by omega)]
      by_cases hqi : q = i
      · rw [if_pos hqi]; exact ⟨fun _ => by omega, fun _ => rfl⟩
      · rw [if_neg hqi, hl q hq]; omega
theorem any_from {ms : List Nat} (h : okRegion ops N m (bs.map (·.1)) = true) (ht : okTail ops ms m = true) (hI : ∀ w w', I w → Below w.heap.size w w' → I w') (hps : ∀ p ∈ ps, ∀ v w w', p v w → Below w.heap.size w w' → p v w') (hm : ps.length = m) (hmn : m ≤ ops.size)
    (step : ∀ i o, i < m → ops[i]? = some o → ∀ a w, St N bs a → I w → Pre ops N ps a w o → StepOk P ops o (told ps i) a w) {Q : Exit → Act → World → Prop}
    (hend : ∀ a w, St N bs a → I w → (∀ j, j < m → told ps j (sl a (dstOf ops N j)) w) → wpList P ops Q (ops.toList.drop m) a w) :
    ∀ (fuel : Nat) (listed : Array Bool) (a : Act) (w : World), listed.size = ops.size → left listed ≤ fuel → (∀ j, j < ops.size → m ≤ j → listed.getD j true = false) → Closed ops listed → St N bs a → I w → (∀ j, j < m → listed.getD j true = true → told ps j (sl a (dstOf ops N j)) w) → wpAny P .any ops Q fuel listed a w := by
  have haf : ∀ i o, ops[i]? = some o → i < m → ∀ e ∈ o.after, Region.binds .any e = true → e.on < i := fun i o ho hi => by
    obtain ⟨o', _, ho', _, _, _, _, _, haft⟩ := okRegion_at h hi
    have : o' = o := Option.some.inj (ho'.symm.trans ho)
    subst this
    exact haft
  intro fuel
  induction fuel with
  | zero =>
    intro listed a w hsz hf hl hcl hS hw hD
    have hall : ∀ i, i < ops.size → listed.getD i true = true := by
      intro i hi
      cases hb : listed.getD i true with
      | true => rfl
      | false => have := left_set (by omega) hb; omega
    have hmn' : m = ops.size := by
      by_cases hlt : m < ops.size
      · have := hl m hlt (Nat.le_refl _)
        rw [hall m hlt] at this
        cases this
      · omega
    have he := hend a w hS hw (fun j hj => hD j hj (hall j (by omega)))
    exact any_tail haf ht 0 m (by omega) (Nat.le_refl _) 0 listed a w hsz (Nat.le_refl _) (fun i hi => ⟨fun _ => by omega, fun _ => hall i hi⟩) he
  | succ fuel ih =>
    intro listed a w hsz hf hl hcl hS hw hD
    by_cases hfirst : ∀ j, j < m → listed.getD j true = true
    · have he := hend a w hS hw (fun j hj => hD j hj (hfirst j hj))
      by_cases hlt : ops.size - m ≤ fuel + 1
      · exact any_tail haf ht (ops.size - m) m (by omega) (Nat.le_refl _) (fuel + 1) listed a w hsz hlt (fun i hi => by
          by_cases him : i < m
          · exact ⟨fun _ => him, fun _ => hfirst i him⟩
          · rw [hl i hi (by omega)]
            simp [him]) he
      · exfalso
        have : ops.size - m ≤ left listed := by
          unfold left
          have h1 : (listed.toList.drop m).countP (fun b => !b) = ops.size - m := by
            rw [List.countP_eq_length.2]
            · simp [hsz]
            · intro b hb
              obtain ⟨k, hk, rfl⟩ := List.mem_iff_getElem.1 hb
              have hk' : m + k < listed.size := by simp at hk; omega
              have := hl (m + k) (by omega) (by omega)
              simp [Array.getD, hk'] at this
              simp [this]
          have h2 : listed.toList.countP (fun b => !b) = (listed.toList.take m).countP (fun b => !b) + (listed.toList.drop m).countP (fun b => !b) := by
            rw [← List.countP_append, List.take_append_drop]
          omega
        omega
    · refine ⟨fun h0 => ?_, fun i hi => ?_⟩
      · exfalso
        obtain ⟨j, hj⟩ : ∃ j, j < m ∧ listed.getD j true = false ∧ ∀ i, i < j → listed.getD i true = true := by
          have hex : ∃ j, j < m ∧ listed.getD j true = false := by
            simp only [Classical.not_forall] at hfirst
            obtain ⟨j, hj, hne⟩ := hfirst
            exact ⟨j, hj, by simpa using hne⟩
          obtain ⟨j, hj, hf'⟩ := hex
          clear hfirst
          revert hj hf'
          induction j using Nat.strongRecOn with
          | _ j ihj =>
            intro hj hf'
            by_cases hlow : ∀ i, i < j → listed.getD i true = true
            · exact ⟨j, hj, hf', hlow⟩
            · simp only [Classical.not_forall] at hlow
              obtain ⟨i, hi, hne⟩ := hlow
              exact ihj i hi (by omega) (by simpa using hne)
        obtain ⟨hjm, hjf, hlow⟩ := hj
        obtain ⟨o, d, ho, _, _, _, _, _, haft⟩ := okRegion_at h hjm
        have : j ∈ Region.ready .any ops listed := ready_of ho hjf (fun e he hb => by
          have := haft e he hb
          rw [getD_tf (by omega)]
          exact hlow _ this)
        rw [h0] at this
        simp at this
      · obtain ⟨h1, h2, o, ho, h3⟩ := ready_mem hi
        by_cases him : i < m
        · obtain ⟨o', d, ho', hd, hdN, hdi, hk, hlt, haft⟩ := okRegion_at h him
          have : o' = o := Option.some.inj (ho'.symm.trans ho)
          subst this
          have hpre : Pre ops N ps a w o' := fun e he hb => by
            have h4 := haft e he hb
            have h5 := h3 e he hb
            rw [getD_tf (by omega)] at h5
            exact hD e.on (by omega) h5
          have hs := step i o' him ho a w hS hw hpre
          have next : ∀ v w', Below w.heap.size w w' → told ps i v w' → wpAny P .any ops Q fuel (listed.setIfInBounds i true) (a.put o'.dst v) w' := by
            intro v w' hb hp
            obtain ⟨g1, g2, g3⟩ := step_keeps h hI hps hm hS hw him ho hb hp (D := fun j => listed.getD j true = true) (fun j hj hjl => hD j hj hjl)
            refine ih _ _ _ (by simp [hsz]) (by have := left_set (show i < listed.size by omega) h2; omega) (fun j hj hjm => ?_) ?_ g1 g2 (fun j hj hjl => g3 j hj ?_)
            · rw [getD_set (by omega), if_neg (by omega)]
              exact hl j hj hjm
            · intro q oq hoq hql e he hb
              have hqs := (Array.getElem?_eq_some_iff.1 hoq).1
              rw [getD_set (by omega)] at hql ⊢
              by_cases hei : e.on = i
              · rw [if_pos hei]
              · rw [if_neg hei]
                by_cases hqi : q = i
                · subst hqi
                  have : oq = o' := Option.some.inj (hoq.symm.trans ho)
                  subst this
                  exact h3 e he hb
                · rw [if_neg hqi] at hql
                  exact hcl q oq hoq hql e he hb
            · rw [getD_set (by omega)] at hjl
              by_cases hji : j = i
              · exact .inr hji
              · rw [if_neg hji] at hjl
                exact .inl hjl
          unfold wpOp
          rw [ho]
          show if Region.wanted o' (yielded ops a.tmps) = true then _ else _
          rcases hs with ⟨hw1, hdo⟩ | ⟨hw1, hp⟩
          · rw [if_pos hw1]
            exact .inl (hdo _ _ (fun v w' hv => next v w' hv.1 hv.2))
          · rw [if_neg (by rw [hw1]; simp)]
            exact next undef w (Below.refl _ _) hp
        · exfalso
          apply hfirst
          intro j hj
          have h5 := (okTail_at ht ho (by omega)).1 j (by omega) listed hcl h3
          rw [getD_tf (by omega)] at h5
          exact h5
theorem wp_any_region {id : Nat} {ms : List Nat} (hmo : P.follows .mixedOrders = true) (h : okRegion ops N m (bs.map (·.1)) = true) (ht : okTail ops ms m = true) (hI : ∀ w w', I w → Below w.heap.size w w' → I w') (hps : ∀ p ∈ ps, ∀ v w w', p v w → Below w.heap.size w w' → p v w') (hm : ps.length = m) (hmn : m ≤ ops.size)
    (step : ∀ i o, i < m → ops[i]? = some o → ∀ a w, St N bs a → I w → Pre ops N ps a w o → StepOk P ops o (told ps i) a w) {Q : Exit → Act → World → Prop}
    (hend : ∀ a w, St N bs a → I w → (∀ j, j < m → told ps j (sl a (dstOf ops N j)) w) → wpList P ops Q (ops.toList.drop m) a w) {a : Act} {w : World} (hS : St N bs a) (hw : I w) : (Code.region id ops true).wp P Q a w := by
  refine wp_region_any hmo ?_
  refine any_from h ht hI hps hm hmn step hend ops.size _ a _ (by simp) (Nat.le_trans List.countP_le_length (by simp)) (fun j hj _ => by simp [Array.getD, hj]) (fun i o ho hi => by
    have hlt := (Array.getElem?_eq_some_iff.1 ho).1
    simp [Array.getD, hlt] at hi) hS (hI w _ hw (Below.refl _ _).drew) (fun j hj hl => ?_)
  have : j < ops.size := by omega
  simp [Array.getD, this] at hl
end
end Go.Proofs.Ytmfahcabdkajnaa.E
