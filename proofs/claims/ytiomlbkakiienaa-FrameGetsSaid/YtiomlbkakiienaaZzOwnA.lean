/- What a walk over a function's text leans on: regions and operations one by one. -/
import Derived.Tactics
import Derived.Laws.Rows
import Derived.RowKit
import Derived.WalkKit
import Derived.Test.YtiomlbkakiienaaZzWMore
import Derived.RegionTactic
import Derived.KernelRfl
import Derived.Laws.Tables
import Derived.Laws.Slices
import Derived.Laws.StructEq
import Derived.Great.Walk
namespace Go.Proofs.Ytiomlbkakiienaa.P
end Go.Proofs.Ytiomlbkakiienaa.P
set_option linter.unusedVariables false
set_option linter.unusedSimpArgs false
namespace Go.Proofs.Ytiomlbkakiienaa.E
open Go Go.RowKit Go.Proofs.YtiomlbkakiienaaW.PrintWords Go.Proofs.YtiomlbkakiienaaW.PrintLast Go.Proofs.YtiomlbkakiienaaW.PrintMore
def sl (a : Act) (d : Nat) : Value := a.tmps.getD d undef
structure St (N : Nat) (bs : List (Nat × Value)) (a : Act) : Prop where
  size : a.tmps.size = N
  nodef : a.defers = []
  tell : ∀ p ∈ bs, sl a p.1 = p.2
theorem St.get {N : Nat} {bs : List (Nat × Value)} {a : Act} (h : St N bs a) (i : Nat) {d : Nat} {v : Value} (hi : bs[i]? = some (d, v)) : sl a d = v :=
  h.tell (d, v) (List.mem_of_getElem? hi)
theorem St.sub {N : Nat} {bs cs : List (Nat × Value)} {a : Act} (h : St N bs a) (hs : ∀ p ∈ cs, sl a p.1 = p.2) : St N cs a := ⟨h.size, h.nodef, hs⟩
theorem sl_put {a : Act} {d e : Nat} {v : Value} (h : e ≠ d) : sl (a.put (some d) v) e = sl a e := by
  simp only [sl, Act.put, Array.getD_eq_getD_getElem?]
  rw [Array.getElem?_setIfInBounds_ne (Ne.symm h)]
theorem sl_same {a : Act} {d : Nat} {v : Value} (h : d < a.tmps.size) : sl (a.put (some d) v) d = v := by
  simp [sl, Act.put, h]
theorem put_size {a : Act} {d : Option Nat} {v : Value} : (a.put d v).tmps.size = a.tmps.size := by
  cases d <;> simp [Act.put]
theorem put_def {a : Act} {d : Option Nat} {v : Value} : (a.put d v).defers = a.defers := by
  cases d <;> rfl
theorem St.enter (args : Array Value) (N : Nat) (h : args.size ≤ N) (bs : List (Nat × Value)) (hb : ∀ p ∈ bs, args[p.1]? = some p.2) : St N bs { tmps := args ++ Array.replicate (N - args.size) undef, defers := [] } := by
  refine ⟨by simp; omega, rfl, fun p hp => ?_⟩
  have h1 := hb p hp
  have h2 : p.1 < args.size := (Array.getElem?_eq_some_iff.1 h1).1
  simp only [sl, Array.getD_eq_getD_getElem?]
  rw [Array.getElem?_append_left h2, h1]
  rfl
def Does (P : Program) (o : Oper) (a : Act) (w : World) (R : Value → World → Prop) : Prop :=
  ∀ (K : Act → World → Prop) (Q : Exit → Act → World → Prop), (∀ v w', R v w' → K (a.put o.dst v) w') → o.wp P a w K Q
theorem Does.mono {P : Program} {o : Oper} {a : Act} {w : World} {R R' : Value → World → Prop} (h : Does P o a w R) (hr : ∀ v w', R v w' → R' v w') : Does P o a w R' :=
  fun K Q hk => h K Q fun v w' hv => hk v w' (hr v w' hv)
def dstOf (ops : Array Oper) (N i : Nat) : Nat := ((ops[i]?).bind (·.dst)).getD N
abbrev Told := Value → World → Prop
def told (ps : List Told) (i : Nat) : Told := (ps[i]?).getD fun _ _ => True
def StepOk (P : Program) (ops : Array Oper) (o : Oper) (p : Told) (a : Act) (w : World) : Prop :=
  (Region.wanted o (yielded ops a.tmps) = true ∧ Does P o a w (fun v w' => Below w.heap.size w w' ∧ p v w')) ∨ (Region.wanted o (yielded ops a.tmps) = false ∧ p undef w)
def Pre (ops : Array Oper) (N : Nat) (ps : List Told) (a : Act) (w : World) (o : Oper) : Prop :=
  ∀ e ∈ o.after, Region.binds .any e = true → told ps e.on (sl a (dstOf ops N e.on)) w
theorem Pre.get {ops : Array Oper} {N : Nat} {ps : List Told} {a : Act} {w : World} {o : Oper} (h : Pre ops N ps a w o) (j : Nat) (hj : (o.after.toList.any fun e => Region.binds .any e && e.on == j) = true) {p : Told} (hp : ps[j]? = some p) {d : Nat} (hd : dstOf ops N j = d) : p (sl a d) w := by
  obtain ⟨e, he, h2⟩ := List.any_eq_true.1 hj
  simp only [Bool.and_eq_true, beq_iff_eq] at h2
  have h3 := h e (by simpa using he) h2.1
  rw [h2.2, hd] at h3
  unfold told at h3
  rw [hp] at h3
  exact h3
def okRegion (ops : Array Oper) (N m : Nat) (keys : List Nat) : Bool :=
  (List.range m).all fun i => match ops[i]? with
    | some o => (match o.dst with | some d => decide (d < N) && !keys.contains d && (List.range i).all (fun j => dstOf ops N j != d) | none => false) && o.after.all (fun e => !Region.binds .any e || decide (e.on < i))
    | none => false
def okMask (ops : Array Oper) (ms : List Nat) : Bool :=
  (List.range ops.size).all fun j => match ops[j]? with
    | some o => (List.range j).all fun i => !(Nat.testBit (ms.getD j 0) i) || o.after.any fun e => Region.binds .any e && (e.on == i || (decide (e.on < j) && decide (i < e.on) && Nat.testBit (ms.getD e.on 0) i))
    | none => false
def okTail (ops : Array Oper) (ms : List Nat) (m : Nat) : Bool :=
  okMask ops ms && (List.range ops.size).all fun j => decide (j < m) || (match ops[j]? with
    | some o => (List.range j).all (fun i => Nat.testBit (ms.getD j 0) i) && o.after.all (fun e => !Region.binds .any e || decide (e.on < j))
    | none => false)
def Closed (ops : Array Oper) (listed : Array Bool) : Prop := ∀ i o, ops[i]? = some o → listed.getD i true = true → ∀ e ∈ o.after, Region.binds .any e = true → listed.getD e.on false = true
theorem mask_listed {ops : Array Oper} {ms : List Nat} (hm : okMask ops ms = true) {listed : Array Bool} (hc : Closed ops listed) : ∀ (j i : Nat) (o : Oper), ops[j]? = some o → (∀ e ∈ o.after, Region.binds .any e = true → listed.getD e.on false = true) → i < j → Nat.testBit (ms.getD j 0) i = true → listed.getD i false = true := by
  intro j
  induction j using Nat.strongRecOn with
  | _ j ih =>
    intro i o ho ha hij hb
    have hlt := (Array.getElem?_eq_some_iff.1 ho).1
    have h1 := List.all_eq_true.1 hm j (List.mem_range.2 hlt)
    rw [ho] at h1
    have h2 := List.all_eq_true.1 h1 i (List.mem_range.2 hij)
    rw [hb] at h2
    simp only [Bool.not_true, Bool.false_or] at h2
    obtain ⟨e, he, h3⟩ := Array.any_eq_true'.1 h2
    simp only [Bool.and_eq_true, Bool.or_eq_true, beq_iff_eq, decide_eq_true_eq] at h3
    obtain ⟨hbind, h4⟩ := h3
    have hl := ha e he hbind
    rcases h4 with h4 | ⟨⟨h4, h5⟩, h6⟩
    · rw [← h4]; exact hl
    · have hk : e.on < ops.size := by omega
      have hlt2 : listed.getD e.on true = true := by
        simp only [Array.getD_eq_getD_getElem?] at hl ⊢
        cases hq : listed[e.on]? with
        | none => rw [hq] at hl; simp at hl
        | some b => rw [hq] at hl; simpa using hl
      exact ih e.on h4 i _ (Array.getElem?_eq_getElem hk) (hc e.on _ (Array.getElem?_eq_getElem hk) hlt2) h5 h6
section
variable {P : Program} {ops : Array Oper} {N m : Nat} {bs : List (Nat × Value)} {I : World → Prop} {ps : List Told}
theorem okRegion_at (h : okRegion ops N m (bs.map (·.1)) = true) {i : Nat} (hi : i < m) : ∃ o d, ops[i]? = some o ∧ o.dst = some d ∧ d < N ∧ dstOf ops N i = d ∧ (∀ p ∈ bs, p.1 ≠ d) ∧ (∀ j, j < i → dstOf ops N j ≠ d) ∧ ∀ e ∈ o.after, Region.binds .any e = true → e.on < i := by
  have h1 := List.all_eq_true.1 h i (List.mem_range.2 hi)
  cases ho : ops[i]? with
  | none => rw [ho] at h1; simp at h1
  | some o =>
    rw [ho] at h1
    simp only [Bool.and_eq_true] at h1
    obtain ⟨h1, h2⟩ := h1
    cases hd : o.dst with
    | none => rw [hd] at h1; simp at h1
    | some d =>
      rw [hd] at h1
      simp only [Bool.and_eq_true, decide_eq_true_eq, Bool.not_eq_true', List.all_eq_true, List.mem_range, bne_iff_ne] at h1
      refine ⟨o, d, rfl, hd, h1.1.1, by simp [dstOf, ho, hd], fun p hp e => ?_, h1.2, fun e he hb => ?_⟩
      · have : (bs.map (·.1)).contains d = true := List.contains_iff_mem.2 (List.mem_map.2 ⟨p, hp, e⟩)
        rw [h1.1.2] at this
        cases this
      · have := Array.all_eq_true'.1 h2 e he
        rw [hb] at this
        simpa using this
theorem dst_ne (h : okRegion ops N m (bs.map (·.1)) = true) {i j : Nat} (hi : i < m) (hj : j < m) (hne : i ≠ j) : dstOf ops N i ≠ dstOf ops N j := by
  obtain ⟨_, d, _, _, _, hd, _, hlt, _⟩ := okRegion_at h hi
  obtain ⟨_, d', _, _, _, hd', _, hlt', _⟩ := okRegion_at h hj
  rcases Nat.lt_or_gt_of_ne hne with hl | hl
  · rw [hd']; exact hlt' i hl
  · rw [hd]; exact (hlt j hl).symm
theorem step_keeps (h : okRegion ops N m (bs.map (·.1)) = true) (hI : ∀ w w', I w → Below w.heap.size w w' → I w') (hps : ∀ p ∈ ps, ∀ v w w', p v w → Below w.heap.size w w' → p v w') (hm : ps.length = m)
    {a : Act} {w : World} (hS : St N bs a) (hw : I w) {i : Nat} (hi : i < m) {o : Oper} (ho : ops[i]? = some o) {v : Value} {w' : World} (hb : Below w.heap.size w w') (hp : told ps i v w')
    {D : Nat → Prop} (hD : ∀ j, j < m → D j → told ps j (sl a (dstOf ops N j)) w) :
    St N bs (a.put o.dst v) ∧ I w' ∧ ∀ j, j < m → (D j ∨ j = i) → told ps j (sl (a.put o.dst v) (dstOf ops N j)) w' := by
  obtain ⟨o', d, ho', hd, hdN, hdi, hk, hlt, _⟩ := okRegion_at h hi
  have : o' = o := Option.some.inj (ho'.symm.trans ho)
  subst this
  rw [hd]
  refine ⟨⟨by rw [put_size]; exact hS.size, by rw [put_def]; exact hS.nodef, fun p hp => ?_⟩, hI w w' hw hb, fun j hj hD' => ?_⟩
  · rw [sl_put (hk p hp)]
    exact hS.tell p hp
  · by_cases hji : j = i
    · subst hji
      rw [hdi, sl_same (by rw [hS.size]; exact hdN)]
      exact hp
    · rw [sl_put (by rw [← hdi]; exact dst_ne h hj hi hji)]
      have h1 := hD j hj (hD'.resolve_right hji)
      unfold told at h1 ⊢
      have hl : j < ps.length := by omega
      rw [List.getElem?_eq_getElem hl] at h1 ⊢
      exact hps _ (List.getElem_mem hl) _ _ _ h1 hb
theorem list_from (h : okRegion ops N m (bs.map (·.1)) = true) (hI : ∀ w w', I w → Below w.heap.size w w' → I w') (hps : ∀ p ∈ ps, ∀ v w w', p v w → Below w.heap.size w w' → p v w') (hm : ps.length = m)
    (step : ∀ i o, i < m → ops[i]? = some o → ∀ a w, St N bs a → I w → Pre ops N ps a w o → StepOk P ops o (told ps i) a w) {Q : Exit → Act → World → Prop}
    (hend : ∀ a w, St N bs a → I w → (∀ j, j < m → told ps j (sl a (dstOf ops N j)) w) → wpList P ops Q (ops.toList.drop m) a w) :
    ∀ (d i : Nat), i + d = m → ∀ a w, St N bs a → I w → (∀ j, j < m → j < i → told ps j (sl a (dstOf ops N j)) w) → wpList P ops Q (ops.toList.drop i) a w := by
  intro d
  induction d with
  | zero =>
    intro i hi a w hS hw hD
    rw [show i = m by omega]
    exact hend a w hS hw (fun j hj => hD j hj (by omega))
  | succ d ih =>
    intro i hi a w hS hw hD
    obtain ⟨o, dd, ho, hd, hdN, hdi, hk, hlt, haft⟩ := okRegion_at h (show i < m by omega)
    have hlt' : i < ops.toList.length := by have := (Array.getElem?_eq_some_iff.1 ho).1; simpa using this
    have ho' : ops.toList[i] = o := by
      have := (Array.getElem?_eq_some_iff.1 ho).2
      simpa using this
    rw [List.drop_eq_getElem_cons hlt', ho']
    have hpre : Pre ops N ps a w o := fun e he hb => hD e.on (by have := haft e he hb; omega) (haft e he hb)
    have hs := step i o (by omega) ho a w hS hw hpre
    have next : ∀ v w', Below w.heap.size w w' → told ps i v w' → wpList P ops Q (ops.toList.drop (i + 1)) (a.put o.dst v) w' := by
      intro v w' hb hp
      obtain ⟨h1, h2, h3⟩ := step_keeps h hI hps hm hS hw (show i < m by omega) ho hb hp (D := fun j => j < i) (fun j hj hji => hD j hj hji)
      exact ih (i + 1) (by omega) _ _ h1 h2 (fun j hj hji => h3 j hj (by omega))
    unfold wpList
    rcases hs with ⟨hw1, hdo⟩ | ⟨hw1, hp⟩
    · rw [if_pos hw1]
      exact .inl (hdo _ _ (fun v w' hv => next v w' hv.1 hv.2))
    · rw [if_neg (by rw [hw1]; simp)]
      exact next undef w (Below.refl _ _) hp
theorem wp_seq_region {id : Nat} (h : okRegion ops N m (bs.map (·.1)) = true) (hI : ∀ w w', I w → Below w.heap.size w w' → I w') (hps : ∀ p ∈ ps, ∀ v w w', p v w → Below w.heap.size w w' → p v w') (hm : ps.length = m)
    (step : ∀ i o, i < m → ops[i]? = some o → ∀ a w, St N bs a → I w → Pre ops N ps a w o → StepOk P ops o (told ps i) a w) {Q : Exit → Act → World → Prop}
    (hend : ∀ a w, St N bs a → I w → (∀ j, j < m → told ps j (sl a (dstOf ops N j)) w) → wpList P ops Q (ops.toList.drop m) a w) {a : Act} {w : World} (hS : St N bs a) (hw : I w) : (Code.region id ops false).wp P Q a w :=
  wp_region_list (by have := list_from h hI hps hm step hend m 0 (by omega) a w hS hw (fun j _ hj => by omega); simpa using this)
def left (l : Array Bool) : Nat := l.toList.countP (fun b => !b)
theorem left_set {l : Array Bool} {i : Nat} (hi : i < l.size) (h : l.getD i true = false) : left (l.setIfInBounds i true) + 1 = left l := by
  have hl : i < l.toList.length := by simpa using hi
  have hv : l.toList[i] = false := by
    simp [Array.getD, hi] at h
    simpa using h
  unfold left
  have hpos : 0 < l.toList.countP (fun b => !b) := List.countP_pos_iff.2 ⟨false, by rw [← hv]; exact List.getElem_mem hl, rfl⟩
  have hset := List.countP_set (p := fun b : Bool => !b) (a := true) hl
  rw [hv] at hset
  rw [Array.toList_setIfInBounds, hset]
  simp only [Bool.not_false, if_true, Bool.not_true, Bool.false_eq_true, if_false]
  omega
theorem ready_mem {md : Region.Mode} {listed : Array Bool} {i : Nat} (h : i ∈ Region.ready md ops listed) : i < ops.size ∧ listed.getD i true = false ∧ ∃ o, ops[i]? = some o ∧ ∀ e ∈ o.after, Region.binds md e = true → listed.getD e.on false = true := by
  unfold Region.ready at h
  simp only [List.mem_filter, List.mem_range, Bool.and_eq_true, Bool.not_eq_true'] at h
  obtain ⟨h1, h2, h3⟩ := h
  refine ⟨h1, h2, ?_⟩
  rw [Array.getElem?_eq_getElem h1] at h3
  refine ⟨_, Array.getElem?_eq_getElem h1, fun e he hb => ?_⟩
  simp only [Option.map_some, Option.getD_some] at h3
  have := Array.all_eq_true'.1 h3 e he
  rw [hb] at this
  simpa using this
theorem ready_of {md : Region.Mode} {listed : Array Bool} {i : Nat} {o : Oper} (ho : ops[i]? = some o) (h : listed.getD i true = false) (ha : ∀ e ∈ o.after, Region.binds md e = true → listed.getD e.on false = true) : i ∈ Region.ready md ops listed := by
  have h1 := (Array.getElem?_eq_some_iff.1 ho).1
  unfold Region.ready
  simp only [List.mem_filter, List.mem_range, Bool.and_eq_true, Bool.not_eq_true']
  refine ⟨h1, h, ?_⟩
  rw [ho]
  simp only [Option.map_some, Option.getD_some]
  rw [Array.all_eq_true']
  intro e he
  cases hb : Region.binds md e with
  | false => rfl
  | true => simpa using ha e he hb
theorem getD_set {l : Array Bool} {i j : Nat} {b : Bool} (hi : i < l.size) : (l.setIfInBounds i true).getD j b = if j = i then true else l.getD j b := by
  simp only [Array.getD_eq_getD_getElem?]
  by_cases h : j = i
  · subst h
    simp [hi]
  · rw [if_neg h, Array.getElem?_setIfInBounds_ne (Ne.symm h)]
theorem getD_tf {l : Array Bool} {j : Nat} (h : j < l.size) : l.getD j false = l.getD j true := by
  simp [Array.getD, h]
theorem okTail_at {ms : List Nat} (ht : okTail ops ms m = true) {j : Nat} {o : Oper} (ho : ops[j]? = some o) (hj : m ≤ j) : (∀ i, i < j → ∀ listed : Array Bool, Closed ops listed → (∀ e ∈ o.after, Region.binds .any e = true → listed.getD e.on false = true) → listed.getD i false = true) ∧ ∀ e ∈ o.after, Region.binds .any e = true → e.on < j := by
  have hlt := (Array.getElem?_eq_some_iff.1 ho).1
  unfold okTail at ht
  rw [Bool.and_eq_true] at ht
  have h1 := List.all_eq_true.1 ht.2 j (List.mem_range.2 hlt)
  rw [ho] at h1
  simp only [Bool.or_eq_true, decide_eq_true_eq, Bool.and_eq_true, List.all_eq_true, List.mem_range] at h1
  rcases h1 with h1 | ⟨h1, h2⟩
  · omega
  · refine ⟨fun i hi listed hc ha => mask_listed ht.1 hc j i o ho ha hi (h1 i hi), fun e he hb => ?_⟩
    · have := Array.all_eq_true'.1 h2 e he
      rw [hb] at this
      simpa using this
theorem any_tail {ms : List Nat} (haf : ∀ i o, ops[i]? = some o → i < m → ∀ e ∈ o.after, Region.binds .any e = true → e.on < i) (ht : okTail ops ms m = true) {Q : Exit → Act → World → Prop} : ∀ (d j : Nat), j + d = ops.size → m ≤ j → ∀ (fuel : Nat) (listed : Array Bool) (a : Act) (w : World), listed.size = ops.size → d ≤ fuel → (∀ i, i < ops.size → (listed.getD i true = true ↔ i < j)) →
    wpList P ops Q (ops.toList.drop j) a w → wpAny P .any ops Q fuel listed a w := by
  intro d
  induction d with
  | zero =>
    intro j hj hmj fuel listed a w hsz _ hl h
    refine wpAny_done ?_ ?_ fuel
    · rw [List.eq_nil_iff_forall_not_mem]
      intro i hi
      obtain ⟨h1, h2, _⟩ := ready_mem hi
      have := (hl i h1).2 (by omega)
      rw [this] at h2
      cases h2
    · rw [List.drop_of_length_le (by simp; omega)] at h
      exact h
  | succ d ih =>
    intro j hj hmj fuel listed a w hsz hf hl h
    obtain ⟨fuel, rfl⟩ : ∃ f, fuel = f + 1 := ⟨fuel - 1, by omega⟩
    have hlt : j < ops.size := by omega
    have hlt' : j < ops.toList.length := by simpa using hlt
    have ho : ops[j]? = some ops[j] := Array.getElem?_eq_getElem hlt
    have ho' : ops.toList[j] = ops[j] := by simp
    obtain ⟨_, haft⟩ := okTail_at ht ho hmj
    have hcl : Closed ops listed := fun i o ho hi e he hb => by
      have hlt := (Array.getElem?_eq_some_iff.1 ho).1
      have h1 := (hl i hlt).1 hi
      have h2 : e.on < i := by
        by_cases him : i < m
        · exact haf i o ho him e he hb
        · exact (okTail_at ht ho (by omega)).2 e he hb
      rw [getD_tf (by omega)]
      exact (hl e.on (by omega)).2 (by omega)
    have hjf : listed.getD j true = false := by
      cases hb : listed.getD j true with
      | false => rfl
      | true => have := (hl j hlt).1 hb; omega
    refine ⟨fun h0 => ?_, fun i hi => ?_⟩
    · have : j ∈ Region.ready .any ops listed := ready_of ho hjf (fun e he hb => by
        have := haft e he hb
        rw [getD_tf (by omega)]
        exact (hl e.on (by omega)).2 this)
      rw [h0] at this
      simp at this
    · obtain ⟨h1, h2, o, ho2, h3⟩ := ready_mem hi
      have hij : i = j := by
        have hge : ¬ i < j := fun hlt => by rw [(hl i h1).2 hlt] at h2; cases h2
        by_cases hgt : j < i
        · have := (okTail_at ht ho2 (by omega)).1 j hgt listed hcl h3
          rw [getD_tf (by omega), hjf] at this
          cases this
        · omega
      subst hij
      rw [List.drop_eq_getElem_cons hlt', ho'] at h
      have : wpOp P ops Q i (wpList P ops Q (ops.toList.drop (i + 1))) a w := by
        unfold wpOp
        rw [ho]
        unfold wpList at h
        exact h
      refine wpOp_mono (fun a' w' hk => ?_) this
      refine ih (i + 1) (by omega) (by omega) fuel _ a' w' (by simp [hsz]) (by omega) (fun q hq => ?_) hk
      rw [getD_set (by omega)]
      by_cases hqi : q = i
      · rw [if_pos hqi]; exact ⟨fun _ => by omega, fun _ => rfl⟩
      · rw [if_neg hqi, hl q hq]; omega
theorem any_from {ms : List Nat} (h : okRegion ops N m (bs.map (·.1)) = true) (ht : okTail ops ms m = true) (hI : ∀ w w', I w → Below w.heap.size w w' → I w') (hps : ∀ p ∈ ps, ∀ v w w', p v w → Below w.heap.size w w' → p v w') (hm : ps.length = m) (hmn : m ≤ ops.size)
    (step : ∀ i o, i < m → ops[i]? = some o → ∀ a w, St N bs a → I w → Pre ops N ps a w o → StepOk P ops o (told ps i) a w) {Q : Exit → Act → World → Prop}
    (hend : ∀ a w, St N bs a → I w → (∀ j, j < m → told ps j (sl a (dstOf ops N j)) w) → wpList P ops Q (ops.toList.drop m) a w) :
    ∀ (fuel : Nat) (listed : Array Bool) (a : Act) (w : World), listed.size = ops.size → left listed ≤ fuel → (∀ j, j < ops.size → m ≤ j → listed.getD j true = false) → Closed ops listed → St N bs a → I w → (∀ j, j < m → listed.getD j true = true → told ps j (sl a (dstOf ops N j)) w) → wpAny P .any ops Q fuel listed a w := by
  have haf : ∀ i o, ops[i]? = some o → i < m → ∀ e ∈ o.after, Region.binds .any e = true → e.on < i := fun i o ho hi => by
    obtain ⟨o', _, ho', _, _, _, _, _, haft⟩ := okRegion_at h hi
    have : o' = o := Option.some.inj (ho'.symm.trans ho)
    subst this
    exact haft
  intro fuel
  induction fuel with
  | zero =>
    intro listed a w hsz hf hl hcl hS hw hD
    have hall : ∀ i, i < ops.size → listed.getD i true = true := by
      intro i hi
      cases hb : listed.getD i true with
      | true => rfl
      | false => have := left_set (by omega) hb; omega
    have hmn' : m = ops.size := by
      by_cases hlt : m < ops.size
      · have := hl m hlt (Nat.le_refl _)
        rw [hall m hlt] at this
        cases this
      · omega
    have he := hend a w hS hw (fun j hj => hD j hj (hall j (by omega)))
    exact any_tail haf ht 0 m (by omega) (Nat.le_refl _) 0 listed a w hsz (Nat.le_refl _) (fun i hi => ⟨fun _ => by omega, fun _ => hall i hi⟩) he
  | succ fuel ih =>
    intro listed a w hsz hf hl hcl hS hw hD
    by_cases hfirst : ∀ j, j < m → listed.getD j true = true
    · have he := hend a w hS hw (fun j hj => hD j hj (hfirst j hj))
      by_cases hlt : ops.size - m ≤ fuel + 1
      · exact any_tail haf ht (ops.size - m) m (by omega) (Nat.le_refl _) (fuel + 1) listed a w hsz hlt (fun i hi => by
          by_cases him : i < m
          · exact ⟨fun _ => him, fun _ => hfirst i him⟩
          · rw [hl i hi (by omega)]
            simp [him]) he
      · exfalso
        have : ops.size - m ≤ left listed := by
          unfold left
          have h1 : (listed.toList.drop m).countP (fun b => !b) = ops.size - m := by
            rw [List.countP_eq_length.2]
            · simp [hsz]
            · intro b hb
              obtain ⟨k, hk, rfl⟩ := List.mem_iff_getElem.1 hb
              have hk' : m + k < listed.size := by simp at hk; omega
              have := hl (m + k) (by omega) (by omega)
              simp [Array.getD, hk'] at this
              simp [this]
          have h2 : listed.toList.countP (fun b => !b) = (listed.toList.take m).countP (fun b => !b) + (listed.toList.drop m).countP (fun b => !b) := by
            rw [← List.countP_append, List.take_append_drop]
          omega
        omega
    · refine ⟨fun h0 => ?_, fun i hi => ?_⟩
      · exfalso
        obtain ⟨j, hj⟩ : ∃ j, j < m ∧ listed.getD j true = false ∧ ∀ i, i < j → listed.getD i true = true := by
          have hex : ∃ j, j < m ∧ listed.getD j true = false := by
            simp only [Classical.not_forall] at hfirst
            obtain ⟨j, hj, hne⟩ := hfirst
            exact ⟨j, hj, by simpa using hne⟩
          obtain ⟨j, hj, hf'⟩ := hex
          clear hfirst
          revert hj hf'
          induction j using Nat.strongRecOn with
          | _ j ihj =>
            intro hj hf'
            by_cases hlow : ∀ i, i < j → listed.getD i true = true
            · exact ⟨j, hj, hf', hlow⟩
            · simp only [Classical.not_forall] at hlow
              obtain ⟨i, hi, hne⟩ := hlow
              exact ihj i hi (by omega) (by simpa using hne)
        obtain ⟨hjm, hjf, hlow⟩ := hj
        obtain ⟨o, d, ho, _, _, _, _, _, haft⟩ := okRegion_at h hjm
        have : j ∈ Region.ready .any ops listed := ready_of ho hjf (fun e he hb => by
          have := haft e he hb
          rw [getD_tf (by omega)]
          exact hlow _ this)
        rw [h0] at this
        simp at this
      · obtain ⟨h1, h2, o, ho, h3⟩ := ready_mem hi
        by_cases him : i < m
        · obtain ⟨o', d, ho', hd, hdN, hdi, hk, hlt, haft⟩ := okRegion_at h him
          have : o' = o := Option.some.inj (ho'.symm.trans ho)
          subst this
          have hpre : Pre ops N ps a w o' := fun e he hb => by
            have h4 := haft e he hb
            have h5 := h3 e he hb
            rw [getD_tf (by omega)] at h5
            exact hD e.on (by omega) h5
          have hs := step i o' him ho a w hS hw hpre
          have next : ∀ v w', Below w.heap.size w w' → told ps i v w' → wpAny P .any ops Q fuel (listed.setIfInBounds i true) (a.put o'.dst v) w' := by
            intro v w' hb hp
            obtain ⟨g1, g2, g3⟩ := step_keeps h hI hps hm hS hw him ho hb hp (D := fun j => listed.getD j true = true) (fun j hj hjl => hD j hj hjl)
            refine ih _ _ _ (by simp [hsz]) (by have := left_set (show i < listed.size by omega) h2; omega) (fun j hj hjm => ?_) ?_ g1 g2 (fun j hj hjl => g3 j hj ?_)
            · rw [getD_set (by omega), if_neg (by omega)]
              exact hl j hj hjm
            · intro q oq hoq hql e he hb
              have hqs := (Array.getElem?_eq_some_iff.1 hoq).1
              rw [getD_set (by omega)] at hql ⊢
              by_cases hei : e.on = i
              · rw [if_pos hei]
              · rw [if_neg hei]
                by_cases hqi : q = i
                · subst hqi
                  have : oq = o' := Option.some.inj (hoq.symm.trans ho)
                  subst this
                  exact h3 e he hb
                · rw [if_neg hqi] at hql
                  exact hcl q oq hoq hql e he hb
            · rw [getD_set (by omega)] at hjl
              by_cases hji : j = i
              · exact .inr hji
              · rw [if_neg hji] at hjl
                exact .inl hjl
          unfold wpOp
          rw [ho]
          show if Region.wanted o' (yielded ops a.tmps) = true then _ else _
          rcases hs with ⟨hw1, hdo⟩ | ⟨hw1, hp⟩
          · rw [if_pos hw1]
            exact .inl (hdo _ _ (fun v w' hv => next v w' hv.1 hv.2))
          · rw [if_neg (by rw [hw1]; simp)]
            exact next undef w (Below.refl _ _) hp
        · exfalso
          apply hfirst
          intro j hj
          have h5 := (okTail_at ht ho (by omega)).1 j (by omega) listed hcl h3
          rw [getD_tf (by omega)] at h5
          exact h5
theorem wp_any_region {id : Nat} {ms : List Nat} (hmo : P.follows .mixedOrders = true) (h : okRegion ops N m (bs.map (·.1)) = true) (ht : okTail ops ms m = true) (hI : ∀ w w', I w → Below w.heap.size w w' → I w') (hps : ∀ p ∈ ps, ∀ v w w', p v w → Below w.heap.size w w' → p v w') (hm : ps.length = m) (hmn : m ≤ ops.size)
    (step : ∀ i o, i < m → ops[i]? = some o → ∀ a w, St N bs a → I w → Pre ops N ps a w o → StepOk P ops o (told ps i) a w) {Q : Exit → Act → World → Prop}
    (hend : ∀ a w, St N bs a → I w → (∀ j, j < m → told ps j (sl a (dstOf ops N j)) w) → wpList P ops Q (ops.toList.drop m) a w) {a : Act} {w : World} (hS : St N bs a) (hw : I w) : (Code.region id ops true).wp P Q a w := by
  refine wp_region_any hmo ?_
  refine any_from h ht hI hps hm hmn step hend ops.size _ a _ (by simp) (Nat.le_trans List.countP_le_length (by simp)) (fun j hj _ => by simp [Array.getD, hj]) (fun i o ho hi => by
    have hlt := (Array.getElem?_eq_some_iff.1 ho).1
    simp [Array.getD, hlt] at hi) hS (hI w _ hw (Below.refl _ _).drew) (fun j hj hl => ?_)
  have : j < ops.size := by omega
  simp [Array.getD, this] at hl
end
end Go.Proofs.Ytiomlbkakiienaa.E
set_option linter.unusedVariables false
set_option linter.unusedSimpArgs false
namespace Go.Proofs.Ytiomlbkakiienaa.E
open Go Go.RowKit Go.Proofs.YtiomlbkakiienaaW.PrintWords Go.Proofs.YtiomlbkakiienaaW.PrintLast Go.Proofs.YtiomlbkakiienaaW.PrintMore
section
variable {P : Program} {ops : Array Oper} {N : Nat} {o : Oper} {a : Act} {w : World} {p : Told} {ρ : Operand → Value}
theorem ok_on (hg : o.guard = none) (h : Does P o a w (fun v w' => Below w.heap.size w w' ∧ p v w')) : StepOk P ops o p a w := .inl ⟨by simp [Region.wanted, hg], h⟩
theorem wanted_of {g d : Nat} {b c : Bool} (hg : o.guard = some (g, b)) (hd : (ops[g]?).bind (·.dst) = some d) (hN : d < a.tmps.size) (hv : sl a d = .bool c) : Region.wanted o (yielded ops a.tmps) = (c == b) := by
  have h1 : a.tmps[d]? = some (.bool c) := by
    rw [Array.getElem?_eq_getElem hN, ← hv]
    simp [sl, Array.getD, hN]
  simp only [Region.wanted, hg, yielded, hd, Option.bind_some, h1]
  cases b <;> cases c <;> rfl
theorem ok_if {g d : Nat} {b : Bool} (hg : o.guard = some (g, b)) (hd : (ops[g]?).bind (·.dst) = some d) (hN : d < a.tmps.size) (hv : sl a d = .bool b) (h : Does P o a w (fun v w' => Below w.heap.size w w' ∧ p v w')) : StepOk P ops o p a w :=
  .inl ⟨by rw [wanted_of hg hd hN hv]; cases b <;> rfl, h⟩
theorem ok_off {g d : Nat} {b : Bool} (hg : o.guard = some (g, b)) (hd : (ops[g]?).bind (·.dst) = some d) (hN : d < a.tmps.size) (hv : sl a d = .bool (!b)) (h : p undef w) : StepOk P ops o p a w :=
  .inr ⟨by rw [wanted_of hg hd hN hv]; cases b <;> rfl, h⟩
theorem does_val {v : Value} (hr : (execOp a.eval o).run P w = .ok (.value v) w) (hp : p v w) : Does P o a w (fun v w' => Below w.heap.size w w' ∧ p v w') := fun K Q hk => by
  unfold Oper.wp
  rw [hr, Oper.upon_value]
  exact hk v w ⟨Below.refl _ _, hp⟩
theorem does_new {v : Value} {w' : World} (hr : (execOp a.eval o).run P w = .ok (.value v) w') (hb : Below w.heap.size w w') (hp : p v w') : Does P o a w (fun v w' => Below w.heap.size w w' ∧ p v w') := fun K Q hk => by
  unfold Oper.wp
  rw [hr, Oper.upon_value]
  exact hk v w' ⟨hb, hp⟩
theorem x_move {x : Operand} {v : Value} (ho : o.op = .move x) (hx : ρ x = v) : (execOp ρ o).run P w = .ok (.value v) w := by simp [execOp, ho, hx]
theorem x_assign {x : Operand} {v : Value} (ho : o.op = .assign x) (hx : ρ x = v) : (execOp ρ o).run P w = .ok (.value v) w := by simp [execOp, ho, hx]
theorem x_pickT {c x y : Operand} {v : Value} (ho : o.op = .pick c x y) (hc : ρ c = .bool true) (hx : ρ x = v) : (execOp ρ o).run P w = .ok (.value v) w := by simp [execOp, ho, hx, hc, asBool, go_sem]
theorem x_pickF {c x y : Operand} {v : Value} (ho : o.op = .pick c x y) (hc : ρ c = .bool false) (hy : ρ y = v) : (execOp ρ o).run P w = .ok (.value v) w := by simp [execOp, ho, hy, hc, asBool, go_sem]
theorem x_bin {op : BinOp} {t t' : TypeId} {x y : Operand} {vx vy v : Value} (ho : o.op = .binOp op t x y t') (hx : ρ x = vx) (hy : ρ y = vy)
    (hv : (do eqGuard op t x y vx vy; binOp op t vx vy : Sem Value).run P w = .ok v w) : (execOp ρ o).run P w = .ok (.value v) w := by
  simp only [execOp, ho, hx, hy]
  rw [Sem.run_bind, hv]
  rfl
theorem b_lss (t : TypeId) (x y : Operand) (k : IntKind) (m n : Int) : (do eqGuard .lss t x y (.int k m) (.int k n); binOp .lss t (.int k m) (.int k n) : Sem Value).run P w = .ok (.bool (decide (m < n))) w := by simp [eqGuard, binOp, go_sem]
theorem b_gtr (t : TypeId) (x y : Operand) (k : IntKind) (m n : Int) : (do eqGuard .gtr t x y (.int k m) (.int k n); binOp .gtr t (.int k m) (.int k n) : Sem Value).run P w = .ok (.bool (decide (m > n))) w := by simp [eqGuard, binOp, go_sem]
theorem b_eql (t : TypeId) (x y : Operand) (k : IntKind) (m n : Int) : (do eqGuard .eql t x y (.int k m) (.int k n); binOp .eql t (.int k m) (.int k n) : Sem Value).run P w = .ok (.bool (decide (m = n))) w := by simp [eqGuard, binOp, go_sem]; rfl
theorem b_neq (t : TypeId) (x y : Operand) (k : IntKind) (m n : Int) : (do eqGuard .neq t x y (.int k m) (.int k n); binOp .neq t (.int k m) (.int k n) : Sem Value).run P w = .ok (.bool (!decide (m = n))) w := by simp [eqGuard, binOp, go_sem]; rfl
theorem b_add (t : TypeId) (x y : Operand) (m n : Int) : (do eqGuard .add t x y (.int .i64 m) (.int .i64 n); binOp .add t (.int .i64 m) (.int .i64 n) : Sem Value).run P w = .ok (.int .i64 (wrap64 (m + n))) w := by simp [eqGuard, binOp, go_sem, i64_w]
theorem b_sub (t : TypeId) (x y : Operand) (m n : Int) : (do eqGuard .sub t x y (.int .i64 m) (.int .i64 n); binOp .sub t (.int .i64 m) (.int .i64 n) : Sem Value).run P w = .ok (.int .i64 (wrap64 (m - n))) w := by simp [eqGuard, binOp, go_sem, i64_w]
theorem b_rem (t : TypeId) (x y : Operand) (k : IntKind) (m n : Int) (h : n ≠ 0) : (do eqGuard .rem t x y (.int k m) (.int k n); binOp .rem t (.int k m) (.int k n) : Sem Value).run P w = .ok (.int k (Int.tmod m n)) w := by simp [eqGuard, binOp, go_sem, h]
theorem b_and (t : TypeId) (x y : Operand) (k : IntKind) (m n : Int) : (do eqGuard .and t x y (.int k m) (.int k n); binOp .and t (.int k m) (.int k n) : Sem Value).run P w = .ok (.int k (Go.bits .and k m n)) w := by simp [eqGuard, binOp, go_sem]
theorem b_adds (t : TypeId) (x y : Operand) (m n : ByteArray) (h : m.size + n.size ≤ 9223372036854775807) : (do eqGuard .add t x y (.string m) (.string n); binOp .add t (.string m) (.string n) : Sem Value).run P w = .ok (.string (m ++ n)) w := by simp [eqGuard, binOp, Op.stringOp, go_sem]; omega
theorem x_not {t : TypeId} {x : Operand} {b : Bool} (ho : o.op = .unOp .not t x) (hx : ρ x = .bool b) : (execOp ρ o).run P w = .ok (.value (.bool (!b))) w := by simp [execOp, ho, hx, go_sem]
theorem x_extract {x : Operand} {i : Nat} {vs : Array Value} {v : Value} (ho : o.op = .extract x i) (hx : ρ x = .tuple vs) (hv : vs[i]? = some v) : (execOp ρ o).run P w = .ok (.value v) w := by simp [execOp, ho, hx, Instr.extract, hv, go_sem]
theorem x_convI {src dst : TypeId} {x : Operand} {k k' : IntKind} {n : Int} (ho : o.op = .convert src dst x) (hs : P.underlying src = some (.int k)) (hd : P.underlying dst = some (.int k')) (hx : ρ x = .int k n) : (execOp ρ o).run P w = .ok (.value (.int k' (k'.wrap n))) w := by
  simp [execOp, ho, hx, convert, run_underlying hs, run_underlying hd, go_sem]
theorem x_len {x : Operand} {t e : TypeId} {A : Option Addr} {n c : Nat} (ho : o.op = .call { callee := .builtin .len, args := #[x], argTypes := #[t] }) (ht : P.underlying t = some (.slice e)) (hx : ρ x = .slice A n c) : (execOp ρ o).run P w = .ok (.value (.int .i64 n)) w := by
  simp [execOp, ho, hx, resolve, invoke, builtin, Builtin.len_, run_underlying ht, go_sem]
theorem x_lenS {x : Operand} {t : TypeId} {s : ByteArray} (ho : o.op = .call { callee := .builtin .len, args := #[x], argTypes := #[t] }) (ht : P.underlying t = some .string) (hx : ρ x = .string s) : (execOp ρ o).run P w = .ok (.value (.int .i64 s.size)) w := by
  simp [execOp, ho, hx, resolve, invoke, builtin, Builtin.len_, run_underlying ht, go_sem]
theorem x_conv {src dst : TypeId} {x : Operand} {v u : Value} (ho : o.op = .convert src dst x) (hx : ρ x = v) (hr : (convert src dst v).run P w = .ok u w) : (execOp ρ o).run P w = .ok (.value u) w := by
  simp only [execOp, ho, hx]
  rw [Sem.run_bind, hr]
  rfl
theorem x_slice {t : TypeId} {x : Operand} {lo hi : Option Operand} {v u : Value} {l h : Option Value} (ho : o.op = .slice t x lo hi none) (hx : ρ x = v) (hl : lo.map ρ = l) (hh : hi.map ρ = h) (hr : (Instr.slice t v l h none).run P w = .ok u w) (ht : ∀ n e, P.underlying t ≠ some (.array n e)) (hu : (P.underlying t).isSome = true) : (execOp ρ o).run P w = .ok (.value u) w := by
  obtain ⟨d, hd⟩ := Option.isSome_iff_exists.1 hu
  simp only [execOp, ho, hx, hl, hh, Option.map_none, Instr.sliceAt]
  rw [Sem.run_bind, Sem.run_bind, run_underlying hd]
  cases d <;> first | (simp only [Result.andThen_ok]; rw [hr]; rfl) | exact absurd hd (ht _ _)
theorem x_index {t e : TypeId} {x y : Operand} {ad : Addr} {n c sz : Nat} {k : IntKind} {i : Int} (ho : o.op = .indexAddr t x y) (hx : ρ x = .slice (some ad) n c) (hy : ρ y = .int k i) (ht : P.underlying t = some (.slice e)) (hs : (P.info? e).map (·.size) = some sz) (h0 : 0 ≤ i) (h1 : i < n) : (execOp ρ o).run P w = .ok (.value (.pointer (some (ad.add (i.toNat * sz))))) w := by
  obtain ⟨f, hf, rfl⟩ := Option.map_eq_some_iff.1 hs
  simp only [execOp, ho, hx, hy]
  simp [Instr.indexAt, run_underlying ht, asIntOf, sizeOf, typeInfo, hf, h0, h1, go_sem]
theorem x_load1 {t : TypeId} {x : Operand} {ad : Addr} {v : Value} {d : TypeDesc} (ho : o.op = .load t x) (hx : ρ x = .pointer (some ad)) (hu : P.underlying t = some d) (hd : (match d with | .struct _ | .array _ _ => true | _ => false) = false) (hc : w.cell? ad = some v) : (execOp ρ o).run P w = .ok (.value v) w := by
  have hag : (isAgg t).run P w = .ok false w := by
    unfold isAgg
    rw [Sem.run_bind, run_underlying hu w]
    cases d <;> simp_all
  simp [execOp, ho, hx, Instr.loadAt, Instr.sureAddr, loadVar, Sem.run_bind, hag, hc, go_sem]
theorem x_build {t : TypeId} {parts : Array (Nat × Operand)} {vs : List (Nat × Value)} {cs : Array Value} (ho : o.op = .build t parts) (hv : (parts.map fun (i, x) => (i, ρ x)).toList = vs) (hb : P.built t vs = some cs) : (execOp ρ o).run P w = .ok (.value (.agg cs)) w := by
  simp only [execOp, ho]
  rw [Sem.run_bind, run_build w t _ cs (by rw [hv]; exact hb)]
  rfl
theorem does_loadrow {t ty : TypeId} {x : Operand} {g : Nat} {cs : Array Value} {d : TypeDesc} (ho : o.op = .load ty x) (hx : a.eval x = .pointer (some ⟨g, 0, none⟩)) (hg : w.heap[g]? = some (.cells cs t (0, 0)))
    (hu : P.underlying ty = some d) (hd : (match d with | .struct _ | .array _ _ => true | _ => false) = true) (hi : (P.info? ty).map (·.size) = some cs.size) (hp : p (.agg cs) w) : Does P o a w (fun v w' => Below w.heap.size w w' ∧ p v w') :=
  fun K Q hk => wp_load_row ty x ho g hx t cs (0, 0) d hg hu hd hi (hk _ _ ⟨Below.refl _ _, hp⟩)
theorem does_storerow {t ty : TypeId} {x y : Operand} {g : Nat} {cs old : Array Value} (ho : o.op = .store ty x y) (hx : a.eval x = .pointer (some ⟨g, 0, none⟩)) (hy : a.eval y = .agg cs) (hg : w.heap[g]? = some (.cells old t (0, 0)))
    (hi : (P.info? ty).map (·.size) = some cs.size) (hold : old.size = cs.size) (h1 : cs.all (·.oneCell') = true) : Does P o a w (fun v w' => v = undef ∧ w' = w.setRow g cs) :=
  fun K Q hk => wp_store_row ty x y ho g cs hx hy t old hg hi hold h1 (hk _ _ ⟨rfl, rfl⟩)
theorem does_box {cs : Array Value} {t : TypeId} (hr : (execOp a.eval o).run P w = .ok (.value (.pointer (some ⟨w.heap.size, 0, none⟩))) (w.alloc (.cells cs t (0, 0)))) : Does P o a w (fun v w' => Below w.heap.size w w' ∧ ∃ g, v = .pointer (some ⟨g, 0, none⟩) ∧ w.heap.size ≤ g ∧ w'.heap[g]? = some (.cells cs t (0, 0))) := fun K Q hk => by
  unfold Oper.wp
  rw [hr, Oper.upon_value]
  exact hk _ _ ⟨below_alloc (Below.refl _ _) _, _, rfl, Nat.le_refl _, blk_new w _⟩
theorem does_call {f : FuncId} {xs vs : Array Value} {R : Value → World → Prop} (hr : (execOp a.eval o).run P w = .ok (.enter f xs) w) (hx : xs = vs) (hc : Calls P f vs w fun e w' => ∃ v, e = .returned v ∧ R v w') : Does P o a w R := fun K Q hk => by
  subst hx
  unfold Oper.wp
  rw [hr, Oper.upon_enter]
  refine hc.mono ?_
  rintro e w' ⟨v, rfl, hR⟩
  exact hk v w' hR
theorem does_of_list {R : Value → World → Prop} (h : ∀ (ops : Array Oper) (Q : Exit → Act → World → Prop) (rest : List Oper), (∀ v w', R v w' → wpList P ops Q rest (a.put o.dst v) w') → wpList P ops Q ({ o with guard := none } :: rest) a w) : Does P o a w R := fun K Q hk => by
  let Q0 : Exit → Act → World → Prop := fun e a w => match e with | .normal => K a w | .outgrown => False | e => Q e a w
  have h1 := h #[] Q0 [] (fun v w' hv => hk v w' hv)
  unfold wpList at h1
  rw [if_pos (by simp [Region.wanted])] at h1
  have hno : ¬ LetsOut Q0 := fun ⟨_, _, hq⟩ => hq
  have h2 : ({ o with guard := none } : Oper).wp P a w K Q0 := h1.resolve_right (fun hh => hno hh.2)
  have h3 : o.wp P a w K Q0 := h2
  unfold Oper.wp at h3 ⊢
  generalize (execOp a.eval o).run P w = r at *
  cases r with
  | ok n w' =>
    cases n <;> simp only [Oper.upon] at h3 ⊢ <;>
      first
        | exact h3
        | exact Calls.mono h3 (fun e w'' he => by cases e <;> first | exact he | exact absurd he hno)
  | halt x w' => cases x <;> simp only [Oper.upon] at h3 ⊢ <;> exact h3
theorem list_step {Q : Exit → Act → World → Prop} {rest : List Oper} {R : Value → World → Prop} (hg : o.guard = none) (hd : Does P o a w R) (h : ∀ v w', R v w' → wpList P ops Q rest (a.put o.dst v) w') : wpList P ops Q (o :: rest) a w :=
  wpList_plain hg fun K hK => hd K Q fun v w' hv => hK _ _ (h v w' hv)
end
theorem St.put {N : Nat} {bs : List (Nat × Value)} {a : Act} (h : St N bs a) {d : Nat} {v : Value} (hd : d < N) (hk : (bs.all fun p => p.1 != d) = true) : St N ((d, v) :: bs) (a.put (some d) v) := by
  refine ⟨by rw [put_size]; exact h.size, by rw [put_def]; exact h.nodef, fun p hp => ?_⟩
  rcases List.mem_cons.1 hp with rfl | hp
  · exact sl_same (by rw [h.size]; exact hd)
  · have := List.all_eq_true.1 hk p hp
    rw [sl_put (by simpa using this)]
    exact h.tell p hp
theorem St.next {P : Program} {ops : Array Oper} {Q : Exit → Act → World → Prop} {rest : List Oper} {N : Nat} {bs : List (Nat × Value)} {a : Act} (hS : St N bs a) {dst : Option Nat} {d : Nat} {v : Value} {w : World} (ho : dst = some d) (hd : d < N) (hk : (bs.all fun p => p.1 != d) = true)
    (h : ∀ a', St N ((d, v) :: bs) a' → wpList P ops Q rest a' w) : wpList P ops Q rest (a.put dst v) w := by
  subst ho
  exact h _ (hS.put hd hk)
theorem St.nil {N : Nat} {bs : List (Nat × Value)} {a : Act} (h : St N bs a) : St N [] a := ⟨h.size, h.nodef, fun p hp => by cases hp⟩
theorem St.cons {N : Nat} {bs : List (Nat × Value)} {a : Act} (h : St N bs a) {d : Nat} {v : Value} (hv : sl a d = v) : St N ((d, v) :: bs) a := ⟨h.size, h.nodef, fun p hp => by
  rcases List.mem_cons.1 hp with rfl | hp
  · exact hv
  · exact h.tell p hp⟩
theorem bR (w : World) : Below w.heap.size w w := Below.refl _ _
abbrev I1_ (w1 : World) : World → Prop := fun x => Below w1.heap.size w1 x
theorem bs1 {w1 : World} : ∀ x y, I1_ w1 x → Below x.heap.size x y → I1_ w1 y := fun _ _ h hb => below_step h hb
abbrev I2_ (w1 w2 : World) : World → Prop := fun x => Below w1.heap.size w1 x ∧ Below w2.heap.size w2 x
theorem bs2 {w1 w2 : World} : ∀ x y, I2_ w1 w2 x → Below x.heap.size x y → I2_ w1 w2 y := fun _ _ h hb => ⟨below_step h.1 hb, below_step h.2 hb⟩
abbrev I3_ (w1 w2 w3 : World) : World → Prop := fun x => Below w1.heap.size w1 x ∧ Below w2.heap.size w2 x ∧ Below w3.heap.size w3 x
theorem bs3 {w1 w2 w3 : World} : ∀ x y, I3_ w1 w2 w3 x → Below x.heap.size x y → I3_ w1 w2 w3 y := fun _ _ h hb => ⟨below_step h.1 hb, below_step h.2.1 hb, below_step h.2.2 hb⟩
abbrev I4_ (w1 w2 w3 w4 : World) : World → Prop := fun x => Below w1.heap.size w1 x ∧ Below w2.heap.size w2 x ∧ Below w3.heap.size w3 x ∧ Below w4.heap.size w4 x
theorem bs4 {w1 w2 w3 w4 : World} : ∀ x y, I4_ w1 w2 w3 w4 x → Below x.heap.size x y → I4_ w1 w2 w3 w4 y := fun _ _ h hb => ⟨below_step h.1 hb, below_step h.2.1 hb, below_step h.2.2.1 hb, below_step h.2.2.2 hb⟩
abbrev I5_ (w1 w2 w3 w4 w5 : World) : World → Prop := fun x => Below w1.heap.size w1 x ∧ Below w2.heap.size w2 x ∧ Below w3.heap.size w3 x ∧ Below w4.heap.size w4 x ∧ Below w5.heap.size w5 x
theorem bs5 {w1 w2 w3 w4 w5 : World} : ∀ x y, I5_ w1 w2 w3 w4 w5 x → Below x.heap.size x y → I5_ w1 w2 w3 w4 w5 y := fun _ _ h hb => ⟨below_step h.1 hb, below_step h.2.1 hb, below_step h.2.2.1 hb, below_step h.2.2.2.1 hb, below_step h.2.2.2.2 hb⟩
abbrev I6_ (w1 w2 w3 w4 w5 w6 : World) : World → Prop := fun x => Below w1.heap.size w1 x ∧ Below w2.heap.size w2 x ∧ Below w3.heap.size w3 x ∧ Below w4.heap.size w4 x ∧ Below w5.heap.size w5 x ∧ Below w6.heap.size w6 x
theorem bs6 {w1 w2 w3 w4 w5 w6 : World} : ∀ x y, I6_ w1 w2 w3 w4 w5 w6 x → Below x.heap.size x y → I6_ w1 w2 w3 w4 w5 w6 y := fun _ _ h hb => ⟨below_step h.1 hb, below_step h.2.1 hb, below_step h.2.2.1 hb, below_step h.2.2.2.1 hb, below_step h.2.2.2.2.1 hb, below_step h.2.2.2.2.2 hb⟩
abbrev I7_ (w1 w2 w3 w4 w5 w6 w7 : World) : World → Prop := fun x => Below w1.heap.size w1 x ∧ Below w2.heap.size w2 x ∧ Below w3.heap.size w3 x ∧ Below w4.heap.size w4 x ∧ Below w5.heap.size w5 x ∧ Below w6.heap.size w6 x ∧ Below w7.heap.size w7 x
theorem bs7 {w1 w2 w3 w4 w5 w6 w7 : World} : ∀ x y, I7_ w1 w2 w3 w4 w5 w6 w7 x → Below x.heap.size x y → I7_ w1 w2 w3 w4 w5 w6 w7 y := fun _ _ h hb => ⟨below_step h.1 hb, below_step h.2.1 hb, below_step h.2.2.1 hb, below_step h.2.2.2.1 hb, below_step h.2.2.2.2.1 hb, below_step h.2.2.2.2.2.1 hb, below_step h.2.2.2.2.2.2 hb⟩
abbrev I8_ (w1 w2 w3 w4 w5 w6 w7 w8 : World) : World → Prop := fun x => Below w1.heap.size w1 x ∧ Below w2.heap.size w2 x ∧ Below w3.heap.size w3 x ∧ Below w4.heap.size w4 x ∧ Below w5.heap.size w5 x ∧ Below w6.heap.size w6 x ∧ Below w7.heap.size w7 x ∧ Below w8.heap.size w8 x
theorem bs8 {w1 w2 w3 w4 w5 w6 w7 w8 : World} : ∀ x y, I8_ w1 w2 w3 w4 w5 w6 w7 w8 x → Below x.heap.size x y → I8_ w1 w2 w3 w4 w5 w6 w7 w8 y := fun _ _ h hb => ⟨below_step h.1 hb, below_step h.2.1 hb, below_step h.2.2.1 hb, below_step h.2.2.2.1 hb, below_step h.2.2.2.2.1 hb, below_step h.2.2.2.2.2.1 hb, below_step h.2.2.2.2.2.2.1 hb, below_step h.2.2.2.2.2.2.2 hb⟩
abbrev I9_ (w1 w2 w3 w4 w5 w6 w7 w8 w9 : World) : World → Prop := fun x => Below w1.heap.size w1 x ∧ Below w2.heap.size w2 x ∧ Below w3.heap.size w3 x ∧ Below w4.heap.size w4 x ∧ Below w5.heap.size w5 x ∧ Below w6.heap.size w6 x ∧ Below w7.heap.size w7 x ∧ Below w8.heap.size w8 x ∧ Below w9.heap.size w9 x
theorem bs9 {w1 w2 w3 w4 w5 w6 w7 w8 w9 : World} : ∀ x y, I9_ w1 w2 w3 w4 w5 w6 w7 w8 w9 x → Below x.heap.size x y → I9_ w1 w2 w3 w4 w5 w6 w7 w8 w9 y := fun _ _ h hb => ⟨below_step h.1 hb, below_step h.2.1 hb, below_step h.2.2.1 hb, below_step h.2.2.2.1 hb, below_step h.2.2.2.2.1 hb, below_step h.2.2.2.2.2.1 hb, below_step h.2.2.2.2.2.2.1 hb, below_step h.2.2.2.2.2.2.2.1 hb, below_step h.2.2.2.2.2.2.2.2 hb⟩
abbrev I10_ (w1 w2 w3 w4 w5 w6 w7 w8 w9 w10 : World) : World → Prop := fun x => Below w1.heap.size w1 x ∧ Below w2.heap.size w2 x ∧ Below w3.heap.size w3 x ∧ Below w4.heap.size w4 x ∧ Below w5.heap.size w5 x ∧ Below w6.heap.size w6 x ∧ Below w7.heap.size w7 x ∧ Below w8.heap.size w8 x ∧ Below w9.heap.size w9 x ∧ Below w10.heap.size w10 x
theorem bs10 {w1 w2 w3 w4 w5 w6 w7 w8 w9 w10 : World} : ∀ x y, I10_ w1 w2 w3 w4 w5 w6 w7 w8 w9 w10 x → Below x.heap.size x y → I10_ w1 w2 w3 w4 w5 w6 w7 w8 w9 w10 y := fun _ _ h hb => ⟨below_step h.1 hb, below_step h.2.1 hb, below_step h.2.2.1 hb, below_step h.2.2.2.1 hb, below_step h.2.2.2.2.1 hb, below_step h.2.2.2.2.2.1 hb, below_step h.2.2.2.2.2.2.1 hb, below_step h.2.2.2.2.2.2.2.1 hb, below_step h.2.2.2.2.2.2.2.2.1 hb, below_step h.2.2.2.2.2.2.2.2.2 hb⟩
def IsV (u : Value) : Told := fun v _ => v = u
def IsR {α : Type} (d : Kd α) (e B : Nat) (xs : List α) : Told := fun v w => Kd.R d e w B (fun _ => True) v xs
def IsB (cs : Array Value) (t : TypeId) (B : Nat) : Told := fun v w => ∃ g, v = .pointer (some ⟨g, 0, none⟩) ∧ B ≤ g ∧ w.heap[g]? = some (.cells cs t (0, 0))
def Any : Told := fun _ _ => True
abbrev Stays (p : Told) : Prop := ∀ v w w', p v w → Below w.heap.size w w' → p v w'
theorem Stays.v (u : Value) : Stays (IsV u) := fun _ _ _ h _ => h
theorem Stays.any : Stays Any := fun _ _ _ h _ => h
theorem Stays.r {α : Type} (d : Kd α) (e B : Nat) (xs : List α) : Stays (IsR d e B xs) := fun _ _ _ h hb => Kd.R_below h hb
theorem Stays.b (cs : Array Value) (t : TypeId) (B : Nat) : Stays (IsB cs t B) := fun _ _ _ ⟨g, h1, h2, h3⟩ hb => ⟨g, h1, h2, (hb.block g (blk_lt h3)).trans h3⟩
inductive AllStay : List Told → Prop
  | nil : AllStay []
  | cons {p : Told} {ps : List Told} : Stays p → AllStay ps → AllStay (p :: ps)
theorem AllStay.out : ∀ {ps : List Told}, AllStay ps → ∀ p ∈ ps, ∀ v w w', p v w → Below w.heap.size w w' → p v w'
  | _, .nil, p, hp => by cases hp
  | _, .cons h hs, p, hp => by
    rcases List.mem_cons.1 hp with rfl | hp
    · exact h
    · exact hs.out p hp
inductive Steps (P : Program) (ops : Array Oper) (N : Nat) (bs : List (Nat × Value)) (I : World → Prop) (ps0 : List Told) : List Oper → List Told → Prop
  | nil {os : List Oper} : Steps P ops N bs I ps0 os []
  | cons {o : Oper} {os : List Oper} {p : Told} {ps : List Told} : (∀ a w, St N bs a → I w → Pre ops N ps0 a w o → StepOk P ops o p a w) → Steps P ops N bs I ps0 os ps → Steps P ops N bs I ps0 (o :: os) (p :: ps)
theorem Steps.out {P : Program} {ops : Array Oper} {N : Nat} {bs : List (Nat × Value)} {I : World → Prop} {ps0 : List Told} : ∀ {os : List Oper} {ps : List Told}, Steps P ops N bs I ps0 os ps → ∀ i o, i < ps.length → os[i]? = some o → ∀ a w, St N bs a → I w → Pre ops N ps0 a w o → StepOk P ops o (told ps i) a w
  | _, _, .nil, i, o, hi, _ => by simp at hi
  | _, _, .cons h hs, i, o, hi, ho => by
    cases i with
    | zero =>
      simp only [List.getElem?_cons_zero, Option.some.injEq] at ho
      subst ho
      exact h
    | succ i =>
      simp only [List.getElem?_cons_succ] at ho
      have := hs.out i o (by simpa using hi) ho
      simpa [told] using this
theorem Steps.on {P : Program} {ops : Array Oper} {N : Nat} {bs : List (Nat × Value)} {I : World → Prop} {ps0 : List Told} {o : Oper} {os : List Oper} {p : Told} {ps : List Told} (hg : o.guard = none)
    (h : ∀ a w, St N bs a → I w → Pre ops N ps0 a w o → Does P o a w (fun v w' => Below w.heap.size w w' ∧ p v w')) (hs : Steps P ops N bs I ps0 os ps) : Steps P ops N bs I ps0 (o :: os) (p :: ps) := .cons (fun a w h1 h2 h3 => ok_on hg (h a w h1 h2 h3)) hs
theorem Steps.of {P : Program} {ops : Array Oper} {N : Nat} {bs : List (Nat × Value)} {I : World → Prop} {ps0 : List Told} {o : Oper} {os : List Oper} {p : Told} {ps : List Told}
    (h : ∀ a w, St N bs a → I w → Pre ops N ps0 a w o → StepOk P ops o p a w) (hs : Steps P ops N bs I ps0 os ps) : Steps P ops N bs I ps0 (o :: os) (p :: ps) := .cons h hs
theorem AllStay.v {u : Value} {ps : List Told} (h : AllStay ps) : AllStay (IsV u :: ps) := .cons (Stays.v u) h
section
variable {P : Program} {ops : Array Oper} {o : Oper} {a : Act} {w : World} {p : Told} {N : Nat} {bs : List (Nat × Value)}
theorem ok_y {g d : Nat} {b : Bool} (hS : St N bs a) (hg : o.guard = some (g, b)) (hd : (ops[g]?).bind (·.dst) = some d) (hN : Nat.blt d N = true) (hv : sl a d = .bool b) (h : Does P o a w (fun v w' => Below w.heap.size w w' ∧ p v w')) : StepOk P ops o p a w :=
  ok_if hg hd (by rw [hS.size]; simpa using hN) hv h
theorem ok_n {g d : Nat} {b : Bool} (hS : St N bs a) (hg : o.guard = some (g, b)) (hd : (ops[g]?).bind (·.dst) = some d) (hN : Nat.blt d N = true) (hv : sl a d = .bool (!b)) (h : p undef w) : StepOk P ops o p a w :=
  ok_off hg hd (by rw [hS.size]; simpa using hN) hv h
theorem Pre.g {ps : List Told} (h : Pre ops N ps a w o) (j : Nat) {p : Told} {d : Nat} (hj : (o.after.toList.any fun e => Region.binds .any e && e.on == j) = true := by rfl) (hp : ps[j]? = some p := by rfl) (hd : dstOf ops N j = d := by rfl) : p (sl a d) w := h.get j hj hp hd
end
section
variable {P : Program} {ops : Array Oper} {N : Nat} {bs : List (Nat × Value)} {I : World → Prop} {ps0 : List Told} {o : Oper} {os : List Oper} {p : Told} {ps : List Told}
abbrev VU : Told := IsV undef
abbrev VB (b : Bool) : Told := IsV (.bool b)
abbrev VI (x : Int) : Told := IsV (.int .i64 x)
abbrev VP (g n : Nat) : Told := IsV (.pointer (some ⟨g, n, none⟩))
theorem Pre.V {a : Act} {w : World} (h : Pre ops N ps0 a w o) (j : Nat) {q : Told} {d : Nat} (hp : ps0[j]? = some q) (hd : dstOf ops N j = d) (hj : (o.after.toList.any fun e => Region.binds .any e && e.on == j) = true := by rfl) : q (sl a d) w := h.get j hj hp hd
theorem Steps.mv (j : Nat) {d : Nat} {v : Value} (hg : o.guard = none) (ho : o.op = .move (.tmp d)) (hp : ps0[j]? = some (IsV v)) (rest : Steps P ops N bs I ps0 os ps) (hd : dstOf ops N j = d := by rfl) (hj : (o.after.toList.any fun e => Region.binds .any e && e.on == j) = true := by rfl) : Steps P ops N bs I ps0 (o :: os) (IsV v :: ps) :=
  .on hg (fun _ _ _ _ h => does_val (x_move ho (h.get j hj hp hd)) rfl) rest
theorem Steps.asg (j : Nat) {d : Nat} {v : Value} (hg : o.guard = none) (ho : o.op = .assign (.tmp d)) (hp : ps0[j]? = some (IsV v)) (rest : Steps P ops N bs I ps0 os ps) (hd : dstOf ops N j = d := by rfl) (hj : (o.after.toList.any fun e => Region.binds .any e && e.on == j) = true := by rfl) : Steps P ops N bs I ps0 (o :: os) (IsV v :: ps) :=
  .on hg (fun _ _ _ _ h => does_val (x_assign ho (h.get j hj hp hd)) rfl) rest
theorem Steps.ms (i : Nat) {d : Nat} {v : Value} (hg : o.guard = none) (ho : o.op = .move (.tmp d)) (hp : bs[i]? = some (d, v)) (rest : Steps P ops N bs I ps0 os ps) : Steps P ops N bs I ps0 (o :: os) (IsV v :: ps) :=
  .on hg (fun _ _ hS _ _ => does_val (x_move ho (hS.get i hp)) rfl) rest
theorem Steps.sn (j d : Nat) {g : Nat} {b c : Bool} (hg : o.guard = some (g, b)) (hp : ps0[j]? = some (IsV (.bool c))) (hc : c = !b) (rest : Steps P ops N bs I ps0 os ps) (hd : (ops[g]?).bind (·.dst) = some d := by rfl) (hN : Nat.blt d N = true := by rfl) (he : dstOf ops N j = d := by rfl) (hj : (o.after.toList.any fun e => Region.binds .any e && e.on == j) = true := by rfl) : Steps P ops N bs I ps0 (o :: os) (IsV undef :: ps) :=
  .of (fun _ _ hS _ h => ok_n hS hg hd hN ((h.get j hj hp he).trans (by rw [hc])) rfl) rest
theorem Steps.oy (j d : Nat) {g : Nat} {b c : Bool} (hg : o.guard = some (g, b)) (hp : ps0[j]? = some (IsV (.bool c))) (hc : c = b) (h : ∀ a w, St N bs a → I w → Pre ops N ps0 a w o → Does P o a w (fun v w' => Below w.heap.size w w' ∧ p v w')) (rest : Steps P ops N bs I ps0 os ps) (hd : (ops[g]?).bind (·.dst) = some d := by rfl) (hN : Nat.blt d N = true := by rfl) (he : dstOf ops N j = d := by rfl) (hj : (o.after.toList.any fun e => Region.binds .any e && e.on == j) = true := by rfl) : Steps P ops N bs I ps0 (o :: os) (p :: ps) :=
  .of (fun a w hS hI hp' => ok_y hS hg hd hN ((hp'.get j hj hp he).trans (by rw [hc])) (h a w hS hI hp')) rest
theorem Steps.pf (j : Nat) {d : Nat} {c : Bool} {x y : Operand} {v : Value} (hg : o.guard = none) (ho : o.op = .pick (.tmp d) x y) (hp : ps0[j]? = some (IsV (.bool c))) (hc : c = false) (hy : ∀ a : Act, a.eval y = v) (rest : Steps P ops N bs I ps0 os ps) (he : dstOf ops N j = d := by rfl) (hj : (o.after.toList.any fun e => Region.binds .any e && e.on == j) = true := by rfl) : Steps P ops N bs I ps0 (o :: os) (IsV v :: ps) :=
  .on hg (fun a _ _ _ h => does_val (x_pickF ho (((h.get j hj hp he : sl a d = .bool c)).trans (by rw [hc])) (hy a)) rfl) rest
theorem Steps.pt (i j : Nat) {d e : Nat} {c : Bool} {y : Operand} {v : Value} (hg : o.guard = none) (ho : o.op = .pick (.tmp d) (.tmp e) y) (hp : ps0[i]? = some (IsV (.bool c))) (hc : c = true) (hq : ps0[j]? = some (IsV v)) (rest : Steps P ops N bs I ps0 os ps) (hi : dstOf ops N i = d := by rfl) (he : dstOf ops N j = e := by rfl) (h1 : (o.after.toList.any fun e => Region.binds .any e && e.on == i) = true := by rfl) (h2 : (o.after.toList.any fun e => Region.binds .any e && e.on == j) = true := by rfl) : Steps P ops N bs I ps0 (o :: os) (IsV v :: ps) :=
  .on hg (fun a _ _ _ h => does_val (x_pickT ho (((h.get i h1 hp hi : sl a d = .bool c)).trans (by rw [hc])) (h.get j h2 hq he)) rfl) rest
end
section
variable {P : Program} {ops : Array Oper} {N : Nat} {bs : List (Nat × Value)} {I : World → Prop} {ps : List Told} {a : Act} {w : World} {Q : Exit → Act → World → Prop} {id : Nat}
theorem okTail_all (ops : Array Oper) : okTail ops [] ops.size = true := by
  simp only [okTail, okMask, Bool.and_eq_true, List.all_eq_true, List.mem_range, Bool.or_eq_true, decide_eq_true_eq]
  refine ⟨fun j hj => ?_, fun j hj => .inl hj⟩
  rw [Array.getElem?_eq_getElem hj]
  simp
theorem reg_any (hmo : P.follows .mixedOrders = true) (h : okRegion ops N ops.size (bs.map (·.1)) = true) (hI : ∀ w w', I w → Below w.heap.size w w' → I w') (hps : AllStay ps) (hm : ps.length = ops.size)
    (hS : St N bs a) (hw : I w) (step : Steps P ops N bs I ps ops.toList ps)
    (hend : ∀ a w, St N bs a → I w → (∀ j, j < ops.size → told ps j (sl a (dstOf ops N j)) w) → Q .normal a w) : (Code.region id ops true).wp P Q a w :=
  wp_any_region (ms := []) hmo h (okTail_all ops) hI hps.out hm (Nat.le_refl _) (fun i o hi ho => step.out i o (by omega) (by simpa using ho)) (fun a w h1 h2 h3 => by rw [List.drop_of_length_le (by simp)]; exact hend a w h1 h2 h3) hS hw
theorem reg_seq (h : okRegion ops N ops.size (bs.map (·.1)) = true) (hI : ∀ w w', I w → Below w.heap.size w w' → I w') (hps : AllStay ps) (hm : ps.length = ops.size)
    (hS : St N bs a) (hw : I w) (step : Steps P ops N bs I ps ops.toList ps)
    (hend : ∀ a w, St N bs a → I w → (∀ j, j < ops.size → told ps j (sl a (dstOf ops N j)) w) → Q .normal a w) : (Code.region id ops false).wp P Q a w :=
  wp_seq_region h hI hps.out hm (fun i o hi ho => step.out i o (by omega) (by simpa using ho)) (fun a w h1 h2 h3 => by rw [List.drop_of_length_le (by simp)]; exact hend a w h1 h2 h3) hS hw
theorem reg_any_tail (m : Nat) (ms : List Nat) (hmo : P.follows .mixedOrders = true) (h : okRegion ops N m (bs.map (·.1)) = true) (ht : okTail ops ms m = true) (hmn : m ≤ ops.size) (hI : ∀ w w', I w → Below w.heap.size w w' → I w') (hps : AllStay ps) (hm : ps.length = m)
    (hS : St N bs a) (hw : I w) (step : Steps P ops N bs I ps ops.toList ps)
    (hend : ∀ a w, St N bs a → I w → (∀ j, j < m → told ps j (sl a (dstOf ops N j)) w) → wpList P ops Q (ops.toList.drop m) a w) : (Code.region id ops true).wp P Q a w :=
  wp_any_region hmo h ht hI hps.out hm hmn (fun i o hi ho => step.out i o (by omega) (by simpa using ho)) hend hS hw
theorem reg_seq_tail (m : Nat) (h : okRegion ops N m (bs.map (·.1)) = true) (hI : ∀ w w', I w → Below w.heap.size w w' → I w') (hps : AllStay ps) (hm : ps.length = m)
    (hS : St N bs a) (hw : I w) (step : Steps P ops N bs I ps ops.toList ps)
    (hend : ∀ a w, St N bs a → I w → (∀ j, j < m → told ps j (sl a (dstOf ops N j)) w) → wpList P ops Q (ops.toList.drop m) a w) : (Code.region id ops false).wp P Q a w :=
  wp_seq_region h hI hps.out hm (fun i o hi ho => step.out i o (by omega) (by simpa using ho)) hend hS hw
end
def IsC {α : Type} (d : Kd α) (xs : List α) : Told := fun v w => ∃ A c, v = .slice A xs.length c ∧ xs.length ≤ c ∧ Kd.C d w A xs.length xs
theorem Stays.c {α : Type} (d : Kd α) (xs : List α) : Stays (IsC d xs) := fun _ _ _ ⟨A, c, h1, h2, h3⟩ hb => ⟨A, c, h1, h2, Kd.C_below h3 hb⟩
theorem IsC.of_r {α : Type} {d : Kd α} {e B : Nat} {xs : List α} {v : Value} {w : World} (h : IsR d e B xs v w) : IsC d xs v w := by
  obtain ⟨A, c, h1, h2, h3⟩ := Kd.R_reads h
  exact ⟨A, c, h1, h2, h3⟩
section
variable {P : Program} {ops : Array Oper} {o : Oper} {a : Act} {w : World} {p : Told}
theorem does_lit {k : IntKind} (B t e len : Nat) (parts : Array (Nat × Operand)) (vs : List (Nat × Value)) (xs : List Int) (ho : o.op = .buildSlice t len parts) (hu : P.underlying t = some (.slice e)) (hv : (parts.map fun (i, x) => (i, a.eval x)).toList = vs)
    (hf : P.builtSlice e len vs = some (encs (Value.int k) xs).toArray) (hl : len = xs.length) (hb : B ≤ w.heap.size) (hm : xs.length ≤ 9223372036854775807) : Does P o a w (fun v w' => Below w.heap.size w w' ∧ IsR (Kd.int k) e B xs v w') := by
  subst hl hv
  refine does_of_list fun ops Q rest h => Great.wpList_buildSliceTo rfl t e xs.length parts ho w.heap.size rfl o.dst rfl hu _ hf (h _ _ ⟨below_alloc (Below.refl _ _) _, ?_⟩)
  exact Kd.R_of_own (own_lit_of (enc := Value.int k) w B e xs hb hm) (fun _ _ => trivial)
def KeepT (e : TypeId) (w w' : World) : Prop := ∀ (g : Nat) (cs : Array Value) (t : TypeId), w.heap[g]? = some (Obj.cells cs t (0, 0)) → e ≠ t → w'.heap[g]? = some (Obj.cells cs t (0, 0))
theorem keepT_of {α : Type} {d : Kd α} {e base : Nat} {ok : Nat → Prop} {v : Value} {xs : List α} {w w' : World} (HO : Kd.R d e w base ok v xs) (hg : w.grownBy w' v.ownBlock) : KeepT e w w' := fun g cs t h ht => blk_grown h hg (Kd.R_ne HO h ht)
theorem not_array {t e : TypeId} (ht : P.underlying t = some (.slice e)) : ∀ n f, P.underlying t ≠ some (.array n f) := fun n f h => by rw [ht] at h; cases h
theorem does_index {k ki : IntKind} {t e : TypeId} {x y : Operand} {A : Option Addr} {n c : Nat} {xs : List Int} {i : Int} (ho : o.op = .indexAddr t x y) (hx : a.eval x = .slice A n c) (hy : a.eval y = .int ki i) (ht : P.underlying t = some (.slice e)) (hs : (P.info? e).map (·.size) = some 1) (h0 : 0 ≤ i) (hn : i < n) (h1 : i < (xs.length : Int)) (hC : Kd.C (Kd.int k) w A xs.length xs) :
    Does P o a w (fun v w' => Below w.heap.size w w' ∧ ∃ ad, v = .pointer (some ad) ∧ ad.block < w'.heap.size ∧ w'.cell? ad = some (.int k (rd xs i))) := by
  obtain ⟨ad, rfl, hc⟩ := Kd.at_int hC i h0 (by omega)
  have hr := x_index (P := P) (w := w) (ρ := a.eval) ho hx hy ht hs h0 hn
  refine (does_val (p := fun v w' => ∃ ad, v = .pointer (some ad) ∧ ad.block < w'.heap.size ∧ w'.cell? ad = some (.int k (rd xs i))) hr ⟨_, rfl, ?_, ?_⟩)
  · exact World.block_lt_of_cell? w _ (by rw [Nat.mul_one]; exact hc)
  · rw [Nat.mul_one]; exact hc
theorem does_cut {k : IntKind} {t e : TypeId} {x : Operand} {lo hi : Option Operand} {xs : List Int} {A : Option Addr} {c : Nat} {i j : Int} (ho : o.op = .slice t x lo hi none) (ht : P.underlying t = some (.slice e)) (hinfo : (P.info? e).map (·.size) = some 1) (hx : a.eval x = .slice A xs.length c)
    (hlo : (lo = none ∧ i = 0) ∨ ∃ y, lo = some y ∧ a.eval y = .int .i64 i) (hhi : (hi = none ∧ j = xs.length) ∨ ∃ y, hi = some y ∧ a.eval y = .int .i64 j) (h0 : 0 ≤ i) (hij : i ≤ j) (hj : j ≤ xs.length) (hc : xs.length ≤ c) (hC : Kd.C (Kd.int k) w A xs.length xs) :
    Does P o a w (fun v w' => Below w.heap.size w w' ∧ IsC (Kd.int k) ((xs.take j.toNat).drop i.toNat) v w') := by
  obtain ⟨f, hf, hs⟩ := Option.map_eq_some_iff.1 hinfo
  have hl1 : lo.map a.eval = if lo.isSome then some (.int .i64 i) else none := by rcases hlo with ⟨rfl, _⟩ | ⟨y, rfl, hy⟩ <;> simp [*]
  have hl2 : hi.map a.eval = if hi.isSome then some (.int .i64 j) else none := by rcases hhi with ⟨rfl, _⟩ | ⟨y, rfl, hy⟩ <;> simp [*]
  have hct := Kd.C_take (m := j.toNat) hC (by omega)
  have hlt : (xs.take j.toNat).length = j.toNat := by rw [List.length_take]; omega
  have hcd := Kd.C_drop (m := i.toNat) (c := c) hct (by rw [hlt]; omega) (by rw [hlt]; omega)
  have hld : ((xs.take j.toNat).drop i.toNat).length = j.toNat - i.toNat := by rw [List.length_drop, hlt]
  have hel : P.elem t = e := by simp [Program.elem, ht]
  have hb : ∀ (z : Int) (m : Nat) (cd : BoundsCode), 0 ≤ z → z ≤ m → (Instr.sliceBound (.int .i64 z) m cd).run P w = .ok z.toNat w := fun z m cd h1 h2 => by
    simp [Instr.sliceBound, asIntOf, h1, h2]
  have hrun : (Instr.slice t (.slice A xs.length c) (lo.map a.eval) (hi.map a.eval) none).run P w = .ok (.slice (if c = i.toNat then A else A.map (·.add (i.toNat * 1))) (j.toNat - i.toNat) (c - i.toNat)) w := by
    have hsl : (Instr.sliceBounds true xs.length c (lo.map a.eval) (hi.map a.eval) none).run P w = .ok (i.toNat, j.toNat, c) w := by
      rw [hl1, hl2]
      have hj0 : 0 ≤ j := by omega
      have hjc : j ≤ (c : Int) := by omega
      have him : i ≤ max j 0 := by omega
      have hll : xs.length = j.toNat ∨ hi.isSome = true := hhi.elim (fun h => .inl (by have := h.2; omega)) (fun ⟨z, h, _⟩ => .inr (by rw [h]; rfl))
      have hii : i.toNat = 0 ∨ lo.isSome = true := hlo.elim (fun h => .inl (by have := h.2; omega)) (fun ⟨z, h, _⟩ => .inr (by rw [h]; rfl))
      have hil : i ≤ (xs.length : Int) := by omega
      cases hlo1 : lo.isSome <;> cases hhi1 : hi.isSome <;> rw [hlo1] at hii <;> rw [hhi1] at hll <;> simp at hii hll <;> simp [Instr.sliceBounds, hb, h0, hij, hj, hj0, hjc, him, hil, hii, hll, go_sem] <;> omega
    unfold Instr.slice
    rw [Sem.run_bind, run_underlying ht]
    simp only [Result.andThen_ok]
    rw [Sem.run_bind, hsl]
    simp [sizeOf, typeInfo, hf, hs, go_sem]
  refine does_val (p := IsC (Kd.int k) ((xs.take j.toNat).drop i.toNat)) (x_slice ho hx rfl rfl hrun (not_array ht) (by rw [ht]; rfl)) ?_
  refine ⟨_, c - i.toNat, ?_, ?_, hcd⟩
  · rw [hld]
    rfl
  · rw [hld]
    omega
end
theorem ite_and {α : Type} [BEq α] [LawfulBEq α] {a b : α} [Decidable (a = b)] {e : Bool} {w : World} {R : Result Value} (h : R = .ok (.bool e) w) : (if a = b then R else .ok (.bool false) w) = .ok (.bool (a == b && e)) w := by
  subst h
  by_cases h : a = b <;> simp [h]
theorem ite_last {α : Type} [BEq α] [LawfulBEq α] {a b : α} [Decidable (a = b)] {w : World} : (if a = b then Result.ok (Value.bool true) w else .ok (.bool false) w) = .ok (.bool (a == b)) w := by
  by_cases h : a = b <;> simp [h]
def IsA (u : Value) : Told := fun v w => ∃ ad : Addr, v = .pointer (some ad) ∧ ad.block < w.heap.size ∧ w.cell? ad = some u
theorem Stays.a (u : Value) : Stays (IsA u) := fun _ _ _ ⟨ad, h1, h2, h3⟩ hb => ⟨ad, h1, Nat.lt_of_lt_of_le h2 hb.size, (hb.cell h2).trans h3⟩
theorem ar1 {a a' : Value} (h : a = a') : #[a] = #[a'] := by rw [h]
theorem ar2 {a a' b b' : Value} (h : a = a') (h2 : b = b') : #[a, b] = #[a', b'] := by rw [h, h2]
theorem ar3 {a a' b b' c c' : Value} (h : a = a') (h2 : b = b') (h3 : c = c') : #[a, b, c] = #[a', b', c'] := by rw [h, h2, h3]
theorem li_cons {i : Nat} {a a' : Value} {l l' : List (Nat × Value)} (h : a = a') (hl : l = l') : (i, a) :: l = (i, a') :: l' := by rw [h, hl]
theorem bT {b : Bool} (h : b = true) : Value.bool b = .bool true := by rw [h]
theorem bF {b : Bool} (h : b = false) : Value.bool b = .bool false := by rw [h]
end Go.Proofs.Ytiomlbkakiienaa.E
