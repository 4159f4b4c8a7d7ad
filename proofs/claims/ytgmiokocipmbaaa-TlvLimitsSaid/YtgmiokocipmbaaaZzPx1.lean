/- Functions and loops of the given program as Lean functions, and that the code comes to what they say: written by this session's own program; Lean checks it. -/
import Derived.Test.YtgmiokocipmbaaaZzPx0
namespace Go.Proofs.Ytgmiokocipmbaaa.P
open Go.RowKit Go.Proofs.YtgmiokocipmbaaaW.PrintWords Go.Proofs.YtgmiokocipmbaaaW.PrintLast Go.Proofs.YtgmiokocipmbaaaW.PrintMore
attribute [local go_sem] max2_int min2_int max_two min_two max_three min_three max_four min_four   -- for this text's walks alone
set_option linter.unusedVariables false
set_option linter.unusedSimpArgs false
def tlv_in.f (a0 : Int) (a1 : Int) (a2 : Int) : Option (Bool) := if a0 ≥ a1 then (some (decide (a0 ≤ a2))) else (some false)
set_option maxHeartbeats 8000000 in
set_option maxRecDepth 100000 in
theorem tlv_in.calls (a0 : Int) (a1 : Int) (a2 : Int) (r : Bool) (w : World) (h : tlv_in.f a0 a1 a2 = some r) :
    Calls Try.prog 42 #[.int .i64 a0, .int .i64 a1, .int .i64 a2] w fun e w' => e = .returned (.bool r) ∧ Drawn0 w w' := by
  have H : (if a0 ≥ a1 then (some (decide (a0 ≤ a2))) else (some false)) = some r := h
  clear h
  by_cases c4 : a0 ≥ a1
  · rw [if_pos c4] at H
    have c4b0 : decide (a1 ≤ a0) = true := decide_eq_true c4
    clear c4
    obtain rfl := Option.some.inj H
    go_enter Try.func42, Try.ntmps42
    go_wp2
    all_goals
      go_ret
      exact ⟨by first | rfl | (simp; done) | (simp [*]; done), by repeat (first | exact Drawn0.refl _ | apply Drawn0.step)⟩
  · rw [if_neg c4] at H
    have c4b0 : decide (a1 ≤ a0) = false := decide_eq_false c4
    clear c4
    obtain rfl := Option.some.inj H
    go_enter Try.func42, Try.ntmps42
    go_wp2
    all_goals
      go_ret
      exact ⟨by first | rfl | (simp; done) | (simp [*]; done), by repeat (first | exact Drawn0.refl _ | apply Drawn0.step)⟩
def tlv_Check.f (a0_0 : Int) (a0_1 : ByteArray) : Option (Bool) := (tlv_in.f a0_0 0 65535).bind fun t102 => (if t102 = true then (if ((a0_1.size : Int) % 2) = 0 then (some (decide ((a0_1.size : Int) ≤ 400))) else (some false)) else (some false))
set_option maxHeartbeats 8000000 in
set_option maxRecDepth 100000 in
theorem tlv_Check.calls (a0_0 : Int) (a0_1 : ByteArray) (r : Bool) (w : World) (h : tlv_Check.f a0_0 a0_1 = some r) :
    Calls Try.prog 16 #[.agg #[.int .i64 a0_0, .string a0_1]] w fun e w' => e = .returned (.bool r) ∧ Below w.heap.size w w' := by
  have hu26 := Try.underlying26
  have HB := Aside0.mk (Below.refl w.heap.size w)
  have H : ((tlv_in.f a0_0 0 65535).bind fun t102 => (if t102 = true then (if ((a0_1.size : Int) % 2) = 0 then (some (decide ((a0_1.size : Int) ≤ 400))) else (some false)) else (some false))) = some r := h
  clear h
  replace H := Option.bind_eq_some_iff.mp H
  obtain ⟨t102, A20, H⟩ := H
  replace H : (if t102 = true then (if ((a0_1.size : Int) % 2) = 0 then (some (decide ((a0_1.size : Int) ≤ 400))) else (some false)) else (some false)) = some r := H
  have A2 := Aside0.mk A20
  clear A20
  by_cases c3 : t102 = true
  · subst c3
    have H1 : (if ((a0_1.size : Int) % 2) = 0 then (some (decide ((a0_1.size : Int) ≤ 400))) else (some false)) = some r := by rw [if_pos rfl] at H; exact H
    clear H
    have H := H1
    clear H1
    by_cases c4 : ((a0_1.size : Int) % 2) = 0
    · rw [if_pos c4] at H
      have c4b0 : (((a0_1.size : Int) % 2) == 0) = true := beq_iff_eq.mpr c4
      have c4b1 : (((a0_1.size : Int) % 2) != 0) = false := bne_eq_false_iff_eq.mpr c4
      clear c4
      obtain rfl := Option.some.inj H
      go_enter Try.func16, Try.ntmps16
      go_wp2_with (first | ((with_reducible refine gate_dst (N := 1) rfl ?_); (try (refine gate_guard (by rfl) ?_; dsimp only)); refine box_event ?hg (N := 1) ?hd (cs := #[.int .i64 a0_0, .string a0_1]) (t := 26) ?hr ?_; (case hd => rfl); (case hg => rfl); (case hr => first | (go_simp; done) | (go_simp; rfl)); intro gb101 hg w5 hbox hb; have n0_ := Aside0.mk (below_step (by repeat (first | (with_reducible first | exact HB.out | apply below_alloc | apply pw_below_drewN | apply below_drew1) | exact HB.out)) hb); have n1_ := Aside0.mk (hbox); have n2_ := Aside0.mk ((by rw [hg]; exact (below_size (by repeat (first | (with_reducible first | exact HB.out | apply below_alloc | apply pw_below_drewN | apply below_drew1) | exact HB.out))) : w.heap.size ≤ gb101)); have n3_ := Aside0.mk ((by rw [hg]; exact (below_size (by repeat (first | (with_reducible first | exact HB.out | apply below_alloc | apply pw_below_drewN | apply below_drew1) | exact HB.out))) : w.heap.size ≤ gb101)); clear HB; have HB := n0_; have BK101 := n1_; have GW101 := n2_; have GE101 := n3_; clear n0_ n1_ n2_ n3_; clear hb hbox hg; have hcz6_0 : w5.cell? ⟨gb101, 0, none⟩ = some (.int .i64 a0_0) := (blk_cell BK101.out 0).trans rfl; have hcz6_1 : w5.cell? ⟨gb101, 1, none⟩ = some (.string a0_1) := (blk_cell BK101.out 1).trans rfl; have hfz6_0 := blk_frozen BK101.out 0; have hfz6_1 := blk_frozen BK101.out 1) | ((with_reducible refine gate_callee (f := 42) rfl ?_); refine goesL_ (some 5) rfl rfl Try.func42 (by kernel_rfl) rfl #[.int .i64 a0_0, .int .i64 0, .int .i64 65535] rfl (by (try simp only [List.map_toArray, List.map_cons, List.map_nil]); first | done | rfl | (simp only [List.length_drop, List.length_take]; rfl)) ?_; (with_reducible refine (tlv_in.calls a0_0 0 65535 true _ A2.out).mono ?_); rintro e w' ⟨rfl, ⟨nd, rfl⟩⟩; refine ⟨_, rfl, ?_⟩))
      all_goals
        go_ret
        exact ⟨by first | rfl | (simp [errW_none, errW_some] <;> rfl) | (simp [*, errW_none, errW_some] <;> rfl), by repeat (first | (with_reducible first | exact HB.out | apply below_alloc | apply pw_below_drewN | apply below_drew1 | refine below_set ?_ GE101.out) | exact HB.out)⟩
    · rw [if_neg c4] at H
      have c4b0 : (((a0_1.size : Int) % 2) == 0) = false := beq_eq_false_iff_ne.mpr c4
      have c4b1 : (((a0_1.size : Int) % 2) != 0) = true := bne_iff_ne.mpr c4
      obtain rfl := Option.some.inj H
      go_enter Try.func16, Try.ntmps16
      go_wp2_with (first | ((with_reducible refine gate_dst (N := 1) rfl ?_); (try (refine gate_guard (by rfl) ?_; dsimp only)); refine box_event ?hg (N := 1) ?hd (cs := #[.int .i64 a0_0, .string a0_1]) (t := 26) ?hr ?_; (case hd => rfl); (case hg => rfl); (case hr => first | (go_simp; done) | (go_simp; rfl)); intro gb101 hg w7 hbox hb; have n0_ := Aside0.mk (below_step (by repeat (first | (with_reducible first | exact HB.out | apply below_alloc | apply pw_below_drewN | apply below_drew1) | exact HB.out)) hb); have n1_ := Aside0.mk (hbox); have n2_ := Aside0.mk ((by rw [hg]; exact (below_size (by repeat (first | (with_reducible first | exact HB.out | apply below_alloc | apply pw_below_drewN | apply below_drew1) | exact HB.out))) : w.heap.size ≤ gb101)); have n3_ := Aside0.mk ((by rw [hg]; exact (below_size (by repeat (first | (with_reducible first | exact HB.out | apply below_alloc | apply pw_below_drewN | apply below_drew1) | exact HB.out))) : w.heap.size ≤ gb101)); clear HB; have HB := n0_; have BK101 := n1_; have GW101 := n2_; have GE101 := n3_; clear n0_ n1_ n2_ n3_; clear hb hbox hg; have hcz8_0 : w7.cell? ⟨gb101, 0, none⟩ = some (.int .i64 a0_0) := (blk_cell BK101.out 0).trans rfl; have hcz8_1 : w7.cell? ⟨gb101, 1, none⟩ = some (.string a0_1) := (blk_cell BK101.out 1).trans rfl; have hfz8_0 := blk_frozen BK101.out 0; have hfz8_1 := blk_frozen BK101.out 1) | ((with_reducible refine gate_callee (f := 42) rfl ?_); refine goesL_ (some 5) rfl rfl Try.func42 (by kernel_rfl) rfl #[.int .i64 a0_0, .int .i64 0, .int .i64 65535] rfl (by (try simp only [List.map_toArray, List.map_cons, List.map_nil]); first | done | rfl | (simp only [List.length_drop, List.length_take]; rfl)) ?_; (with_reducible refine (tlv_in.calls a0_0 0 65535 true _ A2.out).mono ?_); rintro e w' ⟨rfl, ⟨nd, rfl⟩⟩; refine ⟨_, rfl, ?_⟩))
      all_goals
        go_ret
        exact ⟨by first | rfl | (simp [errW_none, errW_some] <;> rfl) | (simp [*, errW_none, errW_some] <;> rfl), by repeat (first | (with_reducible first | exact HB.out | apply below_alloc | apply pw_below_drewN | apply below_drew1 | refine below_set ?_ GE101.out) | exact HB.out)⟩
  · replace c3 := Bool.eq_false_iff.mpr c3
    subst c3
    have H1 : (some false) = some r := by rw [if_neg (show ¬ (false = true) by decide)] at H; exact H
    clear H
    have H := H1
    clear H1
    obtain rfl := Option.some.inj H
    go_enter Try.func16, Try.ntmps16
    go_wp2_with (first | ((with_reducible refine gate_dst (N := 1) rfl ?_); (try (refine gate_guard (by rfl) ?_; dsimp only)); refine box_event ?hg (N := 1) ?hd (cs := #[.int .i64 a0_0, .string a0_1]) (t := 26) ?hr ?_; (case hd => rfl); (case hg => rfl); (case hr => first | (go_simp; done) | (go_simp; rfl)); intro gb101 hg w9 hbox hb; have n0_ := Aside0.mk (below_step (by repeat (first | (with_reducible first | exact HB.out | apply below_alloc | apply pw_below_drewN | apply below_drew1) | exact HB.out)) hb); have n1_ := Aside0.mk (hbox); have n2_ := Aside0.mk ((by rw [hg]; exact (below_size (by repeat (first | (with_reducible first | exact HB.out | apply below_alloc | apply pw_below_drewN | apply below_drew1) | exact HB.out))) : w.heap.size ≤ gb101)); have n3_ := Aside0.mk ((by rw [hg]; exact (below_size (by repeat (first | (with_reducible first | exact HB.out | apply below_alloc | apply pw_below_drewN | apply below_drew1) | exact HB.out))) : w.heap.size ≤ gb101)); clear HB; have HB := n0_; have BK101 := n1_; have GW101 := n2_; have GE101 := n3_; clear n0_ n1_ n2_ n3_; clear hb hbox hg; have hcz10_0 : w9.cell? ⟨gb101, 0, none⟩ = some (.int .i64 a0_0) := (blk_cell BK101.out 0).trans rfl; have hcz10_1 : w9.cell? ⟨gb101, 1, none⟩ = some (.string a0_1) := (blk_cell BK101.out 1).trans rfl; have hfz10_0 := blk_frozen BK101.out 0; have hfz10_1 := blk_frozen BK101.out 1) | ((with_reducible refine gate_callee (f := 42) rfl ?_); refine goesL_ (some 5) rfl rfl Try.func42 (by kernel_rfl) rfl #[.int .i64 a0_0, .int .i64 0, .int .i64 65535] rfl (by (try simp only [List.map_toArray, List.map_cons, List.map_nil]); first | done | rfl | (simp only [List.length_drop, List.length_take]; rfl)) ?_; (with_reducible refine (tlv_in.calls a0_0 0 65535 false _ A2.out).mono ?_); rintro e w' ⟨rfl, ⟨nd, rfl⟩⟩; refine ⟨_, rfl, ?_⟩))
    all_goals
      go_ret
      exact ⟨by first | rfl | (simp [errW_none, errW_some] <;> rfl) | (simp [*, errW_none, errW_some] <;> rfl), by repeat (first | (with_reducible first | exact HB.out | apply below_alloc | apply pw_below_drewN | apply below_drew1 | refine below_set ?_ GE101.out) | exact HB.out)⟩
def octets_Put.bytes (v : Int) : Nat → List Int
  | 0 => []
  | n + 1 => (v / 256 ^ n) % 256 :: octets_Put.bytes v n
theorem octets_Put.bytes_length (v : Int) (n : Nat) : (octets_Put.bytes v n).length = n := by
  induction n with
  | zero => rfl
  | succ n ih => simp [octets_Put.bytes, ih]
def octets_Put.f (l0 : List Int) (a1 : Int) (a2 : Int) : Option (List Int) :=
  if 1 ≤ a2 ∧ l0.length ≤ 140737488355320 then some (l0 ++ octets_Put.bytes a1 (mn a2 8).toNat) else none
theorem octets_Put.nat8 (a2 : Int) (h : 1 ≤ a2) : ∃ m : Nat, mn a2 8 = (m : Int) + 1 ∧ m ≤ 7 := by
  refine ⟨(mn a2 8 - 1).toNat, ?_, ?_⟩ <;> (unfold mn; split <;> omega)
theorem octets_Put.capped {P : Program} {ops : Array Oper} {rest : List Oper} {o : Oper} {a : Act} {Q : Exit → Act → World → Prop} {w0 W : World} (base : Nat) (hgd : o.guard = none) (s x : Operand) (t e : TypeId) (z : Value) (bytes : Nat)
    (ho : o.op = .call { callee := .builtin .append, args := #[s, x], argTypes := #[t, t] })
    (ht : P.underlying t = some (.slice e)) (hinfo : (P.info? e).map (fun i => (i.zero, i.size, i.bytes)) = some (some z, 1, bytes)) (hz : z.cells.size = 1) (hb0 : 0 < bytes) (k : IntKind)
    (A : Option Addr) (xs : List Int) (y : Int) (hs : a.eval s = .slice A xs.length xs.length) (hx : a.eval x = .slice (some ⟨W.heap.size, 0, none⟩) 1 1)
    (HR : Kd.C (Kd.int k) W A xs.length xs) (HB : Below base w0 W) (hbase : base ≤ W.heap.size) (hl : (xs.length + 1) * bytes ≤ 140737488355328)
    (h : ∀ v1 w1, Kd.R (Kd.int k) e w1 base (fun _ => True) v1 (xs ++ [y]) → Below base w0 w1 → wpList P ops Q rest (a.put o.dst v1) w1) :
    wpList P ops Q (o :: rest) a (W.alloc (.cells #[.int k y] e)) := by
  obtain ⟨i0, hi, hzz⟩ := Option.map_eq_some_iff.1 hinfo
  simp only [Prod.mk.injEq] at hzz
  obtain ⟨hz0, hz1, hz2⟩ := hzz
  have hlen : xs.length + 1 ≤ 140737488355328 := Nat.le_trans (Nat.le_mul_of_pos_right _ hb0) hl
  have hrd := Kd.reads_of_C (d := (0 : Int)) HR
  have hB2 : Below base w0 (W.alloc (.cells #[.int k y] e)) := HB.alloc hbase _
  refine wpList_append_grows (W.alloc (.cells #[.int k y] e)) hgd s x t ho e i0 z 1 bytes ht hi hz0 hz1 hz2 hz (by omega) A xs.length xs.length (encs (Value.int k) xs) hs ?_ (by simp [encs_length]) ?_ ⟨W.heap.size, 0, none⟩ 1 1 [.int k y] hx rfl (World.news_of_block (cs := #[.int k y]) (t := e) (fr := (0, 0)) (heap_alloc_new W _)) (by simp [Value.oneCell']) (by omega) (by simp only [maxLen]; omega) hl ?_
  · rintro rfl
    rcases Nat.eq_zero_or_pos xs.length with h0 | h0
    · exact ⟨h0, h0⟩
    · obtain ⟨ad, e1, _⟩ := hrd.2.2 h0
      cases e1
  · rintro b rfl j u hj
    have hjl : j < xs.length := by have := (List.getElem?_eq_some_iff.1 hj).1; simpa [encs_length] using this
    obtain ⟨ad, e1, hc⟩ := hrd.2.2 (by omega)
    injection e1 with e1
    subst e1
    have h1 := hc j hjl
    have h2 : u = .int k (xs.getD j 0) := by
      simp only [encs, List.getElem?_map, List.getElem?_eq_getElem hjl, Option.map_some, Option.some.injEq] at hj
      rw [← hj, List.getD_eq_getElem?_getD, List.getElem?_eq_getElem hjl]
      rfl
    rw [h2]
    exact pw_cell_below (below_alloc (Below.refl _ _) _) h1
  · intro v1 w1 hown hg
    have hown2 : w1.ownsRow base e 1 v1 (xs ++ [y]).length (encs (Value.int k) (xs ++ [y])) := by
      have h3 : encs (Value.int k) (xs ++ [y]) = encs (Value.int k) xs ++ [.int k y] := by simp [encs]
      rw [h3, List.length_append]
      exact own_weaken hown (by simp; omega)
    exact h v1 w1 (Kd.R_of_own hown2 (fun _ _ => trivial)) (pw_below_grown hB2 none (by simp; omega) hg (by simp))
set_option maxHeartbeats 1000000 in
set_option maxRecDepth 100000 in
theorem octets_Put.calls (A0 : Option Addr) (c0 : Nat) (l0 : List Int) (a1 : Int) (a2 : Int) (r : List Int) (w : World) (hr0 : Kd.C (Kd.int .u8) w A0 l0.length l0) (hc0 : l0.length ≤ c0) (h : octets_Put.f l0 a1 a2 = some r) :
    Calls Try.prog 40 #[.slice A0 l0.length c0, .int .i64 a1, .int .i64 a2] w fun e w' => ∃ v0_ : Value, e = .returned (v0_) ∧ Kd.R (Kd.int .u8) 5 w' w.heap.size (fun _ => True) v0_ r ∧ Below w.heap.size w w' := by
  obtain ⟨m, hm, hm7⟩ : ∃ m : Nat, mn a2 8 = (m : Int) + 1 ∧ m ≤ 7 := octets_Put.nat8 a2 (by
    unfold octets_Put.f at h
    split at h
    · rename_i hh; exact hh.1
    · cases h)
  have Hm := Aside0.mk hm
  have Hl : Aside0 ((l0.length + 1) * 1 ≤ 140737488355328) := ⟨by
    unfold octets_Put.f at h
    split at h
    · rename_i hh; omega
    · cases h⟩
  have hm_ : (if 8 < a2 then 8 else a2) = (m : Int) + 1 := hm
  have hx_ : (if 0 < (m : Int) + 1 then (m : Int) + 1 else 0) = (m : Int) + 1 := if_pos (by omega)
  clear hm
  go_enter Try.func40, Try.ntmps40
  go_wp2
  refine wp_scope_jumps 0 (fun a' w' => ∃ (i : Nat) (u t8 t9 t10 t11 t12 t13 t14 t15 t16 t17 t18 t19 t20 t21 t22 t23 t24 t25 t26 t27 t28 t29 : Value) (xs : List Int), a' = { tmps := #[u, .int .i64 a1, .int .i64 a2, undef, undef, undef, .slice none 0 0, .int .i64 i, t8, t9, t10, t11, t12, t13, t14, t15, t16, t17, t18, t19, t20, t21, t22, t23, t24, t25, t26, t27, t28, t29], defers := [] } ∧ i ≤ m ∧ Aside0 (xs ++ octets_Put.bytes a1 i = l0 ++ octets_Put.bytes a1 (m + 1)) ∧ Aside0 (Kd.R (Kd.int .u8) 5 w' w.heap.size (fun _ => True) u xs) ∧ Aside0 (Below w.heap.size w w')) (fun a' _ => match a'.tmps.getD 7 undef with | .int _ q => q.toNat | _ => 0) rfl ?_ ?_
  · go_wp2
    clear hm_ hx_
    have HR := Aside0.mk hr0
    clear hr0
    go_step3
    go_wp2_with ((with_reducible refine gate_builtin (b := .append) (xs := #[.tmp 21, .tmp 27]) rfl ?_); at_builtin; refine octets_Put.capped (w0 := w) w.heap.size rfl (.tmp 21) (.tmp 27) 31 5 (.int .u8 0) 1 rfl Try.underlying31 info5 rfl (by omega) .u8 A0 l0 _ rfl rfl HR.out (Below.refl _ _) (Nat.le_refl _) ?aL ?_; (case aL => exact Hl.out); intro v1 w1 hR hB; have HR1 := Aside0.mk hR; have HB1 := Aside0.mk hB; clear hR hB)
    go_step3
    refine ⟨rfl, m, v1, _, _, _, _, _, _, _, _, _, _, _, _, _, _, _, _, _, _, _, _, _, _, l0 ++ [a1 / 256 ^ m % 256], rfl, Nat.le_refl _, ⟨by simp [octets_Put.bytes]⟩, ⟨?_⟩, HB1⟩
    have e1 : (2 : Int) ^ (8 * m) = 256 ^ m := by rw [Int.pow_mul]; rfl
    rw [← e1]
    exact HR1.out
  · rintro a' w' ⟨i, u, t8, t9, t10, t11, t12, t13, t14, t15, t16, t17, t18, t19, t20, t21, t22, t23, t24, t25, t26, t27, t28, t29, xs, rfl, him, HX, HR, HB⟩
    clear hm_ hx_ hr0
    cases i with
    | zero =>
      go_wp2
      simp only [Exit.jump]
      go_ret
      refine ⟨u, rfl, ?_, HB.out⟩
      have hx : xs = r := by
        have h1 := HX.out
        unfold octets_Put.f at h
        split at h
        · injection h with h
          rw [Hm.out] at h
          have h2 : ((m : Int) + 1).toNat = m + 1 := by omega
          rw [h2] at h
          rw [← h, ← h1]
          simp [octets_Put.bytes]
        · cases h
      rw [← hx]
      exact HR.out
    | succ i =>
      have Hlx : Aside0 ((xs.length + 1) * 1 ≤ 140737488355328) := ⟨by
        have h1 := congrArg List.length HX.out
        simp only [List.length_append, octets_Put.bytes_length] at h1
        unfold octets_Put.f at h
        split at h
        · rename_i hh; omega
        · cases h⟩
      go_wp2_with ((with_reducible refine gate_builtin (b := .append) (xs := #[.tmp 21, .tmp 27]) rfl ?_); at_builtin; refine print_append_of (w0 := w) (Value.int .u8) w.heap.size rfl (.tmp 21) (.tmp 27) 31 5 (.int .u8 0) 1 rfl Try.underlying31 info5 rfl (by omega) u xs _ rfl rfl rfl (Kd.own_of_R HR.out) HB.out (below_size HB.out) Hlx.out ?_; intro v1 w1 hown hB hg hat; have HR1 := Aside0.mk hown; have HB1 := Aside0.mk hB; clear hown hB hg hat)
      go_step3
      refine ⟨rfl, ⟨i, v1, _, _, _, _, _, _, _, _, _, _, _, _, _, _, _, _, _, _, _, _, _, _, xs ++ [a1 / 256 ^ i % 256], rfl, by omega, ⟨by rw [← HX.out]; simp [octets_Put.bytes]⟩, ⟨?_⟩, HB1⟩, ?_⟩
      · have e1 : (2 : Int) ^ (8 * i) = 256 ^ i := by rw [Int.pow_mul]; rfl
        rw [← e1]
        exact Kd.R_of_own HR1.out (fun _ _ => trivial)
      · simp
def tlv_Put.l1 (k : Nat) : Nat → (List Int) → (List Int) → (List (S26)) → Int → Int → Option (List Int × Bool)
  | 0, _, _, _, _, _ => none
  | n1 + 1, y1_0, y1_6, y1_19, x1_20, x1_21 => if x1_21 < x1_20 then (if 0 ≤ x1_21 then (if x1_21 < (y1_19.length : Int) then ((tlv_Check.f ((rd_T26 y1_19 x1_21).f0) ((rd_T26 y1_19 x1_21).f1)).bind fun t1013 => (if t1013 = true then ((octets_Put.f y1_6 ((rd_T26 y1_19 x1_21).f0) 2).bind fun t1016 => ((octets_Put.f t1016 (((rd_T26 y1_19 x1_21).f1).size : Int) 2).bind fun t1017 => (if t1017.length + ((rd_T26 y1_19 x1_21).f1).size ≤ 140737488355328 then (tlv_Put.l1 k n1 y1_0 (t1017 ++ bytesOf ((rd_T26 y1_19 x1_21).f1) : List Int) y1_19 x1_20 (wrap64 (x1_21 + 1))) else (none)))) else (some (y1_0, false)))) else (none)) else (none)) else (some (y1_6, true))
def tlv_Put.f (k : Nat) (l1 : List (S26)) : Option (List Int × Bool) := if (l1.length : Int) > 8 then (some ([], false)) else (tlv_Put.l1 k k [] [] l1 (l1.length : Int) 0)
open Go.Proofs.Ytgmiokocipmbaaa.E in
theorem tlv_Put.flat26 : Flat k26 (fun x => [.int .i64 x.f0, .string x.f1]) := ⟨fun w x cs h => k26_open h, fun w base x => k26_mkM w base _ x⟩
open Go.Proofs.Ytgmiokocipmbaaa.E in
set_option maxHeartbeats 60000000 in
set_option maxRecDepth 100000 in
theorem tlv_Put.calls (k : Nat) (A1 : Option Addr) (aW : Nat) (l1 : List (S26)) (r1 : List Int) (r2 : Bool) (w : World) (HR1 : Kd.C k26 w A1 l1.length l1) (HC1 : l1.length ≤ aW) (h : tlv_Put.f k l1 = some (r1, r2)) :
    Calls Try.prog 14 #[.slice none 0 0, .slice A1 l1.length aW] w fun e w' => ∃ v0_ : Value, e = .returned (.tuple #[v0_, .bool r2]) ∧ Kd.R (Kd.int .u8) 5 w' w.heap.size (fun _ => True) v0_ r1 ∧ Below w.heap.size w w' := by
 have H := h
 clear h
 unfold tlv_Put.f at H
 refine calls_of_wp (fn := Try.f14) (by kernel_rfl) rfl ?_
 have hS := St.enter #[.slice none 0 0, .slice A1 l1.length aW] 42 (by simp) [(0, .slice none 0 0), (1, .slice A1 l1.length aW)] (by simp)
 have bW := Below.refl w.heap.size w
 refine wp_seq_k (fun K1 b8 => ?_)
 refine reg_seq (I := I1_ w) (ps := [IsV (.slice none 0 0), VB false]) (by kernel_rfl) ?_ ?_ rfl hS bW ?_ ?_
 ·exact bs1
 ·exact .v (.v (.nil))
 ·refine .on rfl (fun a w hS hI hp => does_val (x_assign rfl (rfl)) rfl) ?_
  refine .on rfl (fun a w hS hI hp => does_val (x_assign rfl (rfl)) rfl) ?_
  exact .nil
 clear hS
 intro cv w3 hS ce hp
 clear hp
 refine b8 _ _ ?_
 refine wp_seq_k (fun K4 b9 => ?_)
 refine wp_seq_k (fun K5 ca => ?_)
 refine reg_seq (I := I2_ w w3) (ps := [IsV (.slice A1 l1.length aW), VI (l1.length : Int), VB (decide ((l1.length : Int) > 8))]) (by kernel_rfl) ?_ ?_ rfl hS ⟨ce, (bR w3)⟩ ?_ ?_
 ·exact bs2
 ·exact .v (.v (.v (.nil)))
 ·refine .ms 1 rfl rfl rfl ?_
  refine .on rfl (fun a w hS hI hp => does_val (x_len (e := 26) rfl (by kernel_rfl) (hp.V 0 rfl rfl)) rfl) ?_
  refine .on rfl (fun a w hS hI hp => does_val (x_bin rfl (hp.V 1 rfl rfl) (rfl) (b_gtr _ _ _ _ _ _)) rfl) ?_
  exact .nil
 clear hS
 intro cw w7 hS bQ hp
 have bs : sl _ 11 = .bool (decide ((l1.length : Int) > 8)) := hp 2 (by decide)
 have hS := hS.cons bs
 clear hp bs
 refine ca _ _ ?_
 by_cases c1 : (l1.length : Int) > 8
 ·rw [if_pos c1] at H
  simp only [Option.some.injEq, Prod.mk.injEq] at H
  obtain ⟨rfl, rfl⟩ := H
  refine wp_cond_true ((hS.get 0 rfl).trans (bT (decide_eq_true c1))) ?_
  refine wp_seq_k (fun K8 bn => ?_)
  refine reg_seq (I := I2_ w w7) (ps := [IsV (.slice none 0 0), IsV (.slice none 0 0), VB false]) (by kernel_rfl) ?_ ?_ rfl hS ⟨bQ.1, (bR w7)⟩ ?_ ?_
  ·exact bs2
  ·exact .v (.v (.v (.nil)))
  ·refine .ms 1 rfl rfl rfl ?_
   refine .asg 0 rfl rfl rfl ?_
   refine .on rfl (fun a w hS hI hp => does_val (x_assign rfl (rfl)) rfl) ?_
   exact .nil
  clear hS
  intro b7 bG hS a6 hp
  replace hS := hS.nil
  have aC : sl _ 4 = .slice none 0 0 := hp 1 (by decide)
  have aD : sl _ 5 = .bool false := hp 2 (by decide)
  have hS := hS.cons aC
  have hS := hS.cons aD
  clear hp aC aD
  refine bn _ _ ?_
  refine wp_ret ?_
  (try simp only [Exit.then, Exit.inBlock, Exit.jump, Exit.noGoto])
  exact bodyPost_ret (v := .tuple #[.slice none 0 0, .bool false]) (results_list (rs := [.tmp 4, .tmp 5]) rfl (by simp) (Vals.at (hS.get 1 rfl) (Vals.at (hS.get 0 rfl) .nil))) hS.nodef ⟨.slice none 0 0, rfl, Kd.R_nil _ _ _ _ _, a6.1⟩
 rw [if_neg c1] at H
 refine wp_cond_false ((hS.get 0 rfl).trans (bF (decide_eq_false c1))) ?_
 refine wp_skip ?_
 refine b9 _ _ ?_
 refine wp_seq_k (fun K8 bn => ?_)
 refine reg_seq (I := I2_ w w7) (ps := [IsV (.slice none 0 0), IsV (.slice none 0 0), VI (0 : Int), IsV (.slice none 0 0), VI (0 : Int), IsV (.slice none 0 0), IsV (.slice none 0 0)]) (by kernel_rfl) ?_ ?_ rfl hS ⟨bQ.1, (bR w7)⟩ ?_ ?_
 ·exact bs2
 ·exact .v (.v (.v (.v (.v (.v (.v (.nil)))))))
 ·refine .ms 1 rfl rfl rfl ?_
  refine .ms 1 rfl rfl rfl ?_
  refine .on rfl (fun a w hS hI hp => does_val (x_len (e := 5) rfl (by kernel_rfl) (hp.V 1 rfl rfl)) rfl) ?_
  refine .ms 1 rfl rfl rfl ?_
  refine .on rfl (fun a w hS hI hp => does_val (x_len (e := 5) rfl (by kernel_rfl) (hp.V 3 rfl rfl)) rfl) ?_
  refine .on rfl (fun a w hS hI hp => does_val ((by exact x_cutcap (e := 5) (j := 0) (k := 0) rfl (by kernel_rfl) (by kernel_rfl) (hp.V 0 rfl rfl) (hp.V 2 rfl rfl) (hp.V 4 rfl rfl) (by decide) (by decide) (by decide))) rfl) ?_
  refine .asg 5 rfl rfl rfl ?_
  exact .nil
 clear hS
 intro b7 bG hS a6 hp
 replace hS := ((hS.nil).cons (hS.get 2 rfl)).cons (hS.get 1 rfl)
 have bO : sl _ 6 = .slice none 0 0 := hp 6 (by decide)
 have hS := hS.cons bO
 clear hp bO
 refine bn _ _ ?_
 refine wp_seq_k (fun cr bS => ?_)
 refine wp_seq_k (fun ct bU => ?_)
 refine reg_seq (I := I2_ w bG) (ps := [IsV (.slice A1 l1.length aW), VI (l1.length : Int), VI 0]) (by kernel_rfl) ?_ ?_ rfl hS ⟨a6.1, (bR bG)⟩ ?_ ?_
 ·exact bs2
 ·exact .v (.v (.v (.nil)))
 ·refine .ms 2 rfl rfl rfl ?_
  refine .on rfl (fun a w hS hI hp => does_val (x_len (e := 26) rfl (by kernel_rfl) (hp.V 0 rfl rfl)) rfl) ?_
  refine .on rfl (fun a w hS hI hp => does_val (x_move rfl (rfl)) rfl) ?_
  exact .nil
 clear hS
 intro cq cx hS bV hp
 replace hS := ((hS.nil).cons (hS.get 1 rfl)).cons (hS.get 0 rfl)
 have bt : sl _ 19 = .slice A1 l1.length aW := hp 0 (by decide)
 have bu : sl _ 20 = .int .i64 (l1.length : Int) := hp 1 (by decide)
 have bv : sl _ 21 = .int .i64 0 := hp 2 (by decide)
 have hS := hS.cons bt
 have hS := hS.cons bu
 have hS := hS.cons bv
 clear hp bt bu bv
 refine bU _ _ ?_
 refine wp_block ?_
 replace hS := (((((hS.nil).cons (hS.get 0 rfl)).cons (hS.get 1 rfl)).cons (hS.get 2 rfl)).cons (hS.get 3 rfl)).cons (hS.get 4 rfl)
 refine wp_loop_ghost (fun n_ a_ au => ∃ (aj : List Int) (ak : Option Addr) (ag : Nat) (af : List Int) (al : Option Addr) (ah : Nat) (ab : List (S26)) (ax : Option Addr) (az : Nat) (ar aa : Int), tlv_Put.l1 k n_ aj af ab ar aa = some (r1, r2) ∧ St 42 [(0, .slice ak aj.length ag), (6, .slice al af.length ah), (19, .slice ax ab.length az), (20, .int .i64 ar), (21, .int .i64 aa)] a_ ∧ Below w.heap.size w au ∧ aj.length ≤ ag ∧ Kd.R (Kd.int .u8) 5 au w.heap.size (fun _ => True) (.slice ak aj.length ag) aj ∧ af.length ≤ ah ∧ Kd.R (Kd.int .u8) 5 au w.heap.size (fun _ => True) (.slice al af.length ah) af ∧ ab.length ≤ az ∧ Kd.C k26 w ax ab.length ab) k ⟨[], none, 0, [], none, 0, l1, A1, aW, (l1.length : Int), 0, H, hS, bV.1, (Nat.le_refl _), (Kd.R_nil _ _ _ _ _), (Nat.le_refl _), (Kd.R_nil _ _ _ _ _), HC1, (HR1)⟩ ?_
 clear H hS
 rintro n1 cu au ⟨aj, ak, ag, af, al, ah, ab, ax, az, ar, aa, H, hS, a9, bK, a1, bL, a2, br, aT⟩
 rcases n1 with _ | n1
 ·exact absurd H (by simp [tlv_Put.l1])
 rw [tlv_Put.l1] at H
 (try dsimp only at H)
 refine wp_seq_k (fun ch bh => ?_)
 refine reg_seq (I := I2_ w au) (ps := [VB (decide (aa < ar))]) (by kernel_rfl) ?_ ?_ rfl hS ⟨a9, (bR au)⟩ ?_ ?_
 ·exact bs2
 ·exact .v (.nil)
 ·refine .on rfl (fun a w hS hI hp => does_val (x_bin rfl (hS.get 4 rfl) (hS.get 3 rfl) (b_lss _ _ _ _ _ _)) rfl) ?_
  exact .nil
 clear hS
 intro bX an hS ao hp
 have bw : sl _ 22 = .bool (decide (aa < ar)) := hp 0 (by decide)
 have hS := hS.cons bw
 clear hp bw
 refine bh _ _ ?_
 refine wp_seq_k (fun ci bi => ?_)
 by_cases c2 : aa < ar
 rotate_left
 ·rw [if_neg c2] at H
  simp only [Option.some.injEq, Prod.mk.injEq] at H
  obtain ⟨rfl, rfl⟩ := H
  refine wp_cond_false ((hS.get 0 rfl).trans (bF (decide_eq_false c2))) ?_
  refine wp_exit ?_
  (try simp only [Exit.then, Exit.inBlock, reduceIte])
  refine bS _ _ ?_
  refine wp_seq_k (fun bJ aN => ?_)
  refine reg_seq (I := I3_ w au an) (ps := [IsV (.slice al af.length ah), IsV (.slice al af.length ah), VB true]) (by kernel_rfl) ?_ ?_ rfl hS ⟨ao.1, ao.2, (bR an)⟩ ?_ ?_
  ·exact bs3
  ·exact .v (.v (.v (.nil)))
  ·refine .ms 2 rfl rfl rfl ?_
   refine .asg 0 rfl rfl rfl ?_
   refine .on rfl (fun a w hS hI hp => does_val (x_assign rfl (rfl)) rfl) ?_
   exact .nil
  clear hS
  intro bY cn hS a3 hp
  replace hS := hS.nil
  have aC : sl _ 4 = .slice al af.length ah := hp 1 (by decide)
  have aD : sl _ 5 = .bool true := hp 2 (by decide)
  have hS := hS.cons aC
  have hS := hS.cons aD
  clear hp aC aD
  refine aN _ _ ?_
  refine wp_ret ?_
  (try simp only [Exit.then, Exit.inBlock, Exit.jump, Exit.noGoto])
  exact bodyPost_ret (v := .tuple #[.slice al af.length ah, .bool true]) (results_list (rs := [.tmp 4, .tmp 5]) rfl (by simp) (Vals.at (hS.get 1 rfl) (Vals.at (hS.get 0 rfl) .nil))) hS.nodef ⟨.slice al af.length ah, rfl, Kd.R_lower (Kd.R_below a2 a3.2.1) (Nat.le_refl _), a3.1⟩
 rw [if_pos c2] at H
 by_cases c3 : 0 ≤ aa
 rotate_left
 ·rw [if_neg c3] at H
  exact absurd H (by simp)
 rw [if_pos c3] at H
 by_cases c4 : aa < (ab.length : Int)
 rotate_left
 ·rw [if_neg c4] at H
  exact absurd H (by simp)
 rw [if_pos c4] at H
 obtain ⟨aA, be, H⟩ := Option.bind_eq_some_iff.mp H
 refine wp_cond_true ((hS.get 0 rfl).trans (bT (decide_eq_true c2))) ?_
 refine wp_skip ?_
 refine bi _ _ ?_
 refine wp_seq_k (fun bJ aN => ?_)
 refine wp_block ?_
 refine wp_seq_k (fun cj bj => ?_)
 refine reg_seq_tail 3 (I := I3_ w au an) (ps := [IsAT [.int .i64 ((rd_T26 ab aa).f0), .string ((rd_T26 ab aa).f1)], IsV (.agg #[.int .i64 ((rd_T26 ab aa).f0), .string ((rd_T26 ab aa).f1)]), IsB #[.int .i64 0, .string (⟨#[]⟩ : ByteArray)] 26 an.heap.size]) (by kernel_rfl) ?_ ?_ rfl hS ⟨ao.1, ao.2, (bR an)⟩ ?_ ?_
 ·exact bs3
 ·exact .cons (Stays.at_ _) (.v (.cons (Stays.b _ _ _) (.nil)))
 ·refine .on rfl (fun a w hS hI hp => does_indexT tlv_Put.flat26 (e := 26) (xs := ab) (i := aa) z26 rfl (hS.get 3 rfl) (hS.get 5 rfl) (by kernel_rfl) (by kernel_rfl) c3 c4 c4 (by decide) ((Kd.C_below aT hI.1))) ?_
  refine .on rfl (fun a w hS hI hp => does_loadT (cs := [.int .i64 ((rd_T26 ab aa).f0), .string ((rd_T26 ab aa).f1)]) rfl (hp.V 0 rfl rfl) Try.underlying26 rfl (by kernel_rfl)) ?_
  refine .on rfl (fun a w hS hI hp => does_var (x_alloc rfl (by kernel_rfl)) (hI.2.2).size) ?_
  exact .nil
 clear hS
 intro bZ bM hS ap hp
 replace hS := (((((hS.nil).cons (hS.get 5 rfl)).cons (hS.get 4 rfl)).cons (hS.get 3 rfl)).cons (hS.get 2 rfl)).cons (hS.get 1 rfl)
 have bx : sl _ 24 = .agg #[.int .i64 ((rd_T26 ab aa).f0), .string ((rd_T26 ab aa).f1)] := hp 1 (by decide)
 obtain ⟨am, bP, av, aO⟩ := (show IsB _ 26 _ (sl _ 8) _ from hp 2 (by decide))
 have hS := hS.cons bx
 have hS := hS.cons bP
 clear hp bx bP
 show wpList _ _ _ [_] _ _
 refine list_step rfl (does_storeAll (g := am) (cs := #[.int .i64 ((rd_T26 ab aa).f0), .string ((rd_T26 ab aa).f1)]) rfl (hS.get 0 rfl) (hS.get 1 rfl) (((bR bM).block am (blk_lt aO)).trans aO) (by kernel_rfl) (by kernel_rfl) (by kernel_rfl)) ?_
 rintro cf aB ⟨rfl, ad, hT⟩
 have aX := hT.below ap.1 (Nat.le_trans (ao.1).size av) (ap.1).size
 have aP := hT.below ap.2.1 (Nat.le_trans (ao.2).size av) (ap.2.1).size
 have aE := hT.below ap.2.2 av (ap.2.2).size
 clear hT
 refine wpList_nil ?_
 refine bj _ _ ?_
 refine wp_seq_k (fun ck bk => ?_)
 refine wp_seq_k (fun cl bl => ?_)
 refine reg_seq (I := I4_ w au an aB) (ps := [IsV (.agg #[.int .i64 ((rd_T26 ab aa).f0), .string ((rd_T26 ab aa).f1)]), VB aA, VB (!aA)]) (by kernel_rfl) ?_ ?_ rfl hS ⟨aX, aP, aE, (bR aB)⟩ ?_ ?_
 ·exact bs4
 ·exact .v (.v (.v (.nil)))
 ·refine .on rfl (fun a w hS hI hp => does_loadrow rfl (hS.get 0 rfl) (((hI.2.2.2).block am (blk_lt ad)).trans ad) Try.underlying26 rfl (by kernel_rfl) rfl) ?_
  refine .on rfl (fun a w hS hI hp => does_call (by kernel_rfl) (ar1 (hp.V 0 rfl rfl)) ((tlv_Check.calls ((rd_T26 ab aa).f0) ((rd_T26 ab aa).f1) aA _  be).mono fun _ _ h => ⟨_, h.1, h.2, rfl⟩)) ?_
  refine .on rfl (fun a w hS hI hp => does_val (x_not rfl (hp.V 1 rfl rfl)) rfl) ?_
  exact .nil
 clear hS
 intro b0 ai hS ac hp
 replace hS := ((((((hS.nil).cons (hS.get 6 rfl)).cons (hS.get 5 rfl)).cons (hS.get 4 rfl)).cons (hS.get 3 rfl)).cons (hS.get 2 rfl)).cons (hS.get 0 rfl)
 have bz : sl _ 27 = .bool (!aA) := hp 2 (by decide)
 have hS := hS.cons bz
 clear hp bz
 refine bl _ _ ?_
 by_cases c5 : aA = true
 rotate_left
 ·rw [if_neg c5] at H
  simp only [Option.some.injEq, Prod.mk.injEq] at H
  obtain ⟨rfl, rfl⟩ := H
  refine wp_cond_true ((hS.get 0 rfl).trans (bT (congrArg (!·) (Bool.eq_false_iff.2 c5)))) ?_
  refine wp_seq_k (fun cm bm => ?_)
  refine reg_seq (I := I5_ w au an aB ai) (ps := [IsV (.slice ak aj.length ag), IsV (.slice ak aj.length ag), VB false]) (by kernel_rfl) ?_ ?_ rfl hS ⟨ac.1, ac.2.1, ac.2.2.1, ac.2.2.2, (bR ai)⟩ ?_ ?_
  ·exact bs5
  ·exact .v (.v (.v (.nil)))
  ·refine .ms 2 rfl rfl rfl ?_
   refine .asg 0 rfl rfl rfl ?_
   refine .on rfl (fun a w hS hI hp => does_val (x_assign rfl (rfl)) rfl) ?_
   exact .nil
  clear hS
  intro b1 co hS a4 hp
  replace hS := hS.nil
  have aC : sl _ 4 = .slice ak aj.length ag := hp 1 (by decide)
  have aD : sl _ 5 = .bool false := hp 2 (by decide)
  have hS := hS.cons aC
  have hS := hS.cons aD
  clear hp aC aD
  refine bm _ _ ?_
  refine wp_ret ?_
  (try simp only [Exit.then, Exit.inBlock, Exit.jump, Exit.noGoto])
  exact bodyPost_ret (v := .tuple #[.slice ak aj.length ag, .bool false]) (results_list (rs := [.tmp 4, .tmp 5]) rfl (by simp) (Vals.at (hS.get 1 rfl) (Vals.at (hS.get 0 rfl) .nil))) hS.nodef ⟨.slice ak aj.length ag, rfl, Kd.R_lower (Kd.R_below a1 a4.2.1) (Nat.le_refl _), a4.1⟩
 rw [if_pos c5] at H
 obtain ⟨aU, bf, H⟩ := Option.bind_eq_some_iff.mp H
 obtain ⟨ae, bg, H⟩ := Option.bind_eq_some_iff.mp H
 by_cases c6 : ae.length + ((rd_T26 ab aa).f1).size ≤ 140737488355328
 rotate_left
 ·rw [if_neg c6] at H
  exact absurd H (by simp)
 rw [if_pos c6] at H
 refine wp_cond_false ((hS.get 0 rfl).trans (bF (congrArg (!·) c5))) ?_
 refine wp_skip ?_
 refine bk _ _ ?_
 refine reg_any_tail 10 [0, 0, 2, 7, 0, 16, 48, 127, 0, 256, 1023, 2047] (I := I5_ w au an aB ai) (ps := [IsV (.slice al af.length ah), VP am 0, VI ((rd_T26 ab aa).f0), IsR (Kd.int .u8) 5 ai.heap.size aU, VP am 1, IsV (.string ((rd_T26 ab aa).f1)), VI (((rd_T26 ab aa).f1).size : Int), IsR (Kd.int .u8) 5 ai.heap.size ae, VP am 1, IsV (.string ((rd_T26 ab aa).f1))]) (by kernel_rfl) (by kernel_rfl) (by kernel_rfl) (by decide) ?_ ?_ rfl hS ⟨ac.1, ac.2.1, ac.2.2.1, ac.2.2.2, (bR ai)⟩ ?_ ?_
 ·exact bs5
 ·exact .v (.v (.v (.cons (Stays.r _ _ _ _) (.v (.v (.v (.cons (Stays.r _ _ _ _) (.v (.v (.nil))))))))))
 ·refine .ms 3 rfl rfl rfl ?_
  refine .on rfl (fun a w hS hI hp => does_val (x_fieldE (b := 0) rfl (hS.get 1 rfl) Try.underlying26 rfl rfl (by kernel_rfl)) rfl) ?_
  refine .on rfl (fun a w hS hI hp => does_val (x_load1 (d := .int .i64) rfl (hp.V 1 rfl rfl) (by kernel_rfl) rfl ((blk_cell (((hI.2.2.2.1).block am (blk_lt ad)).trans ad) 0).trans rfl)) rfl) ?_
  refine .on rfl (fun a w hS hI hp => does_call (by kernel_rfl) (ar3 (hp.V 0 rfl rfl) (hp.V 2 rfl rfl) (rfl)) ((octets_Put.calls _ _ af ((rd_T26 ab aa).f0) 2 aU _ (Kd.C_below (Kd.R_reads' a2).2.2 hI.2.1) bL bf).mono fun _ _ h => h.elim fun v0 h => ⟨v0, h.1, h.2.2, Kd.R_lower h.2.1 hI.2.2.2.2.size⟩)) ?_
  refine .on rfl (fun a w hS hI hp => does_val (x_fieldE (b := 0) rfl (hS.get 1 rfl) Try.underlying26 rfl rfl (by kernel_rfl)) rfl) ?_
  refine .on rfl (fun a w hS hI hp => does_val (x_load1 (d := .string) rfl (hp.V 4 rfl rfl) (by kernel_rfl) rfl ((blk_cell (((hI.2.2.2.1).block am (blk_lt ad)).trans ad) 1).trans rfl)) rfl) ?_
  refine .on rfl (fun a w hS hI hp => does_val (x_lenS rfl (by kernel_rfl) (hp.V 5 rfl rfl)) rfl) ?_
  refine .on rfl (fun a w hS hI hp => (IsC.of_r (hp.V 3 rfl rfl)).elim fun A_ h_ => h_.elim fun c_ h_ => h_.elim fun hv_ h_ => h_.elim fun hl_ hc_ => does_call (by kernel_rfl) (ar3 (hv_) (hp.V 6 rfl rfl) (rfl)) ((octets_Put.calls _ _ aU (((rd_T26 ab aa).f1).size : Int) 2 ae _ hc_ hl_ bg).mono fun _ _ h => h.elim fun v0 h => ⟨v0, h.1, h.2.2, Kd.R_lower h.2.1 hI.2.2.2.2.size⟩)) ?_
  refine .on rfl (fun a w hS hI hp => does_val (x_fieldE (b := 0) rfl (hS.get 1 rfl) Try.underlying26 rfl rfl (by kernel_rfl)) rfl) ?_
  refine .on rfl (fun a w hS hI hp => does_val (x_load1 (d := .string) rfl (hp.V 8 rfl rfl) (by kernel_rfl) rfl ((blk_cell (((hI.2.2.2.1).block am (blk_lt ad)).trans ad) 1).trans rfl)) rfl) ?_
  exact .nil
 clear hS
 intro b2 aV hS bC hp
 replace hS := (((((hS.nil).cons (hS.get 6 rfl)).cons (hS.get 5 rfl)).cons (hS.get 4 rfl)).cons (hS.get 3 rfl)).cons (hS.get 2 rfl)
 obtain ⟨bH, bI, a5, cd, cb⟩ := Kd.R_reads (show Kd.R (Kd.int .u8) 5 aV ai.heap.size (fun _ => True) (sl _ 36) ae from hp 7 (by decide))
 have bp : Kd.R (Kd.int .u8) 5 aV ai.heap.size (fun _ => True) (.slice bH ae.length bI) ae := a5 ▸ (hp 7 (by decide))
 have bA : sl _ 38 = .string ((rd_T26 ab aa).f1) := hp 9 (by decide)
 have hS := hS.cons a5
 have hS := hS.cons bA
 clear hp a5 bA
 show wpList _ _ _ [_, _] _ _
 refine list_step rfl (does_moreS (W := ai) (.tmp 36) (.tmp 38) 31 9 5 rfl (by kernel_rfl) (by kernel_rfl) (by kernel_rfl) _ ae ((rd_T26 ab aa).f1) (hS.get 1 rfl) (hS.get 0 rfl) (Kd.R_below bp (bR aV)) (bC.2.2.2.2) c6) ?_
 rintro cg a7 ⟨hb, hr, hk⟩
 clear hk
 have aY := below_step ac.1 hb
 have aQ := below_step ac.2.1 hb
 have aF := below_step ac.2.2.1 hb
 have aG := below_step ac.2.2.2 hb
 have aH := hb
 replace hS := ((((((hS.nil).cons (hS.get 6 rfl)).cons (hS.get 5 rfl)).cons (hS.get 4 rfl)).cons (hS.get 3 rfl)).cons (hS.get 2 rfl)).cons (hS.get 0 rfl)
 obtain ⟨aw, ay, rfl, bo, cc⟩ := Kd.R_reads hr
 have bq := hr
 clear hr
 refine hS.next (v := .slice aw ((ae ++ bytesOf ((rd_T26 ab aa).f1) : List Int).length) ay) (d := 39) rfl (by decide) (by rfl) ?_
 clear hS
 intro b3 hS
 refine list_step rfl (R := fun v w' => Below _ _ w' ∧ (IsV (.slice aw ((ae ++ bytesOf ((rd_T26 ab aa).f1) : List Int).length) ay)) v w') (does_val (x_assign rfl (hS.get 0 rfl)) rfl) ?_
 rintro bD a8 ⟨hb, he⟩
 have aZ := below_step aY hb
 have aR := below_step aQ hb
 have aI := below_step aF hb
 have aJ := below_step aG hb
 have aK := below_step aH hb
 have aL := below_step (bR a7) hb
 obtain rfl : bD = .slice aw ((ae ++ bytesOf ((rd_T26 ab aa).f1) : List Int).length) ay := he
 replace hS := ((((((hS.nil).cons (hS.get 6 rfl)).cons (hS.get 5 rfl)).cons (hS.get 4 rfl)).cons (hS.get 2 rfl)).cons (hS.get 1 rfl)).cons (hS.get 0 rfl)
 refine hS.next (v := .slice aw ((ae ++ bytesOf ((rd_T26 ab aa).f1) : List Int).length) ay) (d := 6) rfl (by decide) (by rfl) ?_
 clear hS
 intro b4 hS
 refine wpList_nil ?_
 refine aN _ _ ?_
 refine reg_seq_tail 1 (I := I7_ w au an aB ai a7 a8) (ps := [VI (wrap64 (aa + 1))]) (by kernel_rfl) ?_ ?_ rfl hS ⟨aZ, aR, aI, aJ, aK, aL, (bR a8)⟩ ?_ ?_
 ·exact bs7
 ·exact .v (.nil)
 ·refine .on rfl (fun a w hS hI hp => does_val (x_bin rfl (hS.get 6 rfl) (rfl) (b_add _ _ _ _ _)) rfl) ?_
  exact .nil
 clear hS
 intro b5 bN hS aq hp
 replace hS := (((((hS.nil).cons (hS.get 6 rfl)).cons (hS.get 5 rfl)).cons (hS.get 4 rfl)).cons (hS.get 3 rfl)).cons (hS.get 0 rfl)
 have bB : sl _ 40 = .int .i64 (wrap64 (aa + 1)) := hp 0 (by decide)
 have hS := hS.cons bB
 clear hp bB
 show wpList _ _ _ [_] _ _
 refine list_step rfl (R := fun v w' => Below _ _ w' ∧ (VI (wrap64 (aa + 1))) v w') (does_val (x_move rfl (hS.get 0 rfl)) rfl) ?_
 rintro bE cp ⟨hb, he⟩
 have a0 := below_step aq.1 hb
 have aS := below_step aq.2.1 hb
 have ba := below_step aq.2.2.1 hb
 have bb := below_step aq.2.2.2.1 hb
 have bc := below_step aq.2.2.2.2.1 hb
 have aM := below_step aq.2.2.2.2.2.1 hb
 have bd := below_step (bR bN) hb
 obtain rfl : bE = .int .i64 (wrap64 (aa + 1)) := he
 replace hS := (((((hS.nil).cons (hS.get 4 rfl)).cons (hS.get 3 rfl)).cons (hS.get 2 rfl)).cons (hS.get 1 rfl)).cons (hS.get 0 rfl)
 refine hS.next (v := .int .i64 (wrap64 (aa + 1))) (d := 21) rfl (by decide) (by rfl) ?_
 clear hS
 intro b6 hS
 refine wpList_nil ?_
 replace hS := (((((hS.nil).cons (hS.get 0 rfl)).cons (hS.get 5 rfl)).cons (hS.get 4 rfl)).cons (hS.get 2 rfl)).cons (hS.get 3 rfl)
 (try simp only [Exit.then, Exit.inBlock])
 exact ⟨n1, Nat.lt_succ_self _, aj, ak, ag, (ae ++ bytesOf ((rd_T26 ab aa).f1) : List Int), aw, ay, ab, ax, az, ar, wrap64 (aa + 1), H, hS, a0, bK, (Kd.R_lower (Kd.R_below a1 aS) (Nat.le_refl _)), bo, (Kd.R_lower (Kd.R_below bq aM) (ac.1).size), br, (aT)⟩
def octets_PutId.f (l0 : List Int) (a1 : Int) : Option (List Int) := (octets_Put.f l0 (wrap64 (a1)) 8).bind fun t103 => (some t103)
set_option maxHeartbeats 8000000 in
set_option maxRecDepth 100000 in
theorem octets_PutId.calls (A0 : Option Addr) (c0 : Nat) (l0 : List Int) (a1 : Int) (r : List Int) (w : World) (hr0 : Kd.C (Kd.int .u8) w A0 l0.length l0) (hc0 : l0.length ≤ c0) (h : octets_PutId.f l0 a1 = some r) :
    Calls Try.prog 45 #[.slice A0 l0.length c0, .int .u64 a1] w fun e w' => ∃ v0_ : Value, e = .returned (v0_) ∧ Kd.R (Kd.int .u8) 5 w' w.heap.size (fun _ => True) v0_ r ∧ Below w.heap.size w w' := by
  have HR0 := Aside0.mk hr0
  have HC0 := Aside0.mk hc0
  clear hr0 hc0
  have HB := Aside0.mk (Below.refl w.heap.size w)
  have H : ((octets_Put.f l0 (wrap64 (a1)) 8).bind fun t103 => (some t103)) = some r := h
  clear h
  replace H := Option.bind_eq_some_iff.mp H
  obtain ⟨t103, A30, H⟩ := H
  replace H : (some t103) = some r := H
  have A3 := Aside0.mk A30
  clear A30
  obtain rfl := Option.some.inj H
  go_enter Try.func45, Try.ntmps45
  go_wp2_with (first | ((with_reducible refine gate_callee (f := 40) rfl ?_); refine goesL_ (some 8) rfl rfl Try.func40 (by kernel_rfl) rfl #[.slice A0 l0.length c0, .int .i64 (wrap64 (a1)), .int .i64 8] rfl (by (try simp only [List.map_toArray, List.map_cons, List.map_nil]); first | done | rfl | (simp only [List.length_drop, List.length_take]; rfl)) ?_; (with_reducible refine (octets_Put.calls _ _ l0 (wrap64 (a1)) 8 t103 _ ?side1 ?side2 A3.out).mono ?_); (case side1 => repeat (first | exact HR0.out | (with_reducible refine Kd.C_alloc ?_ _) | (with_reducible refine Kd.C_drewN ?_ _) | (with_reducible refine Kd.C_drew ?_))); (case side2 => exact HC0.out); rintro e w4 ⟨v104, rfl, ho0, hb⟩; refine ⟨_, rfl, ?_⟩; have n0_ := Aside0.mk (Kd.R_lower ho0 (below_size (by repeat (first | (with_reducible first | exact HB.out | apply below_alloc | apply pw_below_drewN | apply below_drew1) | exact HB.out)))); have n1_ := Aside0.mk (below_step (by repeat (first | (with_reducible first | exact HB.out | apply below_alloc | apply pw_below_drewN | apply below_drew1) | exact HB.out)) hb); clear HB; have HO105 := n0_; have HB := n1_; clear n0_ n1_; (try clear hb); (try clear hb2); (try clear hk); (try clear hi); (try clear ho0)))
  all_goals
    go_ret
    exact ⟨_, by first | rfl | (simp [errW_none, errW_some] <;> rfl) | (simp [*, errW_none, errW_some] <;> rfl), by (with_reducible repeat (first | apply Kd.R_alloc | apply Kd.R_drewN | apply Kd.R_drew)); exact HO105.out, by repeat (first | (with_reducible first | exact HB.out | apply below_alloc | apply pw_below_drewN | apply below_drew1) | exact HB.out)⟩
def tlv_Path.l0 : Nat → List Int → List Int → Int → Int → Option (Int × ByteArray × Bool)
  | 0, _, _, _, _ => none
  | k + 1, x4, x11, x12, x13 => if x13 < x12 then (if 0 ≤ x13 then (if x13 < (x11.length : Int) then ((octets_PutId.f x4 (rd x11 x13)).bind fun t108 => (tlv_Path.l0 k t108 x11 x12 (wrap64 (x13 + 1)))) else (none)) else (none)) else (some (8, strOfNums x4, true))
def tlv_Path.f (k : Nat) (l0 : List Int) : Option (Int × ByteArray × Bool) := if (l0.length : Int) > 16 then (some (0, (⟨#[]⟩ : ByteArray), false)) else (tlv_Path.l0 k ([] : List Int) l0 (l0.length : Int) 0)
set_option maxHeartbeats 8000000 in
set_option maxRecDepth 100000 in
theorem tlv_Path.calls (k : Nat) (A0 : Option Addr) (c0 : Nat) (l0 : List Int) (r1 : Int) (r2 : ByteArray) (r3 : Bool) (w : World) (hr0 : Kd.C (Kd.int .u64) w A0 l0.length l0) (hc0 : l0.length ≤ c0) (h : tlv_Path.f k l0 = some (r1, r2, r3)) :
    Calls Try.prog 26 #[.slice A0 l0.length c0] w fun e w' => e = .returned (.tuple #[.agg #[.int .i64 r1, .string r2], .bool r3]) ∧ Below w.heap.size w w' := by
  have hu26 := Try.underlying26
  have HR0 := Aside0.mk hr0
  have HC0 := Aside0.mk hc0
  clear hr0 hc0
  have HB := Aside0.mk (Below.refl w.heap.size w)
  have H : (if (l0.length : Int) > 16 then (some (0, (⟨#[]⟩ : ByteArray), false)) else (tlv_Path.l0 k ([] : List Int) l0 (l0.length : Int) 0)) = some (r1, r2, r3) := h
  clear h
  by_cases c2 : (l0.length : Int) > 16
  · rw [if_pos c2] at H
    have c2b0 : decide (16 < (l0.length : Int)) = true := decide_eq_true c2
    have c2b1 : decide (16 < l0.length) = true := decide_eq_true (by omega)
    clear c2
    simp only [Option.some.injEq, Prod.mk.injEq] at H
    obtain ⟨rfl, rfl, rfl⟩ := H
    go_enter Try.func26, Try.ntmps26
    go_wp2_with (first | ((with_reducible refine gate_dst (N := 2) rfl ?_); refine box_event ?hg (N := 2) ?hd (cs := #[.int .i64 0, .string (⟨#[]⟩ : ByteArray)]) (t := 26) ?hr ?_; (case hd => rfl); (case hg => rfl); (case hr => first | (go_simp; done) | (go_simp; rfl)); intro gb106 hg w3 hbox hb; have n0_ := Aside0.mk (below_step (by repeat (first | (with_reducible first | exact HB.out | apply below_alloc | apply pw_below_drewN | apply below_drew1) | exact HB.out)) hb); have n1_ := Aside0.mk (hbox); have n2_ := Aside0.mk ((by rw [hg]; exact (below_size (by repeat (first | (with_reducible first | exact HB.out | apply below_alloc | apply pw_below_drewN | apply below_drew1) | exact HB.out))) : w.heap.size ≤ gb106)); have n3_ := Aside0.mk ((by rw [hg]; exact (below_size (by repeat (first | (with_reducible first | exact HB.out | apply below_alloc | apply pw_below_drewN | apply below_drew1) | exact HB.out))) : w.heap.size ≤ gb106)); clear HB; have HB := n0_; have BK106 := n1_; have GW106 := n2_; have GE106 := n3_; clear n0_ n1_ n2_ n3_; clear hb hbox hg; have hcz4_0 : w3.cell? ⟨gb106, 0, none⟩ = some (.int .i64 0) := (blk_cell BK106.out 0).trans rfl; have hcz4_1 : w3.cell? ⟨gb106, 1, none⟩ = some (.string (⟨#[]⟩ : ByteArray)) := (blk_cell BK106.out 1).trans rfl; have hfz4_0 := blk_frozen BK106.out 0; have hfz4_1 := blk_frozen BK106.out 1))
    refine bodyPost_ret (results_ct rfl _ _ gb106 26 #[.int .i64 0, .string (⟨#[]⟩ : ByteArray)] (0, 0) _ rfl (by (with_reducible repeat (first | refine blk_drewN ?_ _ | refine blk_drew ?_ | refine blk_alloc ?_ _)); refine blk_put (cs := #[.int .i64 0, .string (⟨#[]⟩ : ByteArray)]) ?_ 1 _ rfl; (with_reducible repeat (first | refine blk_drewN ?_ _ | refine blk_drew ?_ | refine blk_alloc ?_ _)); refine blk_put (cs := #[.int .i64 0, .string (⟨#[]⟩ : ByteArray)]) ?_ 0 _ rfl; (with_reducible repeat (first | refine blk_drewN ?_ _ | refine blk_drew ?_ | refine blk_alloc ?_ _)); exact BK106.out) Try.underlying26 rfl (by kernel_rfl)) rfl ?_
    exact ⟨by first | rfl | (simp [errW_none, errW_some] <;> rfl) | (simp [*, errW_none, errW_some] <;> rfl), by repeat (first | (with_reducible first | exact HB.out | apply below_alloc | apply pw_below_drewN | apply below_drew1 | refine below_set ?_ GE106.out) | exact HB.out)⟩
  · rw [if_neg c2] at H
    have c2b0 : decide (16 < (l0.length : Int)) = false := decide_eq_false c2
    have c2b1 : decide (16 < l0.length) = false := decide_eq_false (by omega)
    clear c2
    have H' := Aside0.mk H
    clear H
    go_enter Try.func26, Try.ntmps26
    go_wp2_with (first | ((with_reducible refine gate_dst (N := 2) rfl ?_); refine box_event ?hg (N := 2) ?hd (cs := #[.int .i64 0, .string (⟨#[]⟩ : ByteArray)]) (t := 26) ?hr ?_; (case hd => rfl); (case hg => rfl); (case hr => first | (go_simp; done) | (go_simp; rfl)); intro gb106 hg w5 hbox hb; have n0_ := Aside0.mk (below_step (by repeat (first | (with_reducible first | exact HB.out | apply below_alloc | apply pw_below_drewN | apply below_drew1) | exact HB.out)) hb); have n1_ := Aside0.mk (hbox); have n2_ := Aside0.mk ((by rw [hg]; exact (below_size (by repeat (first | (with_reducible first | exact HB.out | apply below_alloc | apply pw_below_drewN | apply below_drew1) | exact HB.out))) : w.heap.size ≤ gb106)); have n3_ := Aside0.mk ((by rw [hg]; exact (below_size (by repeat (first | (with_reducible first | exact HB.out | apply below_alloc | apply pw_below_drewN | apply below_drew1) | exact HB.out))) : w.heap.size ≤ gb106)); clear HB; have HB := n0_; have BK106 := n1_; have GW106 := n2_; have GE106 := n3_; clear n0_ n1_ n2_ n3_; clear hb hbox hg))
    go_loopg [4, 13] k (fun kq v4 v13 w' => ∃ (x4_1 : List Int) (x13_1 : Int), v13 = .int .i64 x13_1 ∧ Aside0 (tlv_Path.l0 kq x4_1 l0 (l0.length : Int) x13_1 = some (r1, r2, r3)) ∧ Aside0 (kq ≤ k) ∧ Aside0 (Kd.R (Kd.int .u8) 5 w' w.heap.size (fun _ => True) v4 x4_1) ∧ Aside0 (w'.heap[gb106]? = some (.cells #[.int .i64 0, .string (⟨#[]⟩ : ByteArray)] 26 (0, 0))) ∧ Aside0 (Below w.heap.size w w'))
    case atStart => exact ⟨(([] : List Int)), (0), (by first | rfl | (simp; done) | (simp [*]; done)), H', ⟨Nat.le_refl _⟩, ⟨by first | exact Kd.R_nil _ _ _ _ _ | exact Kd.N_nil _ _ _ _ _ | exact Kd.V_nil _ _ _ _ _ | exact Kd.Q_nil _ _ _ _ _ | exact Kd.S_nil _ _ _ _ _⟩, ⟨by (with_reducible repeat (first | refine blk_drewN ?_ _ | refine blk_drew ?_ | refine blk_alloc ?_ _)); exact BK106.out⟩, ⟨by repeat (first | (with_reducible first | exact HB.out | apply below_alloc | apply pw_below_drewN | apply below_drew1 | refine below_set ?_ GE106.out) | exact HB.out)⟩⟩
    case round =>
      clear H'
      try clear c2
      try clear c2b0
      try clear c2b1
      try clear p2
      try clear hcz4_0
      try clear hcz4_1
      try clear hfz4_0
      try clear hfz4_1
      obtain ⟨x4_1, x13_1, rfl, HA, HK1, HO_4, BK106, HB⟩ := hrel
      cases gk with
      | zero => exact absurd HA.out (by simp [tlv_Path.l0])
      | succ k1 =>
        have H := HA.out
        clear HA
        simp only [tlv_Path.l0] at H
        by_cases c6 : x13_1 < (l0.length : Int)
        · rw [if_pos c6] at H
          have c6b0 : decide (x13_1 < (l0.length : Int)) = true := decide_eq_true c6
          clear c6
          by_cases c7 : 0 ≤ x13_1
          · rw [if_pos c7] at H
            have c7b0 : decide (0 ≤ x13_1) = true := decide_eq_true c7
            clear c7
            by_cases c8 : x13_1 < (l0.length : Int)
            · rw [if_pos c8] at H
              have c8b0 : decide (x13_1 < (l0.length : Int)) = true := decide_eq_true c8
              clear c8
              replace H := Option.bind_eq_some_iff.mp H
              obtain ⟨t108, A90, H⟩ := H
              replace H : (tlv_Path.l0 k1 t108 l0 (l0.length : Int) (wrap64 (x13_1 + 1))) = some (r1, r2, r3) := H
              have A9 := Aside0.mk A90
              clear A90
              have H' := Aside0.mk H
              clear H
              have p107 : 0 ≤ (x13_1 : Int) := of_decide_eq_true (by first | (with_reducible assumption) | assumption)
              have q107 : x13_1 < (l0.length : Int) := of_decide_eq_true (by first | (with_reducible assumption) | assumption)
              obtain ⟨ad107, e107, hx107_0⟩ := Kd.at_int HR0.out x13_1 p107 q107
              cases e107
              replace hx107_0 := (HB.out.cell (World.block_lt_of_cell? w _ hx107_0)).trans hx107_0
              replace p107 := eq_true p107
              replace q107 := eq_true q107
              obtain ⟨Ao10, co10, eo10⟩ := Kd.R_slice HO_4.out
              subst eo10
              go_wp2_with (first | ((with_reducible refine gate_callee (f := 45) rfl ?_); refine goesL_ (some 19) rfl rfl Try.func45 (by kernel_rfl) rfl #[.slice Ao10 x4_1.length co10, .int .u64 (rd l0 x13_1)] rfl (by (try simp only [List.map_toArray, List.map_cons, List.map_nil]); first | done | rfl | (simp only [List.length_drop, List.length_take]; rfl)) ?_; (with_reducible refine (octets_PutId.calls _ _ x4_1 (rd l0 x13_1) t108 _ ?side1 ?side2 A9.out).mono ?_); (case side1 => repeat (first | exact (Kd.R_reads' HO_4.out).2.2 | (with_reducible refine Kd.C_alloc ?_ _) | (with_reducible refine Kd.C_drewN ?_ _) | (with_reducible refine Kd.C_drew ?_))); (case side2 => exact (Kd.R_reads' HO_4.out).2.1); rintro e w11 ⟨v109, rfl, ho0, hb⟩; refine ⟨_, rfl, ?_⟩; have n0_ := Aside0.mk (Kd.R_elder' (by (with_reducible repeat (first | apply Kd.R_alloc | apply Kd.R_drewN | apply Kd.R_drew)); exact HO_4.out) (Kd.R_base ho0) hb); have n1_ := Aside0.mk (Kd.R_lower (Kd.R_new' ho0 (Kd.R_lt (by (with_reducible repeat (first | apply Kd.R_alloc | apply Kd.R_drewN | apply Kd.R_drew)); exact HO_4.out))) (below_size (by repeat (first | (with_reducible first | exact HB.out | apply below_alloc | apply pw_below_drewN | apply below_drew1 | refine below_set ?_ GE106.out) | exact HB.out)))); have n2_ := Aside0.mk (blk_below (g := gb106) (o := .cells #[.int .i64 0, .string (⟨#[]⟩ : ByteArray)] 26 (0, 0)) (by (with_reducible repeat (first | refine blk_drewN ?_ _ | refine blk_drew ?_ | refine blk_alloc ?_ _)); exact BK106.out) hb); have n3_ := Aside0.mk (below_step (by repeat (first | (with_reducible first | exact HB.out | apply below_alloc | apply pw_below_drewN | apply below_drew1 | refine below_set ?_ GE106.out) | exact HB.out)) hb); clear HO_4; clear BK106; clear HB; have HO_4 := n0_; have HO110 := n1_; have BK106 := n2_; have HB := n3_; clear n0_ n1_ n2_ n3_; (try clear hb); (try clear hb2); (try clear hk); (try clear hi); (try clear ho0)))
              go_roundg k1
              case measure => have := HK1.out; omega
              case rel => exact ⟨(t108), (wrap64 (x13_1 + 1)), (by first | rfl | (simp; done) | (simp [*]; done)), H', ⟨by have := HK1.out; omega⟩, ⟨by (with_reducible repeat (first | apply Kd.R_alloc | apply Kd.R_drewN | apply Kd.R_drew)); exact Kd.R_mono HO110.out (fun _ hk => trivial)⟩, ⟨by (with_reducible repeat (first | refine blk_drewN ?_ _ | refine blk_drew ?_ | refine blk_alloc ?_ _)); exact BK106.out⟩, ⟨by repeat (first | (with_reducible first | exact HB.out | apply below_alloc | apply pw_below_drewN | apply below_drew1 | refine below_set ?_ GE106.out) | exact HB.out)⟩⟩
            · rw [if_neg c8] at H
              exact absurd H (by simp)
          · rw [if_neg c7] at H
            exact absurd H (by simp)
        · rw [if_neg c6] at H
          have c6b0 : decide (x13_1 < (l0.length : Int)) = false := decide_eq_false c6
          clear c6
          simp only [Option.some.injEq, Prod.mk.injEq] at H
          obtain ⟨rfl, rfl, rfl⟩ := H
          have hcv12 := own_string (P := Try.prog) Try.underlying31 Try.underlying5 Try.underlying9 (Kd.own_of_R HO_4.out)
          have hcz13_0 : wr.cell? ⟨gb106, 0, none⟩ = some (.int .i64 0) := (blk_cell BK106.out 0).trans rfl
          have hcz13_1 : wr.cell? ⟨gb106, 1, none⟩ = some (.string (⟨#[]⟩ : ByteArray)) := (blk_cell BK106.out 1).trans rfl
          have hfz13_0 := blk_frozen BK106.out 0
          have hfz13_1 := blk_frozen BK106.out 1
          go_wp2
          refine bodyPost_ret (results_ct rfl _ _ gb106 26 #[.int .i64 8, .string (strOfNums x4_1)] (0, 0) _ rfl (by (with_reducible repeat (first | refine blk_drewN ?_ _ | refine blk_drew ?_ | refine blk_alloc ?_ _)); refine blk_put (cs := #[.int .i64 8, .string (⟨#[]⟩ : ByteArray)]) ?_ 1 _ rfl; (with_reducible repeat (first | refine blk_drewN ?_ _ | refine blk_drew ?_ | refine blk_alloc ?_ _)); refine blk_put (cs := #[.int .i64 0, .string (⟨#[]⟩ : ByteArray)]) ?_ 0 _ rfl; (with_reducible repeat (first | refine blk_drewN ?_ _ | refine blk_drew ?_ | refine blk_alloc ?_ _)); exact BK106.out) Try.underlying26 rfl (by kernel_rfl)) rfl ?_
          exact ⟨by first | rfl | (simp [errW_none, errW_some] <;> rfl) | (simp [*, errW_none, errW_some] <;> rfl), by repeat (first | (with_reducible first | exact HB.out | apply below_alloc | apply pw_below_drewN | apply below_drew1 | refine below_set ?_ GE106.out) | exact HB.out)⟩
def carillonlaw08_awake.f (k : Nat)  : Option (Bool) := (tlv_Path.f k [1]).bind fun t5 => ((tlv_Put.f k [(⟨t5.1, t5.2.1⟩ : S26)]).bind fun t13 => (if t5.2.2 = true then (if t13.2 = true then (if (t13.1.length : Int) = 12 then (if 4 ≤ (t13.1.length : Int) then (some ((strOfNums (t13.1.take (4 : Int).toNat)).toList == (⟨#[0, 8, 0, 8]⟩ : ByteArray).toList)) else (none)) else (some false)) else (some false)) else (some false)))
open Go.Proofs.Ytgmiokocipmbaaa.E in
theorem carillonlaw08_awake.flat26 : Flat k26 (fun x => [.int .i64 x.f0, .string x.f1]) := ⟨fun w x cs h => k26_open h, fun w base x => k26_mkM w base _ x⟩
open Go.Proofs.Ytgmiokocipmbaaa.E in
set_option maxHeartbeats 60000000 in
set_option maxRecDepth 100000 in
theorem carillonlaw08_awake.calls (k : Nat) (r : Bool) (w : World) (h : carillonlaw08_awake.f k  = some r) :
    Calls Try.prog 11 #[] w fun e w' => e = .returned (.bool r) ∧ Below w.heap.size w w' := by
 have H := h
 clear h
 unfold carillonlaw08_awake.f at H
 obtain ⟨t5, aM, H⟩ := Option.bind_eq_some_iff.mp H
 obtain ⟨ae, af, ac⟩ := t5
 (try dsimp only at H)
 obtain ⟨aQ, aI, H⟩ := Option.bind_eq_some_iff.mp H
 obtain ⟨aa, ab⟩ := aQ
 (try dsimp only at H)
 refine calls_of_wp (fn := Try.f11) (by kernel_rfl) rfl ?_
 have hS := St.enter #[] 31 (by simp) [] (by simp)
 have aN := Below.refl w.heap.size w
 refine wp_seq_k (fun K1 aO => ?_)
 refine reg_seq (I := I1_ w) (ps := [VB false]) (by kernel_rfl) ?_ ?_ rfl hS aN ?_ ?_
 ·exact bs1
 ·exact .v (.nil)
 ·refine .on rfl (fun a w hS hI hp => does_val (x_assign rfl (rfl)) rfl) ?_
  exact .nil
 clear hS
 intro aV w3 hS aH hp
 clear hp
 refine aO _ _ ?_
 refine wp_seq_k (fun K4 aP => ?_)
 refine reg_seq_tail 6 (I := I2_ w w3) (ps := [IsR (Kd.int .u64) 58 w3.heap.size [1], IsV (.tuple #[.agg #[.int .i64 ae, .string af], .bool ac]), IsV (.tuple #[.agg #[.int .i64 ae, .string af], .bool ac]), IsV (.agg #[.int .i64 ae, .string af]), VB ac, IsB #[.int .i64 0, .string (⟨#[]⟩ : ByteArray)] 26 w3.heap.size]) (by kernel_rfl) ?_ ?_ rfl hS ⟨aH, (bR w3)⟩ ?_ ?_
 ·exact bs2
 ·exact .cons (Stays.r _ _ _ _) (.v (.v (.v (.v (.cons (Stays.b _ _ _) (.nil))))))
 ·refine .on rfl (fun a w hS hI hp => does_lit w3.heap.size 45 58 1 _ [(0, .int .u64 1)] [1] rfl (by kernel_rfl) (by rw [Array.toList_map]; exact (show [(0, a.eval (.const (.int .u64 1)))] = _ from (li_cons (rfl) rfl))) (by kernel_rfl) rfl (hI.2).size (Nat.le_of_ble_eq_true rfl)) ?_
  refine .on rfl (fun a w hS hI hp => (IsC.of_r (hp.V 0 rfl rfl)).elim fun A_ h_ => h_.elim fun c_ h_ => h_.elim fun hv_ h_ => h_.elim fun hl_ hc_ => does_call (by kernel_rfl) (ar1 (hv_)) ((tlv_Path.calls k _ _ [1] ae af ac _ hc_ hl_ aM).mono fun _ _ h => ⟨_, h.1, h.2, rfl⟩)) ?_
  refine .mv 1 rfl rfl rfl ?_
  iterate 2 refine .on rfl (fun a w hS hI hp => does_val (x_extract rfl (hp.V 2 rfl rfl) rfl) rfl) ?_
  refine .on rfl (fun a w hS hI hp => does_var (x_alloc rfl (by kernel_rfl)) (hI.2).size) ?_
  exact .nil
 clear hS
 intro aW w7 hS av hp
 have aF : sl _ 8 = .agg #[.int .i64 ae, .string af] := hp 3 (by decide)
 have aG : sl _ 9 = .bool ac := hp 4 (by decide)
 obtain ⟨g8, aD, au, aq⟩ := (show IsB _ 26 _ (sl _ 1) _ from hp 5 (by decide))
 have hS := hS.cons aF
 have hS := hS.cons aG
 have hS := hS.cons aD
 clear hp aF aG aD
 show wpList _ _ _ [_, _] _ _
 refine list_step rfl (does_storeAll (g := g8) (cs := #[.int .i64 ae, .string af]) rfl (hS.get 0 rfl) (hS.get 2 rfl) (((bR w7).block g8 (blk_lt aq)).trans aq) (by kernel_rfl) (by kernel_rfl) (by kernel_rfl)) ?_
 rintro aX w9 ⟨rfl, ar, hT⟩
 have ay := hT.below av.1 (Nat.le_trans (aH).size au) (av.1).size
 have ax := hT.below av.2 au (av.2).size
 clear hT
 refine list_step rfl (R := fun v w' => Below _ _ w' ∧ (VB ac) v w') (does_val (x_assign rfl (hS.get 1 rfl)) rfl) ?_
 rintro aL ag ⟨hb, he⟩
 have aw := below_step ay hb
 have ao := below_step ax hb
 have ap := below_step (bR w9) hb
 obtain rfl : aL = .bool ac := he
 refine hS.next (v := .bool ac) (d := 2) rfl (by decide) (by rfl) ?_
 clear hS
 intro aR hS
 refine wpList_nil ?_
 refine aP _ _ ?_
 refine wp_seq_k (fun aU az => ?_)
 refine reg_seq (I := I4_ w w3 w9 ag) (ps := [IsV (.agg #[.int .i64 ae, .string af]), IsR k26 26 ag.heap.size [(⟨ae, af⟩ : S26)], IsT (fun v0_ => #[v0_, .bool ab]) (IsR (Kd.int .u8) 5 ag.heap.size aa), IsT (fun v0_ => #[v0_, .bool ab]) (IsR (Kd.int .u8) 5 ag.heap.size aa), IsR (Kd.int .u8) 5 ag.heap.size aa, VB ab, IsR (Kd.int .u8) 5 ag.heap.size aa, VB ab]) (by kernel_rfl) ?_ ?_ rfl hS ⟨aw, ao, ap, (bR ag)⟩ ?_ ?_
 ·exact bs4
 ·exact .v (.cons (Stays.r _ _ _ _) (.cons (Stays.t _ (Stays.r _ _ _ _)) (.cons (Stays.t _ (Stays.r _ _ _ _)) (.cons (Stays.r _ _ _ _) (.v (.cons (Stays.r _ _ _ _) (.v (.nil))))))))
 ·refine .on rfl (fun a w hS hI hp => does_loadrow rfl (hS.get 1 rfl) (((hI.2.2.1).block g8 (blk_lt ar)).trans ar) Try.underlying26 rfl (by kernel_rfl) rfl) ?_
  refine .on rfl (fun a w hS hI hp => does_litT carillonlaw08_awake.flat26 ag.heap.size 22 26 _ [(0, .agg #[.int .i64 ae, .string af])] (⟨ae, af⟩ : S26) rfl (by kernel_rfl) (by rw [Array.toList_map]; exact (show [(0, a.eval (.tmp 11))] = _ from (li_cons (hp.V 0 rfl rfl) rfl))) (by kernel_rfl) (hI.2.2.2).size) ?_
  refine .on rfl (fun a w hS hI hp => (IsC.of_r (hp.V 1 rfl rfl)).elim fun A_ h_ => h_.elim fun c_ h_ => h_.elim fun hv_ h_ => h_.elim fun hl_ hc_ => does_call (by kernel_rfl) (ar2 (rfl) (hv_)) ((tlv_Put.calls k _ _ [(⟨ae, af⟩ : S26)] aa ab _ hc_ hl_ aI).mono fun _ _ h => h.elim fun v0 h => ⟨_, h.1, h.2.2, v0, rfl, Kd.R_lower h.2.1 hI.2.2.2.size⟩)) ?_
  refine .on rfl (fun a w hS hI hp => does_val (x_move rfl rfl) (hp.V 2 rfl rfl)) ?_
  refine .on rfl (fun a w hS hI hp => (hp.V 3 rfl rfl).elim fun v0 h0 => does_val (x_extract rfl h0.1 rfl) h0.2) ?_
  refine .on rfl (fun a w hS hI hp => (hp.V 3 rfl rfl).elim fun v0 h0 => does_val (x_extract rfl h0.1 rfl) rfl) ?_
  refine .on rfl (fun a w hS hI hp => does_val (x_assign rfl rfl) (hp.V 4 rfl rfl)) ?_
  refine .asg 5 rfl rfl rfl ?_
  exact .nil
 clear hS
 intro aS ai hS ad hp
 replace hS := (hS.nil).cons (hS.get 0 rfl)
 obtain ⟨al, am, aA, aK, aJ⟩ := Kd.R_reads (show Kd.R (Kd.int .u8) 5 ai ag.heap.size (fun _ => True) (sl _ 3) aa from hp 6 (by decide))
 have aT : Kd.R (Kd.int .u8) 5 ai ag.heap.size (fun _ => True) (.slice al aa.length am) aa := aA ▸ (hp 6 (by decide))
 have aE : sl _ 4 = .bool ab := hp 7 (by decide)
 have hS := hS.cons aA
 have hS := hS.cons aE
 clear hp aA aE
 by_cases c1 : ac = true
 rotate_left
 ·rw [if_neg c1] at H
  obtain rfl := Option.some.inj H
  refine az _ _ ?_
  refine wp_seq_k (fun aC ak => ?_)
  refine reg_seq (I := I5_ w w3 w9 ag ai) (ps := [VB ac, VB ac, VU, VB false, VB false, VU, VU, VU, VB false, VB false, VU, VU, VU, VU, VB false, VB false]) (by kernel_rfl) ?_ ?_ rfl hS ⟨ad.1, ad.2.1, ad.2.2.1, ad.2.2.2, (bR ai)⟩ ?_ ?_
  ·exact bs5
  ·exact .v (.v (.v (.v (.v (.v (.v (.v (.v (.v (.v (.v (.v (.v (.v (.v (.nil))))))))))))))))
  ·refine .ms 2 rfl rfl rfl ?_
   refine .mv 0 rfl rfl rfl ?_
   refine .sn 1 17 rfl rfl ((Bool.eq_false_iff.2 c1)) ?_
   refine .pf 1 rfl rfl rfl ((Bool.eq_false_iff.2 c1)) (fun _ => rfl) ?_
   refine .mv 3 rfl rfl rfl ?_
   iterate 3 refine .sn 4 20 rfl rfl rfl ?_
   refine .pf 4 rfl rfl rfl rfl (fun _ => rfl) ?_
   refine .mv 8 rfl rfl rfl ?_
   iterate 4 refine .sn 9 25 rfl rfl rfl ?_
   refine .pf 9 rfl rfl rfl rfl (fun _ => rfl) ?_
   refine .asg 14 rfl rfl rfl ?_
   exact .nil
  clear hS
  intro an aB hS aj hp
  replace hS := hS.nil
  have ah : sl _ 0 = .bool false := hp 15 (by decide)
  have hS := hS.cons ah
  clear hp ah
  refine ak _ _ ?_
  refine wp_ret ?_
  (try simp only [Exit.then, Exit.inBlock, Exit.jump, Exit.noGoto])
  exact bodyPost_ret (v := .bool false) (results_single rfl (Vals.at (hS.get 0 rfl) .nil)) hS.nodef ⟨rfl, aj.1⟩
 rw [if_pos c1] at H
 refine az _ _ ?_
 by_cases c2 : ab = true
 rotate_left
 ·rw [if_neg c2] at H
  obtain rfl := Option.some.inj H
  refine wp_seq_k (fun aC ak => ?_)
  refine reg_seq (I := I5_ w w3 w9 ag ai) (ps := [VB ac, VB ac, VB ab, VB ab, VB ab, VU, VU, VU, VB false, VB false, VU, VU, VU, VU, VB false, VB false]) (by kernel_rfl) ?_ ?_ rfl hS ⟨ad.1, ad.2.1, ad.2.2.1, ad.2.2.2, (bR ai)⟩ ?_ ?_
  ·exact bs5
  ·exact .v (.v (.v (.v (.v (.v (.v (.v (.v (.v (.v (.v (.v (.v (.v (.v (.nil))))))))))))))))
  ·refine .ms 2 rfl rfl rfl ?_
   refine .mv 0 rfl rfl rfl ?_
   refine .oy 1 17 rfl rfl c1 (fun a w hS hI hp => does_val (x_move rfl (hS.get 0 rfl)) rfl) ?_
   refine .pt 1 2 rfl rfl rfl c1 rfl ?_
   refine .mv 3 rfl rfl rfl ?_
   iterate 3 refine .sn 4 20 rfl rfl ((Bool.eq_false_iff.2 c2)) ?_
   refine .pf 4 rfl rfl rfl ((Bool.eq_false_iff.2 c2)) (fun _ => rfl) ?_
   refine .mv 8 rfl rfl rfl ?_
   iterate 4 refine .sn 9 25 rfl rfl rfl ?_
   refine .pf 9 rfl rfl rfl rfl (fun _ => rfl) ?_
   refine .asg 14 rfl rfl rfl ?_
   exact .nil
  clear hS
  intro an aB hS aj hp
  replace hS := hS.nil
  have ah : sl _ 0 = .bool false := hp 15 (by decide)
  have hS := hS.cons ah
  clear hp ah
  refine ak _ _ ?_
  refine wp_ret ?_
  (try simp only [Exit.then, Exit.inBlock, Exit.jump, Exit.noGoto])
  exact bodyPost_ret (v := .bool false) (results_single rfl (Vals.at (hS.get 0 rfl) .nil)) hS.nodef ⟨rfl, aj.1⟩
 rw [if_pos c2] at H
 refine wp_seq_k (fun aC ak => ?_)
 by_cases c3 : (aa.length : Int) = 12
 rotate_left
 ·rw [if_neg c3] at H
  obtain rfl := Option.some.inj H
  refine reg_seq (I := I5_ w w3 w9 ag ai) (ps := [VB ac, VB ac, VB ab, VB ab, VB ab, IsV (.slice al aa.length am), VI (aa.length : Int), VB (decide ((aa.length : Int) = 12)), VB (decide ((aa.length : Int) = 12)), VB (decide ((aa.length : Int) = 12)), VU, VU, VU, VU, VB false, VB false]) (by kernel_rfl) ?_ ?_ rfl hS ⟨ad.1, ad.2.1, ad.2.2.1, ad.2.2.2, (bR ai)⟩ ?_ ?_
  ·exact bs5
  ·exact .v (.v (.v (.v (.v (.v (.v (.v (.v (.v (.v (.v (.v (.v (.v (.v (.nil))))))))))))))))
  ·refine .ms 2 rfl rfl rfl ?_
   refine .mv 0 rfl rfl rfl ?_
   refine .oy 1 17 rfl rfl c1 (fun a w hS hI hp => does_val (x_move rfl (hS.get 0 rfl)) rfl) ?_
   refine .pt 1 2 rfl rfl rfl c1 rfl ?_
   refine .mv 3 rfl rfl rfl ?_
   refine .oy 4 20 rfl rfl c2 (fun a w hS hI hp => does_val (x_move rfl (hS.get 1 rfl)) rfl) ?_
   refine .oy 4 20 rfl rfl c2 (fun a w hS hI hp => does_val (x_len (e := 5) rfl (by kernel_rfl) (hp.V 5 rfl rfl)) rfl) ?_
   refine .oy 4 20 rfl rfl c2 (fun a w hS hI hp => does_val (x_bin rfl (hp.V 6 rfl rfl) (rfl) (b_eql _ _ _ _ _ _)) rfl) ?_
   refine .pt 4 7 rfl rfl rfl c2 rfl ?_
   refine .mv 8 rfl rfl rfl ?_
   iterate 4 refine .sn 9 25 rfl rfl ((decide_eq_false c3)) ?_
   refine .pf 9 rfl rfl rfl ((decide_eq_false c3)) (fun _ => rfl) ?_
   refine .asg 14 rfl rfl rfl ?_
   exact .nil
  clear hS
  intro an aB hS aj hp
  replace hS := hS.nil
  have ah : sl _ 0 = .bool false := hp 15 (by decide)
  have hS := hS.cons ah
  clear hp ah
  refine ak _ _ ?_
  refine wp_ret ?_
  (try simp only [Exit.then, Exit.inBlock, Exit.jump, Exit.noGoto])
  exact bodyPost_ret (v := .bool false) (results_single rfl (Vals.at (hS.get 0 rfl) .nil)) hS.nodef ⟨rfl, aj.1⟩
 rw [if_pos c3] at H
 by_cases c4 : 4 ≤ (aa.length : Int)
 rotate_left
 ·rw [if_neg c4] at H
  exact absurd H (by simp)
 rw [if_pos c4] at H
 obtain rfl := Option.some.inj H
 refine reg_seq (I := I5_ w w3 w9 ag ai) (ps := [VB ac, VB ac, VB ab, VB ab, VB ab, IsV (.slice al aa.length am), VI (aa.length : Int), VB (decide ((aa.length : Int) = 12)), VB (decide ((aa.length : Int) = 12)), VB (decide ((aa.length : Int) = 12)), IsV (.slice al aa.length am), IsV (.slice al ((aa.take (4 : Int).toNat).length) am), IsV (.string (strOfNums (aa.take (4 : Int).toNat))), VB ((strOfNums (aa.take (4 : Int).toNat)).toList == (⟨#[0, 8, 0, 8]⟩ : ByteArray).toList), VB ((strOfNums (aa.take (4 : Int).toNat)).toList == (⟨#[0, 8, 0, 8]⟩ : ByteArray).toList), VB ((strOfNums (aa.take (4 : Int).toNat)).toList == (⟨#[0, 8, 0, 8]⟩ : ByteArray).toList)]) (by kernel_rfl) ?_ ?_ rfl hS ⟨ad.1, ad.2.1, ad.2.2.1, ad.2.2.2, (bR ai)⟩ ?_ ?_
 ·exact bs5
 ·exact .v (.v (.v (.v (.v (.v (.v (.v (.v (.v (.v (.v (.v (.v (.v (.v (.nil))))))))))))))))
 ·refine .ms 2 rfl rfl rfl ?_
  refine .mv 0 rfl rfl rfl ?_
  refine .oy 1 17 rfl rfl c1 (fun a w hS hI hp => does_val (x_move rfl (hS.get 0 rfl)) rfl) ?_
  refine .pt 1 2 rfl rfl rfl c1 rfl ?_
  refine .mv 3 rfl rfl rfl ?_
  refine .oy 4 20 rfl rfl c2 (fun a w hS hI hp => does_val (x_move rfl (hS.get 1 rfl)) rfl) ?_
  refine .oy 4 20 rfl rfl c2 (fun a w hS hI hp => does_val (x_len (e := 5) rfl (by kernel_rfl) (hp.V 5 rfl rfl)) rfl) ?_
  refine .oy 4 20 rfl rfl c2 (fun a w hS hI hp => does_val (x_bin rfl (hp.V 6 rfl rfl) (rfl) (b_eql _ _ _ _ _ _)) rfl) ?_
  refine .pt 4 7 rfl rfl rfl c2 rfl ?_
  refine .mv 8 rfl rfl rfl ?_
  refine .oy 9 25 rfl rfl ((decide_eq_true c3)) (fun a w hS hI hp => does_val (x_move rfl (hS.get 1 rfl)) rfl) ?_
  refine .oy 9 25 rfl rfl ((decide_eq_true c3)) (fun a w hS hI hp => does_val (x_cuthi rfl (e := 5) (xs := aa) (by kernel_rfl) (by kernel_rfl) (hp.V 10 rfl rfl) (rfl) (by decide) c4 aK) rfl) ?_
  refine .oy 9 25 rfl rfl ((decide_eq_true c3)) (fun a w hS hI hp => does_val (x_conv rfl (hp.V 11 rfl rfl) (Kd.C_string (by kernel_rfl) (e := 5) (by kernel_rfl) (by kernel_rfl) (Kd.C_take (m := (4 : Int).toNat) (Kd.C_below aJ hI.2.2.2.2) (by have := c4; omega)))) rfl) ?_
  refine .oy 9 25 rfl rfl ((decide_eq_true c3)) (fun a w hS hI hp => does_val (x_bin rfl (hp.V 12 rfl rfl) (rfl) (b_eqs _ _ _ _ _)) rfl) ?_
  refine .pt 9 13 rfl rfl rfl ((decide_eq_true c3)) rfl ?_
  refine .asg 14 rfl rfl rfl ?_
  exact .nil
 clear hS
 intro an aB hS aj hp
 replace hS := hS.nil
 have ah : sl _ 0 = .bool ((strOfNums (aa.take (4 : Int).toNat)).toList == (⟨#[0, 8, 0, 8]⟩ : ByteArray).toList) := hp 15 (by decide)
 have hS := hS.cons ah
 clear hp ah
 refine ak _ _ ?_
 refine wp_ret ?_
 (try simp only [Exit.then, Exit.inBlock, Exit.jump, Exit.noGoto])
 exact bodyPost_ret (v := .bool ((strOfNums (aa.take (4 : Int).toNat)).toList == (⟨#[0, 8, 0, 8]⟩ : ByteArray).toList)) (results_single rfl (Vals.at (hS.get 0 rfl) .nil)) hS.nodef ⟨rfl, aj.1⟩
def octets_none.f (l0 : List Int) (a1 : Int) (a2 : Int) : Option (Bool) := if a2 < 0 then (some true) else (if a1 < 0 then (some true) else (if a1 > (l0.length : Int) then (some true) else (some (decide (a2 > (wrap64 ((l0.length : Int) - a1)))))))
set_option maxHeartbeats 8000000 in
set_option maxRecDepth 100000 in
theorem octets_none.calls (A0 : Option Addr) (c0 : Nat) (l0 : List Int) (a1 : Int) (a2 : Int) (r : Bool) (w : World) (hr0 : Kd.C (Kd.int .u8) w A0 l0.length l0) (hc0 : l0.length ≤ c0) (h : octets_none.f l0 a1 a2 = some r) :
    Calls Try.prog 49 #[.slice A0 l0.length c0, .int .i64 a1, .int .i64 a2] w fun e w' => e = .returned (.bool r) ∧ Drawn0 w w' := by
  have HR0 := Aside0.mk hr0
  have HC0 := Aside0.mk hc0
  clear hr0 hc0
  have H : (if a2 < 0 then (some true) else (if a1 < 0 then (some true) else (if a1 > (l0.length : Int) then (some true) else (some (decide (a2 > (wrap64 ((l0.length : Int) - a1)))))))) = some r := h
  clear h
  by_cases c4 : a2 < 0
  · rw [if_pos c4] at H
    have c4b0 : decide (a2 < 0) = true := decide_eq_true c4
    clear c4
    obtain rfl := Option.some.inj H
    go_enter Try.func49, Try.ntmps49
    go_wp2
    all_goals
      go_ret
      exact ⟨by first | rfl | (simp; done) | (simp [*]; done), by repeat (first | exact Drawn0.refl _ | apply Drawn0.step)⟩
  · rw [if_neg c4] at H
    have c4b0 : decide (a2 < 0) = false := decide_eq_false c4
    clear c4
    by_cases c5 : a1 < 0
    · rw [if_pos c5] at H
      have c5b0 : decide (a1 < 0) = true := decide_eq_true c5
      clear c5
      obtain rfl := Option.some.inj H
      go_enter Try.func49, Try.ntmps49
      go_wp2
      all_goals
        go_ret
        exact ⟨by first | rfl | (simp; done) | (simp [*]; done), by repeat (first | exact Drawn0.refl _ | apply Drawn0.step)⟩
    · rw [if_neg c5] at H
      have c5b0 : decide (a1 < 0) = false := decide_eq_false c5
      clear c5
      by_cases c6 : a1 > (l0.length : Int)
      · rw [if_pos c6] at H
        have c6b0 : decide ((l0.length : Int) < a1) = true := decide_eq_true c6
        clear c6
        obtain rfl := Option.some.inj H
        go_enter Try.func49, Try.ntmps49
        go_wp2
        all_goals
          go_ret
          exact ⟨by first | rfl | (simp; done) | (simp [*]; done), by repeat (first | exact Drawn0.refl _ | apply Drawn0.step)⟩
      · rw [if_neg c6] at H
        have c6b0 : decide ((l0.length : Int) < a1) = false := decide_eq_false c6
        clear c6
        obtain rfl := Option.some.inj H
        go_enter Try.func49, Try.ntmps49
        go_wp2
        all_goals
          go_ret
          exact ⟨by first | rfl | (simp; done) | (simp [*]; done), by repeat (first | exact Drawn0.refl _ | apply Drawn0.step)⟩
def octets_read.l0 : Nat → Int → List Int → Int → Int → Option (Int)
  | 0, _, _, _, _ => none
  | k + 1, x3, x6, x7, x8 => if x8 < x7 then (if 0 ≤ x8 then (if x8 < (x6.length : Int) then (octets_read.l0 k (Go.bits .or .u64 (IntKind.u64.wrap (x3 * 256)) (IntKind.u64.wrap (rd x6 x8))) x6 x7 (wrap64 (x8 + 1))) else (none)) else (none)) else (some x3)
def octets_read.f (k : Nat) (l0 : List Int) : Option (Int) := octets_read.l0 k 0 l0 (l0.length : Int) 0
set_option maxHeartbeats 8000000 in
set_option maxRecDepth 100000 in
theorem octets_read.calls (k : Nat) (A0 : Option Addr) (c0 : Nat) (l0 : List Int) (r : Int) (w : World) (hr0 : Kd.C (Kd.int .u8) w A0 l0.length l0) (hc0 : l0.length ≤ c0) (h : octets_read.f k l0 = some r) :
    Calls Try.prog 50 #[.slice A0 l0.length c0] w fun e w' => e = .returned (.int .u64 r) ∧ Drawn0 w w' := by
  have HR0 := Aside0.mk hr0
  have HC0 := Aside0.mk hc0
  clear hr0 hc0
  have H : (octets_read.l0 k 0 l0 (l0.length : Int) 0) = some r := h
  clear h
  have H' := Aside0.mk H
  clear H
  go_enter Try.func50, Try.ntmps50
  go_wp2
  go_loopg [3, 8] k (fun kq v3 v8 w' => ∃ (x3_1 : Int) (x8_1 : Int), v3 = .int .u64 x3_1 ∧ v8 = .int .i64 x8_1 ∧ Aside0 (octets_read.l0 kq x3_1 l0 (l0.length : Int) x8_1 = some r) ∧ Aside0 (kq ≤ k) ∧ Drawn0 w w')
  case atStart => exact ⟨(0), (0), (by first | rfl | (simp; done) | (simp [*]; done)), (by first | rfl | (simp; done) | (simp [*]; done)), H', ⟨Nat.le_refl _⟩, by repeat (first | exact Drawn0.refl _ | apply Drawn0.step)⟩
  case round =>
    clear H'
    obtain ⟨x3_1, x8_1, rfl, rfl, HA, HK1, ⟨m1, rfl⟩⟩ := hrel
    cases gk with
    | zero => exact absurd HA.out (by simp [octets_read.l0])
    | succ k1 =>
      have H := HA.out
      clear HA
      simp only [octets_read.l0] at H
      by_cases c2 : x8_1 < (l0.length : Int)
      · rw [if_pos c2] at H
        have c2b0 : decide (x8_1 < (l0.length : Int)) = true := decide_eq_true c2
        clear c2
        by_cases c3 : 0 ≤ x8_1
        · rw [if_pos c3] at H
          have c3b0 : decide (0 ≤ x8_1) = true := decide_eq_true c3
          clear c3
          by_cases c4 : x8_1 < (l0.length : Int)
          · rw [if_pos c4] at H
            have c4b0 : decide (x8_1 < (l0.length : Int)) = true := decide_eq_true c4
            clear c4
            have H' := Aside0.mk H
            clear H
            have p111 : 0 ≤ (x8_1 : Int) := of_decide_eq_true (by first | (with_reducible assumption) | assumption)
            have q111 : x8_1 < (l0.length : Int) := of_decide_eq_true (by first | (with_reducible assumption) | assumption)
            obtain ⟨ad111, e111, hx111_0⟩ := Kd.at_int HR0.out x8_1 p111 q111
            cases e111
            replace p111 := eq_true p111
            replace q111 := eq_true q111
            go_wp2
            go_roundg k1
            case measure => have := HK1.out; omega
            case rel => exact ⟨(Go.bits .or .u64 (IntKind.u64.wrap (x3_1 * 256)) (IntKind.u64.wrap (rd l0 x8_1))), (wrap64 (x8_1 + 1)), (by first | rfl | (simp; done) | (simp [*]; done)), (by first | rfl | (simp; done) | (simp [*]; done)), H', ⟨by have := HK1.out; omega⟩, by repeat (first | exact Drawn0.refl _ | apply Drawn0.step)⟩
          · rw [if_neg c4] at H
            exact absurd H (by simp)
        · rw [if_neg c3] at H
          exact absurd H (by simp)
      · rw [if_neg c2] at H
        have c2b0 : decide (x8_1 < (l0.length : Int)) = false := decide_eq_false c2
        clear c2
        obtain rfl := Option.some.inj H
        go_wp2
        all_goals
          go_ret
          exact ⟨by first | rfl | (simp; done) | (simp [*]; done), by repeat (first | exact Drawn0.refl _ | apply Drawn0.step)⟩
def octets_Get.f (k : Nat) (l0 : List Int) (a1 : Int) (a2 : Int) : Option (Int × Bool) := if a2 < 1 then (some (0, false)) else (if a2 > 7 then (some (0, false)) else ((octets_none.f l0 a1 a2).bind fun t112 => (if t112 = true then (some (0, false)) else (if 0 ≤ a1 then (if a1 ≤ (wrap64 (a1 + a2)) then (if (wrap64 (a1 + a2)) ≤ (l0.length : Int) then ((octets_read.f k ((l0.take ((wrap64 (a1 + a2)) : Int).toNat).drop (a1 : Int).toNat)).bind fun t114 => (some (wrap64 (t114), true))) else (none)) else (none)) else (none)))))
set_option maxHeartbeats 8000000 in
set_option maxRecDepth 100000 in
theorem octets_Get.calls (k : Nat) (A0 : Option Addr) (c0 : Nat) (l0 : List Int) (a1 : Int) (a2 : Int) (r1 : Int) (r2 : Bool) (w : World) (hr0 : Kd.C (Kd.int .u8) w A0 l0.length l0) (hc0 : l0.length ≤ c0) (h : octets_Get.f k l0 a1 a2 = some (r1, r2)) :
    Calls Try.prog 43 #[.slice A0 l0.length c0, .int .i64 a1, .int .i64 a2] w fun e w' => e = .returned (.tuple #[.int .i64 r1, .bool r2]) ∧ Drawn0 w w' := by
  have HR0 := Aside0.mk hr0
  have HC0 := Aside0.mk hc0
  clear hr0 hc0
  have H : (if a2 < 1 then (some (0, false)) else (if a2 > 7 then (some (0, false)) else ((octets_none.f l0 a1 a2).bind fun t112 => (if t112 = true then (some (0, false)) else (if 0 ≤ a1 then (if a1 ≤ (wrap64 (a1 + a2)) then (if (wrap64 (a1 + a2)) ≤ (l0.length : Int) then ((octets_read.f k ((l0.take ((wrap64 (a1 + a2)) : Int).toNat).drop (a1 : Int).toNat)).bind fun t114 => (some (wrap64 (t114), true))) else (none)) else (none)) else (none)))))) = some (r1, r2) := h
  clear h
  by_cases c4 : a2 < 1
  · rw [if_pos c4] at H
    have c4b0 : decide (a2 < 1) = true := decide_eq_true c4
    clear c4
    simp only [Option.some.injEq, Prod.mk.injEq] at H
    obtain ⟨rfl, rfl⟩ := H
    go_enter Try.func43, Try.ntmps43
    go_wp2
    go_ret2
    exact ⟨by first | rfl | (simp; done) | (simp [*]; done), by repeat (first | exact Drawn0.refl _ | apply Drawn0.step)⟩
  · rw [if_neg c4] at H
    have c4b0 : decide (a2 < 1) = false := decide_eq_false c4
    clear c4
    by_cases c5 : a2 > 7
    · rw [if_pos c5] at H
      have c5b0 : decide (7 < a2) = true := decide_eq_true c5
      clear c5
      simp only [Option.some.injEq, Prod.mk.injEq] at H
      obtain ⟨rfl, rfl⟩ := H
      go_enter Try.func43, Try.ntmps43
      go_wp2
      go_ret2
      exact ⟨by first | rfl | (simp; done) | (simp [*]; done), by repeat (first | exact Drawn0.refl _ | apply Drawn0.step)⟩
    · rw [if_neg c5] at H
      have c5b0 : decide (7 < a2) = false := decide_eq_false c5
      clear c5
      replace H := Option.bind_eq_some_iff.mp H
      obtain ⟨t112, A60, H⟩ := H
      replace H : (if t112 = true then (some (0, false)) else (if 0 ≤ a1 then (if a1 ≤ (wrap64 (a1 + a2)) then (if (wrap64 (a1 + a2)) ≤ (l0.length : Int) then ((octets_read.f k ((l0.take ((wrap64 (a1 + a2)) : Int).toNat).drop (a1 : Int).toNat)).bind fun t114 => (some (wrap64 (t114), true))) else (none)) else (none)) else (none))) = some (r1, r2) := H
      have A6 := Aside0.mk A60
      clear A60
      by_cases c7 : t112 = true
      · subst c7
        have H1 : (some (0, false)) = some (r1, r2) := by rw [if_pos rfl] at H; exact H
        clear H
        have H := H1
        clear H1
        simp only [Option.some.injEq, Prod.mk.injEq] at H
        obtain ⟨rfl, rfl⟩ := H
        go_enter Try.func43, Try.ntmps43
        go_wp2_with (first | (go_at_call 49; (with_reducible refine (octets_none.calls _ _ l0 a1 a2 true _ ?side1 ?side2 A6.out).mono ?_); (case side1 => repeat (first | exact HR0.out | (with_reducible refine Kd.C_alloc ?_ _) | (with_reducible refine Kd.C_drewN ?_ _) | (with_reducible refine Kd.C_drew ?_))); (case side2 => exact HC0.out); rintro e w' ⟨rfl, ⟨nd, rfl⟩⟩))
        go_ret2
        exact ⟨by first | rfl | (simp; done) | (simp [*]; done), by repeat (first | exact Drawn0.refl _ | apply Drawn0.step)⟩
      · replace c7 := Bool.eq_false_iff.mpr c7
        subst c7
        have H1 : (if 0 ≤ a1 then (if a1 ≤ (wrap64 (a1 + a2)) then (if (wrap64 (a1 + a2)) ≤ (l0.length : Int) then ((octets_read.f k ((l0.take ((wrap64 (a1 + a2)) : Int).toNat).drop (a1 : Int).toNat)).bind fun t114 => (some (wrap64 (t114), true))) else (none)) else (none)) else (none)) = some (r1, r2) := by rw [if_neg (show ¬ (false = true) by decide)] at H; exact H
        clear H
        have H := H1
        clear H1
        by_cases c8 : 0 ≤ a1
        · rw [if_pos c8] at H
          have c8b0 := eq_true c8
          have c8b1 : decide (0 ≤ a1) = true := decide_eq_true c8
          clear c8
          by_cases c9 : a1 ≤ (wrap64 (a1 + a2))
          · rw [if_pos c9] at H
            have c9b0 := eq_true c9
            have c9b1 : decide (a1 ≤ (wrap64 (a1 + a2))) = true := decide_eq_true c9
            by_cases c10 : (wrap64 (a1 + a2)) ≤ (l0.length : Int)
            · rw [if_pos c10] at H
              have c10b0 := eq_true c10
              have c10b1 : decide ((wrap64 (a1 + a2)) ≤ (l0.length : Int)) = true := decide_eq_true c10
              replace H := Option.bind_eq_some_iff.mp H
              obtain ⟨t114, A110, H⟩ := H
              replace H : (some (wrap64 (t114), true)) = some (r1, r2) := H
              have A11 := Aside0.mk A110
              clear A110
              simp only [Option.some.injEq, Prod.mk.injEq] at H
              obtain ⟨rfl, rfl⟩ := H
              go_enter Try.func43, Try.ntmps43
              go_wp2_with (first | (go_at_call 49; (with_reducible refine (octets_none.calls _ _ l0 a1 a2 false _ ?side1 ?side2 A6.out).mono ?_); (case side1 => repeat (first | exact HR0.out | (with_reducible refine Kd.C_alloc ?_ _) | (with_reducible refine Kd.C_drewN ?_ _) | (with_reducible refine Kd.C_drew ?_))); (case side2 => exact HC0.out); rintro e w' ⟨rfl, ⟨nd, rfl⟩⟩; obtain ⟨i012, hi012, _, hsz12, _⟩ := info_parts info5; obtain ⟨A12, hcut12, hA12, hC12⟩ := print_mid_of (P := Try.prog) (Value.int .u8) 0 31 5 .i64 .i64 Try.underlying31 hi012 hsz12 A0 c0 l0 a1 (wrap64 (a1 + a2)) (of_decide_eq_true (by first | (with_reducible assumption) | assumption)) (by first | omega | exact of_decide_eq_true (by first | (with_reducible assumption) | assumption)) (of_decide_eq_true (by first | (with_reducible assumption) | assumption)) HC0.out; have HR113 := Aside0.mk (Kd.C_of_reads (h1 := fun _ => rfl) (hA12 _ (Kd.reads_of_C HR0.out))); have HC113 := Aside0.mk hC12; clear hA12 hC12 hi012 hsz12) | ((with_reducible refine gate_callee (f := 50) rfl ?_); refine goesL_ (some 26) rfl rfl Try.func50 (by kernel_rfl) rfl #[.slice A12 ((l0.take ((wrap64 (a1 + a2)) : Int).toNat).drop (a1 : Int).toNat).length (c0 - a1.toNat)] rfl (by (try simp only [List.map_toArray, List.map_cons, List.map_nil]); first | done | (rw [show ((l0.take ((wrap64 (a1 + a2)) : Int).toNat).drop (a1 : Int).toNat).length = ((wrap64 (a1 + a2)).toNat - a1.toNat) from (by rw [List.length_drop, List.length_take]; have h_ : ((wrap64 (a1 + a2)) : Int) ≤ (l0.length : Int) := of_decide_eq_true (by first | (with_reducible assumption) | assumption); omega)] <;> rfl) | rfl | (simp only [List.length_drop, List.length_take]; rfl)) ?_; (with_reducible refine (octets_read.calls k _ _ ((l0.take ((wrap64 (a1 + a2)) : Int).toNat).drop (a1 : Int).toNat) t114 _ ?side1 ?side2 A11.out).mono ?_); (case side1 => repeat (first | exact HR113.out | (with_reducible refine Kd.C_alloc ?_ _) | (with_reducible refine Kd.C_drewN ?_ _) | (with_reducible refine Kd.C_drew ?_))); (case side2 => exact HC113.out); rintro e w' ⟨rfl, ⟨nd, rfl⟩⟩; refine ⟨_, rfl, ?_⟩))
              go_ret2
              exact ⟨by first | rfl | (simp; done) | (simp [*]; done), by repeat (first | exact Drawn0.refl _ | apply Drawn0.step)⟩
            · rw [if_neg c10] at H
              exact absurd H (by simp)
          · rw [if_neg c9] at H
            exact absurd H (by simp)
        · rw [if_neg c8] at H
          exact absurd H (by simp)
end Go.Proofs.Ytgmiokocipmbaaa.P
