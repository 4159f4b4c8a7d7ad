/- Functions and loops of the given program as Lean functions, and that the code comes to what they say: written by this session's own program; Lean checks it. -/
import Derived.Test.YtgmiokocipmbaaaZzPx0
namespace Go.Proofs.Ytgmiokocipmbaaa.P
open Go.RowKit Go.Proofs.YtgmiokocipmbaaaW.PrintWords Go.Proofs.YtgmiokocipmbaaaW.PrintLast Go.Proofs.YtgmiokocipmbaaaW.PrintMore
attribute [local go_sem] max2_int min2_int max_two min_two max_three min_three max_four min_four   -- for this text's walks alone
set_option linter.unusedVariables false
set_option linter.unusedSimpArgs false
def carillonlaw08_few.l0 : Nat → List (S26) → Int → Option (Bool)
  | 0, _, _ => none
  | k + 1, x0, x3 => if x3 < (x0.length : Int) then (if 0 ≤ x3 then (if (((rd_T26 x0 x3).f1).size : Int) > 600 then (some false) else (carillonlaw08_few.l0 k x0 (wrap64 (x3 + 1)))) else (none)) else (some (decide ((x0.length : Int) ≤ 20)))
def carillonlaw08_few.f (k : Nat) (l0 : List (S26)) : Option (Bool) := carillonlaw08_few.l0 k l0 0
set_option maxHeartbeats 8000000 in
set_option maxRecDepth 100000 in
theorem carillonlaw08_few.calls (k : Nat) (A0 : Option Addr) (c0 : Nat) (l0 : List (S26)) (r : Bool) (w : World) (hr0 : Kd.C k26 w A0 l0.length l0) (hc0 : l0.length ≤ c0) (h : carillonlaw08_few.f k l0 = some r) :
    Calls Try.prog 10 #[.slice A0 l0.length c0] w fun e w' => e = .returned (.bool r) ∧ Drawn0 w w' := by
  have HR0 := Aside0.mk hr0
  have HC0 := Aside0.mk hc0
  clear hr0 hc0
  have H : (carillonlaw08_few.l0 k l0 0) = some r := h
  clear h
  have H' := Aside0.mk H
  clear H
  go_enter Try.func10, Try.ntmps10
  go_wp2
  go_loopg [3] k (fun kq v3 w' => ∃ (x3_1 : Int), v3 = .int .i64 x3_1 ∧ Aside0 (carillonlaw08_few.l0 kq l0 x3_1 = some r) ∧ Aside0 (kq ≤ k) ∧ Drawn0 w w')
  case atStart => exact ⟨(0), (by first | rfl | (simp; done) | (simp [*]; done)), H', ⟨Nat.le_refl _⟩, by repeat (first | exact Drawn0.refl _ | apply Drawn0.step)⟩
  case round =>
    clear H'
    try clear c1
    obtain ⟨x3_1, rfl, HA, HK1, ⟨m1, rfl⟩⟩ := hrel
    cases gk with
    | zero => exact absurd HA.out (by simp [carillonlaw08_few.l0])
    | succ k1 =>
      have H := HA.out
      clear HA
      simp only [carillonlaw08_few.l0] at H
      by_cases c2 : x3_1 < (l0.length : Int)
      · rw [if_pos c2] at H
        have c2b0 : decide (x3_1 < (l0.length : Int)) = true := decide_eq_true c2
        clear c2
        by_cases c3 : 0 ≤ x3_1
        · rw [if_pos c3] at H
          have c3b0 : decide (0 ≤ x3_1) = true := decide_eq_true c3
          clear c3
          by_cases c4 : (((rd_T26 l0 x3_1).f1).size : Int) > 600
          · rw [if_pos c4] at H
            have c4b0 : decide (600 < (((rd_T26 l0 x3_1).f1).size : Int)) = true := decide_eq_true c4
            have c4b1 : decide (600 < ((rd_T26 l0 x3_1).f1).size) = true := decide_eq_true (by omega)
            clear c4
            obtain rfl := Option.some.inj H
            have p101 : 0 ≤ (x3_1 : Int) := of_decide_eq_true (by first | (with_reducible assumption) | assumption)
            have q101 : x3_1 < (l0.length : Int) := of_decide_eq_true (by first | (with_reducible assumption) | assumption)
            obtain ⟨ad101, e101, hx101_0, hx101_1⟩ := at_T26 HR0.out x3_1 p101 q101
            cases e101
            replace p101 := eq_true p101
            replace q101 := eq_true q101
            go_wp2
            all_goals
              go_ret
              exact ⟨by first | rfl | (simp; done) | (simp [*]; done), by repeat (first | exact Drawn0.refl _ | apply Drawn0.step)⟩
          · rw [if_neg c4] at H
            have c4b0 : decide (600 < (((rd_T26 l0 x3_1).f1).size : Int)) = false := decide_eq_false c4
            have c4b1 : decide (600 < ((rd_T26 l0 x3_1).f1).size) = false := decide_eq_false (by omega)
            clear c4
            have H' := Aside0.mk H
            clear H
            have p101 : 0 ≤ (x3_1 : Int) := of_decide_eq_true (by first | (with_reducible assumption) | assumption)
            have q101 : x3_1 < (l0.length : Int) := of_decide_eq_true (by first | (with_reducible assumption) | assumption)
            obtain ⟨ad101, e101, hx101_0, hx101_1⟩ := at_T26 HR0.out x3_1 p101 q101
            cases e101
            replace p101 := eq_true p101
            replace q101 := eq_true q101
            go_wp2
            go_roundg k1
            case measure => have := HK1.out; omega
            case rel => exact ⟨(wrap64 (x3_1 + 1)), (by first | rfl | (simp; done) | (simp [*]; done)), H', ⟨by have := HK1.out; omega⟩, by repeat (first | exact Drawn0.refl _ | apply Drawn0.step)⟩
        · rw [if_neg c3] at H
          exact absurd H (by simp)
      · rw [if_neg c2] at H
        have c2b0 : decide (x3_1 < (l0.length : Int)) = false := decide_eq_false c2
        clear c2
        obtain rfl := Option.some.inj H
        go_wp2
        all_goals
          go_ret
          exact ⟨by first | rfl | (simp; done) | (simp [*]; done), by repeat (first | exact Drawn0.refl _ | apply Drawn0.step)⟩
def tlv_in.f (a0 : Int) (a1 : Int) (a2 : Int) : Option (Bool) := if a0 ≥ a1 then (some (decide (a0 ≤ a2))) else (some false)
set_option maxHeartbeats 8000000 in
set_option maxRecDepth 100000 in
theorem tlv_in.calls (a0 : Int) (a1 : Int) (a2 : Int) (r : Bool) (w : World) (h : tlv_in.f a0 a1 a2 = some r) :
    Calls Try.prog 42 #[.int .i64 a0, .int .i64 a1, .int .i64 a2] w fun e w' => e = .returned (.bool r) ∧ Drawn0 w w' := by
  have H : (if a0 ≥ a1 then (some (decide (a0 ≤ a2))) else (some false)) = some r := h
  clear h
  by_cases c4 : a0 ≥ a1
  · rw [if_pos c4] at H
    have c4b0 : decide (a1 ≤ a0) = true := decide_eq_true c4
    clear c4
    obtain rfl := Option.some.inj H
    go_enter Try.func42, Try.ntmps42
    go_wp2
    all_goals
      go_ret
      exact ⟨by first | rfl | (simp; done) | (simp [*]; done), by repeat (first | exact Drawn0.refl _ | apply Drawn0.step)⟩
  · rw [if_neg c4] at H
    have c4b0 : decide (a1 ≤ a0) = false := decide_eq_false c4
    clear c4
    obtain rfl := Option.some.inj H
    go_enter Try.func42, Try.ntmps42
    go_wp2
    all_goals
      go_ret
      exact ⟨by first | rfl | (simp; done) | (simp [*]; done), by repeat (first | exact Drawn0.refl _ | apply Drawn0.step)⟩
def tlv_Check.f (a0_0 : Int) (a0_1 : ByteArray) : Option (Bool) := (tlv_in.f a0_0 0 65535).bind fun t103 => (if t103 = true then (if ((a0_1.size : Int) % 2) = 0 then (some (decide ((a0_1.size : Int) ≤ 400))) else (some false)) else (some false))
set_option maxHeartbeats 8000000 in
set_option maxRecDepth 100000 in
theorem tlv_Check.calls (a0_0 : Int) (a0_1 : ByteArray) (r : Bool) (w : World) (h : tlv_Check.f a0_0 a0_1 = some r) :
    Calls Try.prog 16 #[.agg #[.int .i64 a0_0, .string a0_1]] w fun e w' => e = .returned (.bool r) ∧ Below w.heap.size w w' := by
  have hu26 := Try.underlying26
  have HB := Aside0.mk (Below.refl w.heap.size w)
  have H : ((tlv_in.f a0_0 0 65535).bind fun t103 => (if t103 = true then (if ((a0_1.size : Int) % 2) = 0 then (some (decide ((a0_1.size : Int) ≤ 400))) else (some false)) else (some false))) = some r := h
  clear h
  replace H := Option.bind_eq_some_iff.mp H
  obtain ⟨t103, A20, H⟩ := H
  replace H : (if t103 = true then (if ((a0_1.size : Int) % 2) = 0 then (some (decide ((a0_1.size : Int) ≤ 400))) else (some false)) else (some false)) = some r := H
  have A2 := Aside0.mk A20
  clear A20
  by_cases c3 : t103 = true
  · subst c3
    have H1 : (if ((a0_1.size : Int) % 2) = 0 then (some (decide ((a0_1.size : Int) ≤ 400))) else (some false)) = some r := by rw [if_pos rfl] at H; exact H
    clear H
    have H := H1
    clear H1
    by_cases c4 : ((a0_1.size : Int) % 2) = 0
    · rw [if_pos c4] at H
      have c4b0 : (((a0_1.size : Int) % 2) == 0) = true := beq_iff_eq.mpr c4
      have c4b1 : (((a0_1.size : Int) % 2) != 0) = false := bne_eq_false_iff_eq.mpr c4
      clear c4
      obtain rfl := Option.some.inj H
      go_enter Try.func16, Try.ntmps16
      go_wp2_with (first | ((with_reducible refine gate_dst (N := 1) rfl ?_); (try (refine gate_guard (by rfl) ?_; dsimp only)); refine box_event ?hg (N := 1) ?hd (cs := #[.int .i64 a0_0, .string a0_1]) (t := 26) ?hr ?_; (case hd => rfl); (case hg => rfl); (case hr => first | (go_simp; done) | (go_simp; rfl)); intro gb102 hg w5 hbox hb; have n0_ := Aside0.mk (below_step (by repeat (first | (with_reducible first | exact HB.out | apply below_alloc | apply pw_below_drewN | apply below_drew1) | exact HB.out)) hb); have n1_ := Aside0.mk (hbox); have n2_ := Aside0.mk ((by rw [hg]; exact (below_size (by repeat (first | (with_reducible first | exact HB.out | apply below_alloc | apply pw_below_drewN | apply below_drew1) | exact HB.out))) : w.heap.size ≤ gb102)); have n3_ := Aside0.mk ((by rw [hg]; exact (below_size (by repeat (first | (with_reducible first | exact HB.out | apply below_alloc | apply pw_below_drewN | apply below_drew1) | exact HB.out))) : w.heap.size ≤ gb102)); clear HB; have HB := n0_; have BK102 := n1_; have GW102 := n2_; have GE102 := n3_; clear n0_ n1_ n2_ n3_; clear hb hbox hg; have hcz6_0 : w5.cell? ⟨gb102, 0, none⟩ = some (.int .i64 a0_0) := (blk_cell BK102.out 0).trans rfl; have hcz6_1 : w5.cell? ⟨gb102, 1, none⟩ = some (.string a0_1) := (blk_cell BK102.out 1).trans rfl; have hfz6_0 := blk_frozen BK102.out 0; have hfz6_1 := blk_frozen BK102.out 1) | ((with_reducible refine gate_callee (f := 42) rfl ?_); refine goesL_ (some 5) rfl rfl Try.func42 (by kernel_rfl) rfl #[.int .i64 a0_0, .int .i64 0, .int .i64 65535] rfl (by (try simp only [List.map_toArray, List.map_cons, List.map_nil]); first | done | rfl | (simp only [List.length_drop, List.length_take]; rfl)) ?_; (with_reducible refine (tlv_in.calls a0_0 0 65535 true _ A2.out).mono ?_); rintro e w' ⟨rfl, ⟨nd, rfl⟩⟩; refine ⟨_, rfl, ?_⟩))
      all_goals
        go_ret
        exact ⟨by first | rfl | (simp [errW_none, errW_some] <;> rfl) | (simp [*, errW_none, errW_some] <;> rfl), by repeat (first | (with_reducible first | exact HB.out | apply below_alloc | apply pw_below_drewN | apply below_drew1 | refine below_set ?_ GE102.out) | exact HB.out)⟩
    · rw [if_neg c4] at H
      have c4b0 : (((a0_1.size : Int) % 2) == 0) = false := beq_eq_false_iff_ne.mpr c4
      have c4b1 : (((a0_1.size : Int) % 2) != 0) = true := bne_iff_ne.mpr c4
      obtain rfl := Option.some.inj H
      go_enter Try.func16, Try.ntmps16
      go_wp2_with (first | ((with_reducible refine gate_dst (N := 1) rfl ?_); (try (refine gate_guard (by rfl) ?_; dsimp only)); refine box_event ?hg (N := 1) ?hd (cs := #[.int .i64 a0_0, .string a0_1]) (t := 26) ?hr ?_; (case hd => rfl); (case hg => rfl); (case hr => first | (go_simp; done) | (go_simp; rfl)); intro gb102 hg w7 hbox hb; have n0_ := Aside0.mk (below_step (by repeat (first | (with_reducible first | exact HB.out | apply below_alloc | apply pw_below_drewN | apply below_drew1) | exact HB.out)) hb); have n1_ := Aside0.mk (hbox); have n2_ := Aside0.mk ((by rw [hg]; exact (below_size (by repeat (first | (with_reducible first | exact HB.out | apply below_alloc | apply pw_below_drewN | apply below_drew1) | exact HB.out))) : w.heap.size ≤ gb102)); have n3_ := Aside0.mk ((by rw [hg]; exact (below_size (by repeat (first | (with_reducible first | exact HB.out | apply below_alloc | apply pw_below_drewN | apply below_drew1) | exact HB.out))) : w.heap.size ≤ gb102)); clear HB; have HB := n0_; have BK102 := n1_; have GW102 := n2_; have GE102 := n3_; clear n0_ n1_ n2_ n3_; clear hb hbox hg; have hcz8_0 : w7.cell? ⟨gb102, 0, none⟩ = some (.int .i64 a0_0) := (blk_cell BK102.out 0).trans rfl; have hcz8_1 : w7.cell? ⟨gb102, 1, none⟩ = some (.string a0_1) := (blk_cell BK102.out 1).trans rfl; have hfz8_0 := blk_frozen BK102.out 0; have hfz8_1 := blk_frozen BK102.out 1) | ((with_reducible refine gate_callee (f := 42) rfl ?_); refine goesL_ (some 5) rfl rfl Try.func42 (by kernel_rfl) rfl #[.int .i64 a0_0, .int .i64 0, .int .i64 65535] rfl (by (try simp only [List.map_toArray, List.map_cons, List.map_nil]); first | done | rfl | (simp only [List.length_drop, List.length_take]; rfl)) ?_; (with_reducible refine (tlv_in.calls a0_0 0 65535 true _ A2.out).mono ?_); rintro e w' ⟨rfl, ⟨nd, rfl⟩⟩; refine ⟨_, rfl, ?_⟩))
      all_goals
        go_ret
        exact ⟨by first | rfl | (simp [errW_none, errW_some] <;> rfl) | (simp [*, errW_none, errW_some] <;> rfl), by repeat (first | (with_reducible first | exact HB.out | apply below_alloc | apply pw_below_drewN | apply below_drew1 | refine below_set ?_ GE102.out) | exact HB.out)⟩
  · replace c3 := Bool.eq_false_iff.mpr c3
    subst c3
    have H1 : (some false) = some r := by rw [if_neg (show ¬ (false = true) by decide)] at H; exact H
    clear H
    have H := H1
    clear H1
    obtain rfl := Option.some.inj H
    go_enter Try.func16, Try.ntmps16
    go_wp2_with (first | ((with_reducible refine gate_dst (N := 1) rfl ?_); (try (refine gate_guard (by rfl) ?_; dsimp only)); refine box_event ?hg (N := 1) ?hd (cs := #[.int .i64 a0_0, .string a0_1]) (t := 26) ?hr ?_; (case hd => rfl); (case hg => rfl); (case hr => first | (go_simp; done) | (go_simp; rfl)); intro gb102 hg w9 hbox hb; have n0_ := Aside0.mk (below_step (by repeat (first | (with_reducible first | exact HB.out | apply below_alloc | apply pw_below_drewN | apply below_drew1) | exact HB.out)) hb); have n1_ := Aside0.mk (hbox); have n2_ := Aside0.mk ((by rw [hg]; exact (below_size (by repeat (first | (with_reducible first | exact HB.out | apply below_alloc | apply pw_below_drewN | apply below_drew1) | exact HB.out))) : w.heap.size ≤ gb102)); have n3_ := Aside0.mk ((by rw [hg]; exact (below_size (by repeat (first | (with_reducible first | exact HB.out | apply below_alloc | apply pw_below_drewN | apply below_drew1) | exact HB.out))) : w.heap.size ≤ gb102)); clear HB; have HB := n0_; have BK102 := n1_; have GW102 := n2_; have GE102 := n3_; clear n0_ n1_ n2_ n3_; clear hb hbox hg; have hcz10_0 : w9.cell? ⟨gb102, 0, none⟩ = some (.int .i64 a0_0) := (blk_cell BK102.out 0).trans rfl; have hcz10_1 : w9.cell? ⟨gb102, 1, none⟩ = some (.string a0_1) := (blk_cell BK102.out 1).trans rfl; have hfz10_0 := blk_frozen BK102.out 0; have hfz10_1 := blk_frozen BK102.out 1) | ((with_reducible refine gate_callee (f := 42) rfl ?_); refine goesL_ (some 5) rfl rfl Try.func42 (by kernel_rfl) rfl #[.int .i64 a0_0, .int .i64 0, .int .i64 65535] rfl (by (try simp only [List.map_toArray, List.map_cons, List.map_nil]); first | done | rfl | (simp only [List.length_drop, List.length_take]; rfl)) ?_; (with_reducible refine (tlv_in.calls a0_0 0 65535 false _ A2.out).mono ?_); rintro e w' ⟨rfl, ⟨nd, rfl⟩⟩; refine ⟨_, rfl, ?_⟩))
    all_goals
      go_ret
      exact ⟨by first | rfl | (simp [errW_none, errW_some] <;> rfl) | (simp [*, errW_none, errW_some] <;> rfl), by repeat (first | (with_reducible first | exact HB.out | apply below_alloc | apply pw_below_drewN | apply below_drew1 | refine below_set ?_ GE102.out) | exact HB.out)⟩
def octets_Put.bytes (v : Int) : Nat → List Int
  | 0 => []
  | n + 1 => (v / 256 ^ n) % 256 :: octets_Put.bytes v n
theorem octets_Put.bytes_length (v : Int) (n : Nat) : (octets_Put.bytes v n).length = n := by
  induction n with
  | zero => rfl
  | succ n ih => simp [octets_Put.bytes, ih]
def octets_Put.f (l0 : List Int) (a1 : Int) (a2 : Int) : Option (List Int) :=
  if 1 ≤ a2 ∧ l0.length ≤ 140737488355320 then some (l0 ++ octets_Put.bytes a1 (mn a2 8).toNat) else none
theorem octets_Put.nat8 (a2 : Int) (h : 1 ≤ a2) : ∃ m : Nat, mn a2 8 = (m : Int) + 1 ∧ m ≤ 7 := by
  refine ⟨(mn a2 8 - 1).toNat, ?_, ?_⟩ <;> (unfold mn; split <;> omega)
theorem octets_Put.capped {P : Program} {ops : Array Oper} {rest : List Oper} {o : Oper} {a : Act} {Q : Exit → Act → World → Prop} {w0 W : World} (base : Nat) (hgd : o.guard = none) (s x : Operand) (t e : TypeId) (z : Value) (bytes : Nat)
    (ho : o.op = .call { callee := .builtin .append, args := #[s, x], argTypes := #[t, t] })
    (ht : P.underlying t = some (.slice e)) (hinfo : (P.info? e).map (fun i => (i.zero, i.size, i.bytes)) = some (some z, 1, bytes)) (hz : z.cells.size = 1) (hb0 : 0 < bytes) (k : IntKind)
    (A : Option Addr) (xs : List Int) (y : Int) (hs : a.eval s = .slice A xs.length xs.length) (hx : a.eval x = .slice (some ⟨W.heap.size, 0, none⟩) 1 1)
    (HR : Kd.C (Kd.int k) W A xs.length xs) (HB : Below base w0 W) (hbase : base ≤ W.heap.size) (hl : (xs.length + 1) * bytes ≤ 140737488355328)
    (h : ∀ v1 w1, Kd.R (Kd.int k) e w1 base (fun _ => True) v1 (xs ++ [y]) → Below base w0 w1 → wpList P ops Q rest (a.put o.dst v1) w1) :
    wpList P ops Q (o :: rest) a (W.alloc (.cells #[.int k y] e)) := by
  obtain ⟨i0, hi, hzz⟩ := Option.map_eq_some_iff.1 hinfo
  simp only [Prod.mk.injEq] at hzz
  obtain ⟨hz0, hz1, hz2⟩ := hzz
  have hlen : xs.length + 1 ≤ 140737488355328 := Nat.le_trans (Nat.le_mul_of_pos_right _ hb0) hl
  have hrd := Kd.reads_of_C (d := (0 : Int)) HR
  have hB2 : Below base w0 (W.alloc (.cells #[.int k y] e)) := HB.alloc hbase _
  refine wpList_append_grows (W.alloc (.cells #[.int k y] e)) hgd s x t ho e i0 z 1 bytes ht hi hz0 hz1 hz2 hz (by omega) A xs.length xs.length (encs (Value.int k) xs) hs ?_ (by simp [encs_length]) ?_ ⟨W.heap.size, 0, none⟩ 1 1 [.int k y] hx rfl (World.news_of_block (cs := #[.int k y]) (t := e) (fr := (0, 0)) (heap_alloc_new W _)) (by simp [Value.oneCell']) (by omega) (by simp only [maxLen]; omega) hl ?_
  · rintro rfl
    rcases Nat.eq_zero_or_pos xs.length with h0 | h0
    · exact ⟨h0, h0⟩
    · obtain ⟨ad, e1, _⟩ := hrd.2.2 h0
      cases e1
  · rintro b rfl j u hj
    have hjl : j < xs.length := by have := (List.getElem?_eq_some_iff.1 hj).1; simpa [encs_length] using this
    obtain ⟨ad, e1, hc⟩ := hrd.2.2 (by omega)
    injection e1 with e1
    subst e1
    have h1 := hc j hjl
    have h2 : u = .int k (xs.getD j 0) := by
      simp only [encs, List.getElem?_map, List.getElem?_eq_getElem hjl, Option.map_some, Option.some.injEq] at hj
      rw [← hj, List.getD_eq_getElem?_getD, List.getElem?_eq_getElem hjl]
      rfl
    rw [h2]
    exact pw_cell_below (below_alloc (Below.refl _ _) _) h1
  · intro v1 w1 hown hg
    have hown2 : w1.ownsRow base e 1 v1 (xs ++ [y]).length (encs (Value.int k) (xs ++ [y])) := by
      have h3 : encs (Value.int k) (xs ++ [y]) = encs (Value.int k) xs ++ [.int k y] := by simp [encs]
      rw [h3, List.length_append]
      exact own_weaken hown (by simp; omega)
    exact h v1 w1 (Kd.R_of_own hown2 (fun _ _ => trivial)) (pw_below_grown hB2 none (by simp; omega) hg (by simp))
set_option maxHeartbeats 1000000 in
set_option maxRecDepth 100000 in
theorem octets_Put.calls (A0 : Option Addr) (c0 : Nat) (l0 : List Int) (a1 : Int) (a2 : Int) (r : List Int) (w : World) (hr0 : Kd.C (Kd.int .u8) w A0 l0.length l0) (hc0 : l0.length ≤ c0) (h : octets_Put.f l0 a1 a2 = some r) :
    Calls Try.prog 40 #[.slice A0 l0.length c0, .int .i64 a1, .int .i64 a2] w fun e w' => ∃ v0_ : Value, e = .returned (v0_) ∧ Kd.R (Kd.int .u8) 5 w' w.heap.size (fun _ => True) v0_ r ∧ Below w.heap.size w w' := by
  obtain ⟨m, hm, hm7⟩ : ∃ m : Nat, mn a2 8 = (m : Int) + 1 ∧ m ≤ 7 := octets_Put.nat8 a2 (by
    unfold octets_Put.f at h
    split at h
    · rename_i hh; exact hh.1
    · cases h)
  have Hm := Aside0.mk hm
  have Hl : Aside0 ((l0.length + 1) * 1 ≤ 140737488355328) := ⟨by
    unfold octets_Put.f at h
    split at h
    · rename_i hh; omega
    · cases h⟩
  have hm_ : (if 8 < a2 then 8 else a2) = (m : Int) + 1 := hm
  have hx_ : (if 0 < (m : Int) + 1 then (m : Int) + 1 else 0) = (m : Int) + 1 := if_pos (by omega)
  clear hm
  go_enter Try.func40, Try.ntmps40
  go_wp2
  refine wp_scope_jumps 0 (fun a' w' => ∃ (i : Nat) (u t8 t9 t10 t11 t12 t13 t14 t15 t16 t17 t18 t19 t20 t21 t22 t23 t24 t25 t26 t27 t28 t29 : Value) (xs : List Int), a' = { tmps := #[u, .int .i64 a1, .int .i64 a2, undef, undef, undef, .slice none 0 0, .int .i64 i, t8, t9, t10, t11, t12, t13, t14, t15, t16, t17, t18, t19, t20, t21, t22, t23, t24, t25, t26, t27, t28, t29], defers := [] } ∧ i ≤ m ∧ Aside0 (xs ++ octets_Put.bytes a1 i = l0 ++ octets_Put.bytes a1 (m + 1)) ∧ Aside0 (Kd.R (Kd.int .u8) 5 w' w.heap.size (fun _ => True) u xs) ∧ Aside0 (Below w.heap.size w w')) (fun a' _ => match a'.tmps.getD 7 undef with | .int _ q => q.toNat | _ => 0) rfl ?_ ?_
  · go_wp2
    clear hm_ hx_
    have HR := Aside0.mk hr0
    clear hr0
    go_step3
    go_wp2_with ((with_reducible refine gate_builtin (b := .append) (xs := #[.tmp 21, .tmp 27]) rfl ?_); at_builtin; refine octets_Put.capped (w0 := w) w.heap.size rfl (.tmp 21) (.tmp 27) 31 5 (.int .u8 0) 1 rfl Try.underlying31 info5 rfl (by omega) .u8 A0 l0 _ rfl rfl HR.out (Below.refl _ _) (Nat.le_refl _) ?aL ?_; (case aL => exact Hl.out); intro v1 w1 hR hB; have HR1 := Aside0.mk hR; have HB1 := Aside0.mk hB; clear hR hB)
    go_step3
    refine ⟨rfl, m, v1, _, _, _, _, _, _, _, _, _, _, _, _, _, _, _, _, _, _, _, _, _, _, l0 ++ [a1 / 256 ^ m % 256], rfl, Nat.le_refl _, ⟨by simp [octets_Put.bytes]⟩, ⟨?_⟩, HB1⟩
    have e1 : (2 : Int) ^ (8 * m) = 256 ^ m := by rw [Int.pow_mul]; rfl
    rw [← e1]
    exact HR1.out
  · rintro a' w' ⟨i, u, t8, t9, t10, t11, t12, t13, t14, t15, t16, t17, t18, t19, t20, t21, t22, t23, t24, t25, t26, t27, t28, t29, xs, rfl, him, HX, HR, HB⟩
    clear hm_ hx_ hr0
    cases i with
    | zero =>
      go_wp2
      simp only [Exit.jump]
      go_ret
      refine ⟨u, rfl, ?_, HB.out⟩
      have hx : xs = r := by
        have h1 := HX.out
        unfold octets_Put.f at h
        split at h
        · injection h with h
          rw [Hm.out] at h
          have h2 : ((m : Int) + 1).toNat = m + 1 := by omega
          rw [h2] at h
          rw [← h, ← h1]
          simp [octets_Put.bytes]
        · cases h
      rw [← hx]
      exact HR.out
    | succ i =>
      have Hlx : Aside0 ((xs.length + 1) * 1 ≤ 140737488355328) := ⟨by
        have h1 := congrArg List.length HX.out
        simp only [List.length_append, octets_Put.bytes_length] at h1
        unfold octets_Put.f at h
        split at h
        · rename_i hh; omega
        · cases h⟩
      go_wp2_with ((with_reducible refine gate_builtin (b := .append) (xs := #[.tmp 21, .tmp 27]) rfl ?_); at_builtin; refine print_append_of (w0 := w) (Value.int .u8) w.heap.size rfl (.tmp 21) (.tmp 27) 31 5 (.int .u8 0) 1 rfl Try.underlying31 info5 rfl (by omega) u xs _ rfl rfl rfl (Kd.own_of_R HR.out) HB.out (below_size HB.out) Hlx.out ?_; intro v1 w1 hown hB hg hat; have HR1 := Aside0.mk hown; have HB1 := Aside0.mk hB; clear hown hB hg hat)
      go_step3
      refine ⟨rfl, ⟨i, v1, _, _, _, _, _, _, _, _, _, _, _, _, _, _, _, _, _, _, _, _, _, _, xs ++ [a1 / 256 ^ i % 256], rfl, by omega, ⟨by rw [← HX.out]; simp [octets_Put.bytes]⟩, ⟨?_⟩, HB1⟩, ?_⟩
      · have e1 : (2 : Int) ^ (8 * i) = 256 ^ i := by rw [Int.pow_mul]; rfl
        rw [← e1]
        exact Kd.R_of_own HR1.out (fun _ _ => trivial)
      · simp
def tlv_Put.l1 (k : Nat) : Nat → (List Int) → (List Int) → (List (S26)) → Int → Int → Option (List Int × Bool)
  | 0, _, _, _, _, _ => none
  | n1 + 1, y1_0, y1_6, y1_19, x1_20, x1_21 => if x1_21 < x1_20 then (if 0 ≤ x1_21 then (if x1_21 < (y1_19.length : Int) then ((tlv_Check.f ((rd_T26 y1_19 x1_21).f0) ((rd_T26 y1_19 x1_21).f1)).bind fun t1013 => (if t1013 = true then ((octets_Put.f y1_6 ((rd_T26 y1_19 x1_21).f0) 2).bind fun t1016 => ((octets_Put.f t1016 (((rd_T26 y1_19 x1_21).f1).size : Int) 2).bind fun t1017 => (if t1017.length + ((rd_T26 y1_19 x1_21).f1).size ≤ 140737488355328 then (tlv_Put.l1 k n1 y1_0 (t1017 ++ bytesOf ((rd_T26 y1_19 x1_21).f1) : List Int) y1_19 x1_20 (wrap64 (x1_21 + 1))) else (none)))) else (some (y1_0, false)))) else (none)) else (none)) else (some (y1_6, true))
def tlv_Put.f (k : Nat) (l0 : List Int) (l1 : List (S26)) : Option (List Int × Bool) := if (l1.length : Int) > 8 then (some (l0, false)) else (tlv_Put.l1 k k l0 l0 l1 (l1.length : Int) 0)
open Go.Proofs.Ytgmiokocipmbaaa.E in
theorem tlv_Put.flat26 : Flat k26 (fun x => [.int .i64 x.f0, .string x.f1]) := ⟨fun w x cs h => k26_open h, fun w base x => k26_mkM w base _ x⟩
open Go.Proofs.Ytgmiokocipmbaaa.E in
set_option maxHeartbeats 60000000 in
set_option maxRecDepth 100000 in
theorem tlv_Put.calls (k : Nat) (A0 : Option Addr) (aA : Nat) (l0 : List Int) (A1 : Option Addr) (aN : Nat) (l1 : List (S26)) (r1 : List Int) (r2 : Bool) (w : World) (HR0 : Kd.C (Kd.int .u8) w A0 l0.length l0) (HC0 : l0.length ≤ aA) (HR1 : Kd.C k26 w A1 l1.length l1) (HC1 : l1.length ≤ aN) (h : tlv_Put.f k l0 l1 = some (r1, r2)) :
    Calls Try.prog 14 #[.slice A0 l0.length aA, .slice A1 l1.length aN] w fun e w' => ∃ v0_ : Value, e = .returned (.tuple #[v0_, .bool r2]) ∧ IsC (Kd.int .u8) r1 v0_ w' ∧ Below w.heap.size w w' := by
 have H := h
 clear h
 unfold tlv_Put.f at H
 by_cases c1 : (l1.length : Int) > 8
 ·rw [if_pos c1] at H
  simp only [Option.some.injEq, Prod.mk.injEq] at H
  obtain ⟨rfl, rfl⟩ := H
  refine calls_of_wp (fn := Try.f14) (by kernel_rfl) rfl ?_
  have hS := St.enter #[.slice A0 l0.length aA, .slice A1 l1.length aN] 42 (by simp) [(0, .slice A0 l0.length aA), (1, .slice A1 l1.length aN)] (by simp)
  have bx := Below.refl w.heap.size w
  refine wp_seq_k (fun K1 bB => ?_)
  refine reg_seq (I := I1_ w) (ps := [IsV (.slice none 0 0), VB false]) (by kernel_rfl) ?_ ?_ rfl hS bx ?_ ?_
  ·exact bs1
  ·exact .v (.v (.nil))
  ·refine .on rfl (fun a w hS hI hp => does_val (x_assign rfl (rfl)) rfl) ?_
   refine .on rfl (fun a w hS hI hp => does_val (x_assign rfl (rfl)) rfl) ?_
   exact .nil
  clear hS
  intro ch w3 hS bS hp
  clear hp
  refine bB _ _ ?_
  refine wp_seq_k (fun K4 b6 => ?_)
  refine wp_seq_k (fun K5 bD => ?_)
  refine reg_seq (I := I2_ w w3) (ps := [IsV (.slice A1 l1.length aN), VI (l1.length : Int), VB (decide ((l1.length : Int) > 8))]) (by kernel_rfl) ?_ ?_ rfl hS ⟨bS, (bR w3)⟩ ?_ ?_
  ·exact bs2
  ·exact .v (.v (.v (.nil)))
  ·refine .ms 1 rfl rfl rfl ?_
   refine .on rfl (fun a w hS hI hp => does_val (x_len (e := 26) rfl (by kernel_rfl) (hp.V 0 rfl rfl)) rfl) ?_
   refine .on rfl (fun a w hS hI hp => does_val (x_bin rfl (hp.V 1 rfl rfl) (rfl) (b_gtr _ _ _ _ _ _)) rfl) ?_
   exact .nil
  clear hS
  intro ci w7 hS bU hp
  have a0 : sl _ 11 = .bool (decide ((l1.length : Int) > 8)) := hp 2 (by decide)
  have hS := hS.cons a0
  clear hp a0
  refine bD _ _ ?_
  refine wp_cond_true ((hS.get 0 rfl).trans (bT (decide_eq_true c1))) ?_
  refine wp_seq_k (fun K8 bE => ?_)
  refine reg_seq (I := I2_ w w7) (ps := [IsV (.slice A0 l0.length aA), IsV (.slice A0 l0.length aA), VB false]) (by kernel_rfl) ?_ ?_ rfl hS ⟨bU.1, (bR w7)⟩ ?_ ?_
  ·exact bs2
  ·exact .v (.v (.v (.nil)))
  ·refine .ms 1 rfl rfl rfl ?_
   refine .asg 0 rfl rfl rfl rfl ?_
   refine .on rfl (fun a w hS hI hp => does_val (x_assign rfl (rfl)) rfl) ?_
   exact .nil
  clear hS
  intro cj bY hS a4 hp
  replace hS := hS.nil
  have aO : sl _ 4 = .slice A0 l0.length aA := hp 1 (by decide)
  have aP : sl _ 5 = .bool false := hp 2 (by decide)
  have hS := hS.cons aO
  have hS := hS.cons aP
  clear hp aO aP
  refine bE _ _ ?_
  refine wp_ret ?_
  (try simp only [Exit.then, Exit.inBlock, Exit.jump, Exit.noGoto])
  exact bodyPost_ret (v := .tuple #[.slice A0 l0.length aA, .bool false]) (results_list (rs := [.tmp 4, .tmp 5]) rfl (by simp) (Vals.at (hS.get 1 rfl) (Vals.at (hS.get 0 rfl) .nil))) hS.nodef ⟨.slice A0 l0.length aA, rfl, ⟨_, _, rfl, HC0, Kd.C_below HR0 a4.1⟩, a4.1⟩
 rw [if_neg c1] at H
 refine calls_of_wp (fn := Try.f14) (by kernel_rfl) rfl ?_
 have hS := St.enter #[.slice A0 l0.length aA, .slice A1 l1.length aN] 42 (by simp) [(0, .slice A0 l0.length aA), (1, .slice A1 l1.length aN)] (by simp)
 have bx := Below.refl w.heap.size w
 refine wp_seq_k (fun K1 bB => ?_)
 refine reg_seq (I := I1_ w) (ps := [IsV (.slice none 0 0), VB false]) (by kernel_rfl) ?_ ?_ rfl hS bx ?_ ?_
 ·exact bs1
 ·exact .v (.v (.nil))
 ·refine .on rfl (fun a w hS hI hp => does_val (x_assign rfl (rfl)) rfl) ?_
  refine .on rfl (fun a w hS hI hp => does_val (x_assign rfl (rfl)) rfl) ?_
  exact .nil
 clear hS
 intro ch w3 hS bS hp
 clear hp
 refine bB _ _ ?_
 refine wp_seq_k (fun K4 b6 => ?_)
 refine wp_seq_k (fun K5 bD => ?_)
 refine reg_seq (I := I2_ w w3) (ps := [IsV (.slice A1 l1.length aN), VI (l1.length : Int), VB (decide ((l1.length : Int) > 8))]) (by kernel_rfl) ?_ ?_ rfl hS ⟨bS, (bR w3)⟩ ?_ ?_
 ·exact bs2
 ·exact .v (.v (.v (.nil)))
 ·refine .ms 1 rfl rfl rfl ?_
  refine .on rfl (fun a w hS hI hp => does_val (x_len (e := 26) rfl (by kernel_rfl) (hp.V 0 rfl rfl)) rfl) ?_
  refine .on rfl (fun a w hS hI hp => does_val (x_bin rfl (hp.V 1 rfl rfl) (rfl) (b_gtr _ _ _ _ _ _)) rfl) ?_
  exact .nil
 clear hS
 intro ci w7 hS bU hp
 have a0 : sl _ 11 = .bool (decide ((l1.length : Int) > 8)) := hp 2 (by decide)
 have hS := hS.cons a0
 clear hp a0
 refine bD _ _ ?_
 refine wp_cond_false ((hS.get 0 rfl).trans (bF (decide_eq_false c1))) ?_
 refine wp_skip ?_
 refine b6 _ _ ?_
 refine wp_seq_k (fun K8 bE => ?_)
 refine reg_seq (I := I2_ w w7) (ps := [IsV (.slice A0 l0.length aA), IsV (.slice A0 l0.length aA), VI (l0.length : Int), IsV (.slice A0 l0.length aA), VI (l0.length : Int), IsV (.slice A0 l0.length l0.length), IsV (.slice A0 l0.length l0.length)]) (by kernel_rfl) ?_ ?_ rfl hS ⟨bU.1, (bR w7)⟩ ?_ ?_
 ·exact bs2
 ·exact .v (.v (.v (.v (.v (.v (.v (.nil)))))))
 ·refine .ms 1 rfl rfl rfl ?_
  refine .ms 1 rfl rfl rfl ?_
  refine .on rfl (fun a w hS hI hp => does_val (x_len (e := 5) rfl (by kernel_rfl) (hp.V 1 rfl rfl)) rfl) ?_
  refine .ms 1 rfl rfl rfl ?_
  refine .on rfl (fun a w hS hI hp => does_val (x_len (e := 5) rfl (by kernel_rfl) (hp.V 3 rfl rfl)) rfl) ?_
  refine .on rfl (fun a w hS hI hp => does_val (x_cutcap (e := 5) (n := l0.length) (c := aA) (j := (l0.length : Int)) (k := (l0.length : Int)) rfl (by kernel_rfl) (by kernel_rfl) (hp.V 0 rfl rfl) (hp.V 2 rfl rfl) (hp.V 4 rfl rfl) (Int.natCast_nonneg _) (Int.le_refl _) (Int.ofNat_le.2 HC0)) rfl) ?_
  refine .asg 5 rfl rfl rfl rfl ?_
  exact .nil
 clear hS
 intro cj bY hS a4 hp
 replace hS := ((hS.nil).cons (hS.get 2 rfl)).cons (hS.get 1 rfl)
 have b7 : sl _ 6 = .slice A0 l0.length l0.length := hp 6 (by decide)
 have hS := hS.cons b7
 clear hp b7
 refine bE _ _ ?_
 refine wp_seq_k (fun cu b8 => ?_)
 refine wp_seq_k (fun cv b9 => ?_)
 refine reg_seq (I := I2_ w bY) (ps := [IsV (.slice A1 l1.length aN), VI (l1.length : Int), VI 0]) (by kernel_rfl) ?_ ?_ rfl hS ⟨a4.1, (bR bY)⟩ ?_ ?_
 ·exact bs2
 ·exact .v (.v (.v (.nil)))
 ·refine .ms 2 rfl rfl rfl ?_
  refine .on rfl (fun a w hS hI hp => does_val (x_len (e := 26) rfl (by kernel_rfl) (hp.V 0 rfl rfl)) rfl) ?_
  refine .on rfl (fun a w hS hI hp => does_val (x_move rfl (rfl)) rfl) ?_
  exact .nil
 clear hS
 intro ct cx hS bQ hp
 replace hS := ((hS.nil).cons (hS.get 1 rfl)).cons (hS.get 0 rfl)
 have bK : sl _ 19 = .slice A1 l1.length aN := hp 0 (by decide)
 have bL : sl _ 20 = .int .i64 (l1.length : Int) := hp 1 (by decide)
 have bM : sl _ 21 = .int .i64 0 := hp 2 (by decide)
 have hS := hS.cons bK
 have hS := hS.cons bL
 have hS := hS.cons bM
 clear hp bK bL bM
 refine b9 _ _ ?_
 refine wp_block ?_
 replace hS := (((((hS.nil).cons (hS.get 0 rfl)).cons (hS.get 1 rfl)).cons (hS.get 2 rfl)).cons (hS.get 3 rfl)).cons (hS.get 4 rfl)
 refine wp_loop_ghost (fun n_ a_ ap => ∃ (ao : List Int) (aq : Option Addr) (au : Nat) (am : List Int) (ar : Option Addr) (av : Nat) (ab : List (S26)) (aG : Option Addr) (aI : Nat) (al aa : Int), tlv_Put.l1 k n_ ao am ab al aa = some (r1, r2) ∧ St 42 [(0, .slice aq ao.length au), (6, .slice ar am.length av), (19, .slice aG ab.length aI), (20, .int .i64 al), (21, .int .i64 aa)] a_ ∧ Below w.heap.size w ap ∧ ao.length ≤ au ∧ Kd.C (Kd.int .u8) w aq ao.length ao ∧ am.length ≤ av ∧ Kd.C (Kd.int .u8) ap ar am.length am ∧ ab.length ≤ aI ∧ Kd.C k26 w aG ab.length ab) k ⟨l0, A0, aA, l0, A0, l0.length, l1, A1, aN, (l1.length : Int), 0, H, hS, bQ.1, HC0, (HR0), (Nat.le_refl _), (Kd.C_below HR0 bQ.1), HC1, (HR1)⟩ ?_
 clear H hS
 rintro n1 cw ap ⟨ao, aq, au, am, ar, av, ab, aG, aI, al, aa, H, hS, aL, bn, be, bo, bf, bJ, aM⟩
 rcases n1 with _ | n1
 ·exact absurd H (by simp [tlv_Put.l1])
 rw [tlv_Put.l1] at H
 (try dsimp only at H)
 by_cases c2 : aa < al
 rotate_left
 ·rw [if_neg c2] at H
  simp only [Option.some.injEq, Prod.mk.injEq] at H
  obtain ⟨rfl, rfl⟩ := H
  refine wp_seq_k (fun bk aC => ?_)
  refine reg_seq (I := I2_ w ap) (ps := [VB (decide (aa < al))]) (by kernel_rfl) ?_ ?_ rfl hS ⟨aL, (bR ap)⟩ ?_ ?_
  ·exact bs2
  ·exact .v (.nil)
  ·refine .on rfl (fun a w hS hI hp => does_val (x_bin rfl (hS.get 4 rfl) (hS.get 3 rfl) (b_lss _ _ _ _ _ _)) rfl) ?_
   exact .nil
  clear hS
  intro a9 af hS ag hp
  have aD : sl _ 22 = .bool (decide (aa < al)) := hp 0 (by decide)
  have hS := hS.cons aD
  clear hp aD
  refine aC _ _ ?_
  refine wp_seq_k (fun bl aJ => ?_)
  refine wp_cond_false ((hS.get 0 rfl).trans (bF (decide_eq_false c2))) ?_
  refine wp_exit ?_
  (try simp only [Exit.then, Exit.inBlock, reduceIte])
  refine b8 _ _ ?_
  refine wp_seq_k (fun bm aK => ?_)
  refine reg_seq (I := I3_ w ap af) (ps := [IsV (.slice ar am.length av), IsV (.slice ar am.length av), VB true]) (by kernel_rfl) ?_ ?_ rfl hS ⟨ag.1, ag.2, (bR af)⟩ ?_ ?_
  ·exact bs3
  ·exact .v (.v (.v (.nil)))
  ·refine .ms 2 rfl rfl rfl ?_
   refine .asg 0 rfl rfl rfl rfl ?_
   refine .on rfl (fun a w hS hI hp => does_val (x_assign rfl (rfl)) rfl) ?_
   exact .nil
  clear hS
  intro ca cp hS bh hp
  replace hS := hS.nil
  have aO : sl _ 4 = .slice ar am.length av := hp 1 (by decide)
  have aP : sl _ 5 = .bool true := hp 2 (by decide)
  have hS := hS.cons aO
  have hS := hS.cons aP
  clear hp aO aP
  refine aK _ _ ?_
  refine wp_ret ?_
  (try simp only [Exit.then, Exit.inBlock, Exit.jump, Exit.noGoto])
  exact bodyPost_ret (v := .tuple #[.slice ar am.length av, .bool true]) (results_list (rs := [.tmp 4, .tmp 5]) rfl (by simp) (Vals.at (hS.get 1 rfl) (Vals.at (hS.get 0 rfl) .nil))) hS.nodef ⟨.slice ar am.length av, rfl, ⟨_, _, rfl, bo, Kd.C_below bf bh.2.1⟩, bh.1⟩
 rw [if_pos c2] at H
 by_cases c3 : 0 ≤ aa
 rotate_left
 ·rw [if_neg c3] at H
  exact absurd H (by simp)
 rw [if_pos c3] at H
 by_cases c4 : aa < (ab.length : Int)
 rotate_left
 ·rw [if_neg c4] at H
  exact absurd H (by simp)
 rw [if_pos c4] at H
 obtain ⟨aw, a8, H⟩ := Option.bind_eq_some_iff.mp H
 by_cases c5 : aw = true
 rotate_left
 ·rw [if_neg c5] at H
  simp only [Option.some.injEq, Prod.mk.injEq] at H
  obtain ⟨rfl, rfl⟩ := H
  refine wp_seq_k (fun bk aC => ?_)
  refine reg_seq (I := I2_ w ap) (ps := [VB (decide (aa < al))]) (by kernel_rfl) ?_ ?_ rfl hS ⟨aL, (bR ap)⟩ ?_ ?_
  ·exact bs2
  ·exact .v (.nil)
  ·refine .on rfl (fun a w hS hI hp => does_val (x_bin rfl (hS.get 4 rfl) (hS.get 3 rfl) (b_lss _ _ _ _ _ _)) rfl) ?_
   exact .nil
  clear hS
  intro a9 af hS ag hp
  have aD : sl _ 22 = .bool (decide (aa < al)) := hp 0 (by decide)
  have hS := hS.cons aD
  clear hp aD
  refine aC _ _ ?_
  refine wp_seq_k (fun bl aJ => ?_)
  refine wp_cond_true ((hS.get 0 rfl).trans (bT (decide_eq_true c2))) ?_
  refine wp_skip ?_
  refine aJ _ _ ?_
  refine wp_seq_k (fun bm aK => ?_)
  refine wp_block ?_
  refine wp_seq_k (fun b2 aY => ?_)
  refine reg_seq_tail 3 (I := I3_ w ap af) (ps := [IsAT [.int .i64 ((rd_T26 ab aa).f0), .string ((rd_T26 ab aa).f1)], IsV (.agg #[.int .i64 ((rd_T26 ab aa).f0), .string ((rd_T26 ab aa).f1)]), IsB #[.int .i64 0, .string (⟨#[]⟩ : ByteArray)] 26 af.heap.size]) (by kernel_rfl) ?_ ?_ rfl hS ⟨ag.1, ag.2, (bR af)⟩ ?_ ?_
  ·exact bs3
  ·exact .cons (Stays.at_ _) (.v (.cons (Stays.b _ _ _) (.nil)))
  ·refine .on rfl (fun a w hS hI hp => does_indexT tlv_Put.flat26 (e := 26) (xs := ab) (i := aa) z26 rfl (hS.get 3 rfl) (hS.get 5 rfl) (by kernel_rfl) (by kernel_rfl) c3 c4 c4 (by decide) ((Kd.C_below aM hI.1))) ?_
   refine .on rfl (fun a w hS hI hp => does_loadT (cs := [.int .i64 ((rd_T26 ab aa).f0), .string ((rd_T26 ab aa).f1)]) rfl (hp.V 0 rfl rfl) Try.underlying26 rfl (by kernel_rfl)) ?_
   refine .on rfl (fun a w hS hI hp => does_var (x_alloc rfl (by kernel_rfl)) (hI.2.2).size) ?_
   exact .nil
  clear hS
  intro bz a6 hS ad hp
  replace hS := (((((hS.nil).cons (hS.get 5 rfl)).cons (hS.get 4 rfl)).cons (hS.get 3 rfl)).cons (hS.get 2 rfl)).cons (hS.get 1 rfl)
  have a1 : sl _ 24 = .agg #[.int .i64 ((rd_T26 ab aa).f0), .string ((rd_T26 ab aa).f1)] := hp 1 (by decide)
  obtain ⟨ah, bg, aj, ax⟩ := (show IsB _ 26 _ (sl _ 8) _ from hp 2 (by decide))
  have hS := hS.cons a1
  have hS := hS.cons bg
  clear hp a1 bg
  show wpList _ _ _ [_] _ _
  refine list_step rfl (does_storeAll (g := ah) (cs := #[.int .i64 ((rd_T26 ab aa).f0), .string ((rd_T26 ab aa).f1)]) rfl (hS.get 0 rfl) (hS.get 1 rfl) (((bR a6).block ah (blk_lt ax)).trans ax) (by kernel_rfl) (by kernel_rfl) (by kernel_rfl)) ?_
  rintro bV ay ⟨rfl, ac, hT⟩
  have aB := hT.below ad.1 (Nat.le_trans (ag.1).size aj) (ad.1).size
  have az := hT.below ad.2.1 (Nat.le_trans (ag.2).size aj) (ad.2.1).size
  have an := hT.below ad.2.2 aj (ad.2.2).size
  clear hT
  refine wpList_nil ?_
  refine aY _ _ ?_
  refine wp_seq_k (fun b3 bd => ?_)
  refine wp_seq_k (fun b4 aZ => ?_)
  refine reg_seq (I := I4_ w ap af ay) (ps := [IsV (.agg #[.int .i64 ((rd_T26 ab aa).f0), .string ((rd_T26 ab aa).f1)]), VB aw, VB (!aw)]) (by kernel_rfl) ?_ ?_ rfl hS ⟨aB, az, an, (bR ay)⟩ ?_ ?_
  ·exact bs4
  ·exact .v (.v (.v (.nil)))
  ·refine .on rfl (fun a w hS hI hp => does_loadrow rfl (hS.get 0 rfl) (((hI.2.2.2).block ah (blk_lt ac)).trans ac) Try.underlying26 rfl (by kernel_rfl) rfl) ?_
   refine .on rfl (fun a w hS hI hp => does_call (by kernel_rfl) (ar1 (hp.V 0 rfl rfl)) ((tlv_Check.calls ((rd_T26 ab aa).f0) ((rd_T26 ab aa).f1) aw _  a8).mono fun _ _ h => ⟨_, h.1, h.2, rfl⟩)) ?_
   refine .on rfl (fun a w hS hI hp => does_val (x_not rfl (hp.V 1 rfl rfl)) rfl) ?_
   exact .nil
  clear hS
  intro bA ak hS ae hp
  replace hS := ((((((hS.nil).cons (hS.get 6 rfl)).cons (hS.get 5 rfl)).cons (hS.get 4 rfl)).cons (hS.get 3 rfl)).cons (hS.get 2 rfl)).cons (hS.get 0 rfl)
  have a2 : sl _ 27 = .bool (!aw) := hp 2 (by decide)
  have hS := hS.cons a2
  clear hp a2
  refine aZ _ _ ?_
  refine wp_cond_true ((hS.get 0 rfl).trans (bT (congrArg (!·) (Bool.eq_false_iff.2 c5)))) ?_
  refine wp_seq_k (fun co bC => ?_)
  refine reg_seq (I := I5_ w ap af ay ak) (ps := [IsV (.slice aq ao.length au), IsV (.slice aq ao.length au), VB false]) (by kernel_rfl) ?_ ?_ rfl hS ⟨ae.1, ae.2.1, ae.2.2.1, ae.2.2.2, (bR ak)⟩ ?_ ?_
  ·exact bs5
  ·exact .v (.v (.v (.nil)))
  ·refine .ms 2 rfl rfl rfl ?_
   refine .asg 0 rfl rfl rfl rfl ?_
   refine .on rfl (fun a w hS hI hp => does_val (x_assign rfl (rfl)) rfl) ?_
   exact .nil
  clear hS
  intro cb cq hS bi hp
  replace hS := hS.nil
  have aO : sl _ 4 = .slice aq ao.length au := hp 1 (by decide)
  have aP : sl _ 5 = .bool false := hp 2 (by decide)
  have hS := hS.cons aO
  have hS := hS.cons aP
  clear hp aO aP
  refine bC _ _ ?_
  refine wp_ret ?_
  (try simp only [Exit.then, Exit.inBlock, Exit.jump, Exit.noGoto])
  exact bodyPost_ret (v := .tuple #[.slice aq ao.length au, .bool false]) (results_list (rs := [.tmp 4, .tmp 5]) rfl (by simp) (Vals.at (hS.get 1 rfl) (Vals.at (hS.get 0 rfl) .nil))) hS.nodef ⟨.slice aq ao.length au, rfl, ⟨_, _, rfl, bn, Kd.C_below be bi.1⟩, bi.1⟩
 rw [if_pos c5] at H
 obtain ⟨a5, bv, H⟩ := Option.bind_eq_some_iff.mp H
 obtain ⟨ai, bw, H⟩ := Option.bind_eq_some_iff.mp H
 by_cases c6 : ai.length + ((rd_T26 ab aa).f1).size ≤ 140737488355328
 rotate_left
 ·rw [if_neg c6] at H
  exact absurd H (by simp)
 rw [if_pos c6] at H
 refine wp_seq_k (fun bk aC => ?_)
 refine reg_seq (I := I2_ w ap) (ps := [VB (decide (aa < al))]) (by kernel_rfl) ?_ ?_ rfl hS ⟨aL, (bR ap)⟩ ?_ ?_
 ·exact bs2
 ·exact .v (.nil)
 ·refine .on rfl (fun a w hS hI hp => does_val (x_bin rfl (hS.get 4 rfl) (hS.get 3 rfl) (b_lss _ _ _ _ _ _)) rfl) ?_
  exact .nil
 clear hS
 intro a9 af hS ag hp
 have aD : sl _ 22 = .bool (decide (aa < al)) := hp 0 (by decide)
 have hS := hS.cons aD
 clear hp aD
 refine aC _ _ ?_
 refine wp_seq_k (fun bl aJ => ?_)
 refine wp_cond_true ((hS.get 0 rfl).trans (bT (decide_eq_true c2))) ?_
 refine wp_skip ?_
 refine aJ _ _ ?_
 refine wp_seq_k (fun bm aK => ?_)
 refine wp_block ?_
 refine wp_seq_k (fun b2 aY => ?_)
 refine reg_seq_tail 3 (I := I3_ w ap af) (ps := [IsAT [.int .i64 ((rd_T26 ab aa).f0), .string ((rd_T26 ab aa).f1)], IsV (.agg #[.int .i64 ((rd_T26 ab aa).f0), .string ((rd_T26 ab aa).f1)]), IsB #[.int .i64 0, .string (⟨#[]⟩ : ByteArray)] 26 af.heap.size]) (by kernel_rfl) ?_ ?_ rfl hS ⟨ag.1, ag.2, (bR af)⟩ ?_ ?_
 ·exact bs3
 ·exact .cons (Stays.at_ _) (.v (.cons (Stays.b _ _ _) (.nil)))
 ·refine .on rfl (fun a w hS hI hp => does_indexT tlv_Put.flat26 (e := 26) (xs := ab) (i := aa) z26 rfl (hS.get 3 rfl) (hS.get 5 rfl) (by kernel_rfl) (by kernel_rfl) c3 c4 c4 (by decide) ((Kd.C_below aM hI.1))) ?_
  refine .on rfl (fun a w hS hI hp => does_loadT (cs := [.int .i64 ((rd_T26 ab aa).f0), .string ((rd_T26 ab aa).f1)]) rfl (hp.V 0 rfl rfl) Try.underlying26 rfl (by kernel_rfl)) ?_
  refine .on rfl (fun a w hS hI hp => does_var (x_alloc rfl (by kernel_rfl)) (hI.2.2).size) ?_
  exact .nil
 clear hS
 intro bz a6 hS ad hp
 replace hS := (((((hS.nil).cons (hS.get 5 rfl)).cons (hS.get 4 rfl)).cons (hS.get 3 rfl)).cons (hS.get 2 rfl)).cons (hS.get 1 rfl)
 have a1 : sl _ 24 = .agg #[.int .i64 ((rd_T26 ab aa).f0), .string ((rd_T26 ab aa).f1)] := hp 1 (by decide)
 obtain ⟨ah, bg, aj, ax⟩ := (show IsB _ 26 _ (sl _ 8) _ from hp 2 (by decide))
 have hS := hS.cons a1
 have hS := hS.cons bg
 clear hp a1 bg
 show wpList _ _ _ [_] _ _
 refine list_step rfl (does_storeAll (g := ah) (cs := #[.int .i64 ((rd_T26 ab aa).f0), .string ((rd_T26 ab aa).f1)]) rfl (hS.get 0 rfl) (hS.get 1 rfl) (((bR a6).block ah (blk_lt ax)).trans ax) (by kernel_rfl) (by kernel_rfl) (by kernel_rfl)) ?_
 rintro bV ay ⟨rfl, ac, hT⟩
 have aB := hT.below ad.1 (Nat.le_trans (ag.1).size aj) (ad.1).size
 have az := hT.below ad.2.1 (Nat.le_trans (ag.2).size aj) (ad.2.1).size
 have an := hT.below ad.2.2 aj (ad.2.2).size
 clear hT
 refine wpList_nil ?_
 refine aY _ _ ?_
 refine wp_seq_k (fun b3 bd => ?_)
 refine wp_seq_k (fun b4 aZ => ?_)
 refine reg_seq (I := I4_ w ap af ay) (ps := [IsV (.agg #[.int .i64 ((rd_T26 ab aa).f0), .string ((rd_T26 ab aa).f1)]), VB aw, VB (!aw)]) (by kernel_rfl) ?_ ?_ rfl hS ⟨aB, az, an, (bR ay)⟩ ?_ ?_
 ·exact bs4
 ·exact .v (.v (.v (.nil)))
 ·refine .on rfl (fun a w hS hI hp => does_loadrow rfl (hS.get 0 rfl) (((hI.2.2.2).block ah (blk_lt ac)).trans ac) Try.underlying26 rfl (by kernel_rfl) rfl) ?_
  refine .on rfl (fun a w hS hI hp => does_call (by kernel_rfl) (ar1 (hp.V 0 rfl rfl)) ((tlv_Check.calls ((rd_T26 ab aa).f0) ((rd_T26 ab aa).f1) aw _  a8).mono fun _ _ h => ⟨_, h.1, h.2, rfl⟩)) ?_
  refine .on rfl (fun a w hS hI hp => does_val (x_not rfl (hp.V 1 rfl rfl)) rfl) ?_
  exact .nil
 clear hS
 intro bA ak hS ae hp
 replace hS := ((((((hS.nil).cons (hS.get 6 rfl)).cons (hS.get 5 rfl)).cons (hS.get 4 rfl)).cons (hS.get 3 rfl)).cons (hS.get 2 rfl)).cons (hS.get 0 rfl)
 have a2 : sl _ 27 = .bool (!aw) := hp 2 (by decide)
 have hS := hS.cons a2
 clear hp a2
 refine aZ _ _ ?_
 refine wp_cond_false ((hS.get 0 rfl).trans (bF (congrArg (!·) c5))) ?_
 refine wp_skip ?_
 refine bd _ _ ?_
 refine reg_any_tail 10 [0, 0, 2, 7, 0, 16, 48, 127, 0, 256, 1023, 2047] (I := I5_ w ap af ay ak) (ps := [IsV (.slice ar am.length av), VP ah 0, VI ((rd_T26 ab aa).f0), IsR (Kd.int .u8) 5 ak.heap.size a5, VP ah 1, IsV (.string ((rd_T26 ab aa).f1)), VI (((rd_T26 ab aa).f1).size : Int), IsR (Kd.int .u8) 5 ak.heap.size ai, VP ah 1, IsV (.string ((rd_T26 ab aa).f1))]) (by kernel_rfl) (by kernel_rfl) (by kernel_rfl) (by decide) ?_ ?_ rfl hS ⟨ae.1, ae.2.1, ae.2.2.1, ae.2.2.2, (bR ak)⟩ ?_ ?_
 ·exact bs5
 ·exact .v (.v (.v (.cons (Stays.r _ _ _ _) (.v (.v (.v (.cons (Stays.r _ _ _ _) (.v (.v (.nil))))))))))
 ·refine .ms 3 rfl rfl rfl ?_
  refine .on rfl (fun a w hS hI hp => does_val (x_fieldE (b := 0) rfl (hS.get 1 rfl) Try.underlying26 rfl rfl (by kernel_rfl)) rfl) ?_
  refine .on rfl (fun a w hS hI hp => does_val (x_load1 (d := .int .i64) rfl (hp.V 1 rfl rfl) (by kernel_rfl) rfl ((blk_cell (((hI.2.2.2.1).block ah (blk_lt ac)).trans ac) 0).trans rfl)) rfl) ?_
  refine .on rfl (fun a w hS hI hp => does_call (by kernel_rfl) (ar3 (hp.V 0 rfl rfl) (hp.V 2 rfl rfl) (rfl)) ((octets_Put.calls _ _ am ((rd_T26 ab aa).f0) 2 a5 _ (Kd.C_below bf hI.2.1) bo bv).mono fun _ _ h => h.elim fun v0 h => ⟨v0, h.1, h.2.2, Kd.R_lower h.2.1 hI.2.2.2.2.size⟩)) ?_
  refine .on rfl (fun a w hS hI hp => does_val (x_fieldE (b := 0) rfl (hS.get 1 rfl) Try.underlying26 rfl rfl (by kernel_rfl)) rfl) ?_
  refine .on rfl (fun a w hS hI hp => does_val (x_load1 (d := .string) rfl (hp.V 4 rfl rfl) (by kernel_rfl) rfl ((blk_cell (((hI.2.2.2.1).block ah (blk_lt ac)).trans ac) 1).trans rfl)) rfl) ?_
  refine .on rfl (fun a w hS hI hp => does_val (x_lenS rfl (by kernel_rfl) (hp.V 5 rfl rfl)) rfl) ?_
  refine .on rfl (fun a w hS hI hp => (IsC.of_r (hp.V 3 rfl rfl)).elim fun A_ h_ => h_.elim fun c_ h_ => h_.elim fun hv_ h_ => h_.elim fun hl_ hc_ => does_call (by kernel_rfl) (ar3 (hv_) (hp.V 6 rfl rfl) (rfl)) ((octets_Put.calls _ _ a5 (((rd_T26 ab aa).f1).size : Int) 2 ai _ hc_ hl_ bw).mono fun _ _ h => h.elim fun v0 h => ⟨v0, h.1, h.2.2, Kd.R_lower h.2.1 hI.2.2.2.2.size⟩)) ?_
  refine .on rfl (fun a w hS hI hp => does_val (x_fieldE (b := 0) rfl (hS.get 1 rfl) Try.underlying26 rfl rfl (by kernel_rfl)) rfl) ?_
  refine .on rfl (fun a w hS hI hp => does_val (x_load1 (d := .string) rfl (hp.V 8 rfl rfl) (by kernel_rfl) rfl ((blk_cell (((hI.2.2.2.1).block ah (blk_lt ac)).trans ac) 1).trans rfl)) rfl) ?_
  exact .nil
 clear hS
 intro cc a7 hS bP hp
 replace hS := (((((hS.nil).cons (hS.get 6 rfl)).cons (hS.get 5 rfl)).cons (hS.get 4 rfl)).cons (hS.get 3 rfl)).cons (hS.get 2 rfl)
 obtain ⟨b0, b1, bj, cl, ck⟩ := Kd.R_reads (show Kd.R (Kd.int .u8) 5 a7 ak.heap.size (fun _ => True) (sl _ 36) ai from hp 7 (by decide))
 have bI : Kd.R (Kd.int .u8) 5 a7 ak.heap.size (fun _ => True) (.slice b0 ai.length b1) ai := bj ▸ (hp 7 (by decide))
 have bN : sl _ 38 = .string ((rd_T26 ab aa).f1) := hp 9 (by decide)
 have hS := hS.cons bj
 have hS := hS.cons bN
 clear hp bj bN
 show wpList _ _ _ [_, _] _ _
 refine list_step rfl (does_moreS (W := ak) (.tmp 36) (.tmp 38) 31 9 5 rfl (by kernel_rfl) (by kernel_rfl) (by kernel_rfl) _ ai ((rd_T26 ab aa).f1) (hS.get 1 rfl) (hS.get 0 rfl) (Kd.R_below bI (bR a7)) (bP.2.2.2.2) c6) ?_
 rintro cn bp ⟨hb, hr, hk⟩
 clear hk
 have ba := below_step ae.1 hb
 have a3 := below_step ae.2.1 hb
 have aQ := below_step ae.2.2.1 hb
 have aR := below_step ae.2.2.2 hb
 have aS := hb
 replace hS := ((((((hS.nil).cons (hS.get 6 rfl)).cons (hS.get 5 rfl)).cons (hS.get 4 rfl)).cons (hS.get 3 rfl)).cons (hS.get 2 rfl)).cons (hS.get 0 rfl)
 obtain ⟨aF, aH, rfl, bH, bG⟩ := Kd.R_reads hr
 have cm := hr
 clear hr
 refine hS.next (v := .slice aF ((ai ++ bytesOf ((rd_T26 ab aa).f1) : List Int).length) aH) (d := 39) rfl (by decide) (by rfl) ?_
 clear hS
 intro cd hS
 refine list_step rfl (R := fun v w' => Below _ _ w' ∧ (IsV (.slice aF ((ai ++ bytesOf ((rd_T26 ab aa).f1) : List Int).length) aH)) v w') (does_val (x_assign rfl (hS.get 0 rfl)) rfl) ?_
 rintro bW bq ⟨hb, he⟩
 have bb := below_step ba hb
 have bZ := below_step a3 hb
 have aT := below_step aQ hb
 have aU := below_step aR hb
 have aV := below_step aS hb
 have aW := below_step (bR bp) hb
 obtain rfl : bW = .slice aF ((ai ++ bytesOf ((rd_T26 ab aa).f1) : List Int).length) aH := he
 replace hS := ((((((hS.nil).cons (hS.get 6 rfl)).cons (hS.get 5 rfl)).cons (hS.get 4 rfl)).cons (hS.get 2 rfl)).cons (hS.get 1 rfl)).cons (hS.get 0 rfl)
 refine hS.next (v := .slice aF ((ai ++ bytesOf ((rd_T26 ab aa).f1) : List Int).length) aH) (d := 6) rfl (by decide) (by rfl) ?_
 clear hS
 intro ce hS
 refine wpList_nil ?_
 refine aK _ _ ?_
 refine reg_seq_tail 1 (I := I6_ w af ay ak bp bq) (ps := [VI (wrap64 (aa + 1))]) (by kernel_rfl) ?_ ?_ rfl hS ⟨bb, aT, aU, aV, aW, (bR bq)⟩ ?_ ?_
 ·exact bs6
 ·exact .v (.nil)
 ·refine .on rfl (fun a w hS hI hp => does_val (x_bin rfl (hS.get 6 rfl) (rfl) (b_add _ _ _ _ _)) rfl) ?_
  exact .nil
 clear hS
 intro cf b5 hS aE hp
 replace hS := (((((hS.nil).cons (hS.get 6 rfl)).cons (hS.get 5 rfl)).cons (hS.get 4 rfl)).cons (hS.get 3 rfl)).cons (hS.get 0 rfl)
 have bO : sl _ 40 = .int .i64 (wrap64 (aa + 1)) := hp 0 (by decide)
 have hS := hS.cons bO
 clear hp bO
 show wpList _ _ _ [_] _ _
 refine list_step rfl (R := fun v w' => Below _ _ w' ∧ (VI (wrap64 (aa + 1))) v w') (does_val (x_move rfl (hS.get 0 rfl)) rfl) ?_
 rintro bX cr ⟨hb, he⟩
 have bc := below_step aE.1 hb
 have br := below_step aE.2.1 hb
 have bs := below_step aE.2.2.1 hb
 have bt := below_step aE.2.2.2.1 hb
 have aX := below_step aE.2.2.2.2.1 hb
 have bu := below_step (bR b5) hb
 obtain rfl : bX = .int .i64 (wrap64 (aa + 1)) := he
 replace hS := (((((hS.nil).cons (hS.get 4 rfl)).cons (hS.get 3 rfl)).cons (hS.get 2 rfl)).cons (hS.get 1 rfl)).cons (hS.get 0 rfl)
 refine hS.next (v := .int .i64 (wrap64 (aa + 1))) (d := 21) rfl (by decide) (by rfl) ?_
 clear hS
 intro cg hS
 refine wpList_nil ?_
 replace hS := (((((hS.nil).cons (hS.get 0 rfl)).cons (hS.get 5 rfl)).cons (hS.get 4 rfl)).cons (hS.get 2 rfl)).cons (hS.get 3 rfl)
 (try simp only [Exit.then, Exit.inBlock])
 exact ⟨n1, Nat.lt_succ_self _, ao, aq, au, (ai ++ bytesOf ((rd_T26 ab aa).f1) : List Int), aF, aH, ab, aG, aI, al, wrap64 (aa + 1), H, hS, bc, bn, (be), bH, (Kd.C_below bG aX), bJ, (aM)⟩
def octets_PutId.f (l0 : List Int) (a1 : Int) : Option (List Int) := (octets_Put.f l0 (wrap64 (a1)) 8).bind fun t104 => (some t104)
set_option maxHeartbeats 8000000 in
set_option maxRecDepth 100000 in
theorem octets_PutId.calls (A0 : Option Addr) (c0 : Nat) (l0 : List Int) (a1 : Int) (r : List Int) (w : World) (hr0 : Kd.C (Kd.int .u8) w A0 l0.length l0) (hc0 : l0.length ≤ c0) (h : octets_PutId.f l0 a1 = some r) :
    Calls Try.prog 45 #[.slice A0 l0.length c0, .int .u64 a1] w fun e w' => ∃ v0_ : Value, e = .returned (v0_) ∧ Kd.R (Kd.int .u8) 5 w' w.heap.size (fun _ => True) v0_ r ∧ Below w.heap.size w w' := by
  have HR0 := Aside0.mk hr0
  have HC0 := Aside0.mk hc0
  clear hr0 hc0
  have HB := Aside0.mk (Below.refl w.heap.size w)
  have H : ((octets_Put.f l0 (wrap64 (a1)) 8).bind fun t104 => (some t104)) = some r := h
  clear h
  replace H := Option.bind_eq_some_iff.mp H
  obtain ⟨t104, A30, H⟩ := H
  replace H : (some t104) = some r := H
  have A3 := Aside0.mk A30
  clear A30
  obtain rfl := Option.some.inj H
  go_enter Try.func45, Try.ntmps45
  go_wp2_with (first | ((with_reducible refine gate_callee (f := 40) rfl ?_); refine goesL_ (some 8) rfl rfl Try.func40 (by kernel_rfl) rfl #[.slice A0 l0.length c0, .int .i64 (wrap64 (a1)), .int .i64 8] rfl (by (try simp only [List.map_toArray, List.map_cons, List.map_nil]); first | done | rfl | (simp only [List.length_drop, List.length_take]; rfl)) ?_; (with_reducible refine (octets_Put.calls _ _ l0 (wrap64 (a1)) 8 t104 _ ?side1 ?side2 A3.out).mono ?_); (case side1 => repeat (first | exact HR0.out | (with_reducible refine Kd.C_alloc ?_ _) | (with_reducible refine Kd.C_drewN ?_ _) | (with_reducible refine Kd.C_drew ?_))); (case side2 => exact HC0.out); rintro e w4 ⟨v105, rfl, ho0, hb⟩; refine ⟨_, rfl, ?_⟩; have n0_ := Aside0.mk (Kd.R_lower ho0 (below_size (by repeat (first | (with_reducible first | exact HB.out | apply below_alloc | apply pw_below_drewN | apply below_drew1) | exact HB.out)))); have n1_ := Aside0.mk (below_step (by repeat (first | (with_reducible first | exact HB.out | apply below_alloc | apply pw_below_drewN | apply below_drew1) | exact HB.out)) hb); clear HB; have HO106 := n0_; have HB := n1_; clear n0_ n1_; (try clear hb); (try clear hb2); (try clear hk); (try clear hi); (try clear ho0)))
  all_goals
    go_ret
    exact ⟨_, by first | rfl | (simp [errW_none, errW_some] <;> rfl) | (simp [*, errW_none, errW_some] <;> rfl), by (with_reducible repeat (first | apply Kd.R_alloc | apply Kd.R_drewN | apply Kd.R_drew)); exact HO106.out, by repeat (first | (with_reducible first | exact HB.out | apply below_alloc | apply pw_below_drewN | apply below_drew1) | exact HB.out)⟩
def tlv_Path.l0 : Nat → List Int → List Int → Int → Int → Option (Int × ByteArray × Bool)
  | 0, _, _, _, _ => none
  | k + 1, x4, x11, x12, x13 => if x13 < x12 then (if 0 ≤ x13 then (if x13 < (x11.length : Int) then ((octets_PutId.f x4 (rd x11 x13)).bind fun t109 => (tlv_Path.l0 k t109 x11 x12 (wrap64 (x13 + 1)))) else (none)) else (none)) else (some (8, strOfNums x4, true))
def tlv_Path.f (k : Nat) (l0 : List Int) : Option (Int × ByteArray × Bool) := if (l0.length : Int) > 16 then (some (0, (⟨#[]⟩ : ByteArray), false)) else (tlv_Path.l0 k ([] : List Int) l0 (l0.length : Int) 0)
set_option maxHeartbeats 8000000 in
set_option maxRecDepth 100000 in
theorem tlv_Path.calls (k : Nat) (A0 : Option Addr) (c0 : Nat) (l0 : List Int) (r1 : Int) (r2 : ByteArray) (r3 : Bool) (w : World) (hr0 : Kd.C (Kd.int .u64) w A0 l0.length l0) (hc0 : l0.length ≤ c0) (h : tlv_Path.f k l0 = some (r1, r2, r3)) :
    Calls Try.prog 26 #[.slice A0 l0.length c0] w fun e w' => e = .returned (.tuple #[.agg #[.int .i64 r1, .string r2], .bool r3]) ∧ Below w.heap.size w w' := by
  have hu26 := Try.underlying26
  have HR0 := Aside0.mk hr0
  have HC0 := Aside0.mk hc0
  clear hr0 hc0
  have HB := Aside0.mk (Below.refl w.heap.size w)
  have H : (if (l0.length : Int) > 16 then (some (0, (⟨#[]⟩ : ByteArray), false)) else (tlv_Path.l0 k ([] : List Int) l0 (l0.length : Int) 0)) = some (r1, r2, r3) := h
  clear h
  by_cases c2 : (l0.length : Int) > 16
  · rw [if_pos c2] at H
    have c2b0 : decide (16 < (l0.length : Int)) = true := decide_eq_true c2
    have c2b1 : decide (16 < l0.length) = true := decide_eq_true (by omega)
    clear c2
    simp only [Option.some.injEq, Prod.mk.injEq] at H
    obtain ⟨rfl, rfl, rfl⟩ := H
    go_enter Try.func26, Try.ntmps26
    go_wp2_with (first | ((with_reducible refine gate_dst (N := 2) rfl ?_); refine box_event ?hg (N := 2) ?hd (cs := #[.int .i64 0, .string (⟨#[]⟩ : ByteArray)]) (t := 26) ?hr ?_; (case hd => rfl); (case hg => rfl); (case hr => first | (go_simp; done) | (go_simp; rfl)); intro gb107 hg w3 hbox hb; have n0_ := Aside0.mk (below_step (by repeat (first | (with_reducible first | exact HB.out | apply below_alloc | apply pw_below_drewN | apply below_drew1) | exact HB.out)) hb); have n1_ := Aside0.mk (hbox); have n2_ := Aside0.mk ((by rw [hg]; exact (below_size (by repeat (first | (with_reducible first | exact HB.out | apply below_alloc | apply pw_below_drewN | apply below_drew1) | exact HB.out))) : w.heap.size ≤ gb107)); have n3_ := Aside0.mk ((by rw [hg]; exact (below_size (by repeat (first | (with_reducible first | exact HB.out | apply below_alloc | apply pw_below_drewN | apply below_drew1) | exact HB.out))) : w.heap.size ≤ gb107)); clear HB; have HB := n0_; have BK107 := n1_; have GW107 := n2_; have GE107 := n3_; clear n0_ n1_ n2_ n3_; clear hb hbox hg; have hcz4_0 : w3.cell? ⟨gb107, 0, none⟩ = some (.int .i64 0) := (blk_cell BK107.out 0).trans rfl; have hcz4_1 : w3.cell? ⟨gb107, 1, none⟩ = some (.string (⟨#[]⟩ : ByteArray)) := (blk_cell BK107.out 1).trans rfl; have hfz4_0 := blk_frozen BK107.out 0; have hfz4_1 := blk_frozen BK107.out 1))
    refine bodyPost_ret (results_ct rfl _ _ gb107 26 #[.int .i64 0, .string (⟨#[]⟩ : ByteArray)] (0, 0) _ rfl (by (with_reducible repeat (first | refine blk_drewN ?_ _ | refine blk_drew ?_ | refine blk_alloc ?_ _)); refine blk_put (cs := #[.int .i64 0, .string (⟨#[]⟩ : ByteArray)]) ?_ 1 _ rfl; (with_reducible repeat (first | refine blk_drewN ?_ _ | refine blk_drew ?_ | refine blk_alloc ?_ _)); refine blk_put (cs := #[.int .i64 0, .string (⟨#[]⟩ : ByteArray)]) ?_ 0 _ rfl; (with_reducible repeat (first | refine blk_drewN ?_ _ | refine blk_drew ?_ | refine blk_alloc ?_ _)); exact BK107.out) Try.underlying26 rfl (by kernel_rfl)) rfl ?_
    exact ⟨by first | rfl | (simp [errW_none, errW_some] <;> rfl) | (simp [*, errW_none, errW_some] <;> rfl), by repeat (first | (with_reducible first | exact HB.out | apply below_alloc | apply pw_below_drewN | apply below_drew1 | refine below_set ?_ GE107.out) | exact HB.out)⟩
  · rw [if_neg c2] at H
    have c2b0 : decide (16 < (l0.length : Int)) = false := decide_eq_false c2
    have c2b1 : decide (16 < l0.length) = false := decide_eq_false (by omega)
    clear c2
    have H' := Aside0.mk H
    clear H
    go_enter Try.func26, Try.ntmps26
    go_wp2_with (first | ((with_reducible refine gate_dst (N := 2) rfl ?_); refine box_event ?hg (N := 2) ?hd (cs := #[.int .i64 0, .string (⟨#[]⟩ : ByteArray)]) (t := 26) ?hr ?_; (case hd => rfl); (case hg => rfl); (case hr => first | (go_simp; done) | (go_simp; rfl)); intro gb107 hg w5 hbox hb; have n0_ := Aside0.mk (below_step (by repeat (first | (with_reducible first | exact HB.out | apply below_alloc | apply pw_below_drewN | apply below_drew1) | exact HB.out)) hb); have n1_ := Aside0.mk (hbox); have n2_ := Aside0.mk ((by rw [hg]; exact (below_size (by repeat (first | (with_reducible first | exact HB.out | apply below_alloc | apply pw_below_drewN | apply below_drew1) | exact HB.out))) : w.heap.size ≤ gb107)); have n3_ := Aside0.mk ((by rw [hg]; exact (below_size (by repeat (first | (with_reducible first | exact HB.out | apply below_alloc | apply pw_below_drewN | apply below_drew1) | exact HB.out))) : w.heap.size ≤ gb107)); clear HB; have HB := n0_; have BK107 := n1_; have GW107 := n2_; have GE107 := n3_; clear n0_ n1_ n2_ n3_; clear hb hbox hg))
    go_loopg [4, 13] k (fun kq v4 v13 w' => ∃ (x4_1 : List Int) (x13_1 : Int), v13 = .int .i64 x13_1 ∧ Aside0 (tlv_Path.l0 kq x4_1 l0 (l0.length : Int) x13_1 = some (r1, r2, r3)) ∧ Aside0 (kq ≤ k) ∧ Aside0 (Kd.R (Kd.int .u8) 5 w' w.heap.size (fun _ => True) v4 x4_1) ∧ Aside0 (w'.heap[gb107]? = some (.cells #[.int .i64 0, .string (⟨#[]⟩ : ByteArray)] 26 (0, 0))) ∧ Aside0 (Below w.heap.size w w'))
    case atStart => exact ⟨(([] : List Int)), (0), (by first | rfl | (simp; done) | (simp [*]; done)), H', ⟨Nat.le_refl _⟩, ⟨by first | exact Kd.R_nil _ _ _ _ _ | exact Kd.N_nil _ _ _ _ _ | exact Kd.V_nil _ _ _ _ _ | exact Kd.Q_nil _ _ _ _ _ | exact Kd.S_nil _ _ _ _ _⟩, ⟨by (with_reducible repeat (first | refine blk_drewN ?_ _ | refine blk_drew ?_ | refine blk_alloc ?_ _)); exact BK107.out⟩, ⟨by repeat (first | (with_reducible first | exact HB.out | apply below_alloc | apply pw_below_drewN | apply below_drew1 | refine below_set ?_ GE107.out) | exact HB.out)⟩⟩
    case round =>
      clear H'
      try clear c2
      try clear c2b0
      try clear c2b1
      try clear p2
      try clear hcz4_0
      try clear hcz4_1
      try clear hfz4_0
      try clear hfz4_1
      obtain ⟨x4_1, x13_1, rfl, HA, HK1, HO_4, BK107, HB⟩ := hrel
      cases gk with
      | zero => exact absurd HA.out (by simp [tlv_Path.l0])
      | succ k1 =>
        have H := HA.out
        clear HA
        simp only [tlv_Path.l0] at H
        by_cases c6 : x13_1 < (l0.length : Int)
        · rw [if_pos c6] at H
          have c6b0 : decide (x13_1 < (l0.length : Int)) = true := decide_eq_true c6
          clear c6
          by_cases c7 : 0 ≤ x13_1
          · rw [if_pos c7] at H
            have c7b0 : decide (0 ≤ x13_1) = true := decide_eq_true c7
            clear c7
            by_cases c8 : x13_1 < (l0.length : Int)
            · rw [if_pos c8] at H
              have c8b0 : decide (x13_1 < (l0.length : Int)) = true := decide_eq_true c8
              clear c8
              replace H := Option.bind_eq_some_iff.mp H
              obtain ⟨t109, A90, H⟩ := H
              replace H : (tlv_Path.l0 k1 t109 l0 (l0.length : Int) (wrap64 (x13_1 + 1))) = some (r1, r2, r3) := H
              have A9 := Aside0.mk A90
              clear A90
              have H' := Aside0.mk H
              clear H
              have p108 : 0 ≤ (x13_1 : Int) := of_decide_eq_true (by first | (with_reducible assumption) | assumption)
              have q108 : x13_1 < (l0.length : Int) := of_decide_eq_true (by first | (with_reducible assumption) | assumption)
              obtain ⟨ad108, e108, hx108_0⟩ := Kd.at_int HR0.out x13_1 p108 q108
              cases e108
              replace hx108_0 := (HB.out.cell (World.block_lt_of_cell? w _ hx108_0)).trans hx108_0
              replace p108 := eq_true p108
              replace q108 := eq_true q108
              obtain ⟨Ao10, co10, eo10⟩ := Kd.R_slice HO_4.out
              subst eo10
              go_wp2_with (first | ((with_reducible refine gate_callee (f := 45) rfl ?_); refine goesL_ (some 19) rfl rfl Try.func45 (by kernel_rfl) rfl #[.slice Ao10 x4_1.length co10, .int .u64 (rd l0 x13_1)] rfl (by (try simp only [List.map_toArray, List.map_cons, List.map_nil]); first | done | rfl | (simp only [List.length_drop, List.length_take]; rfl)) ?_; (with_reducible refine (octets_PutId.calls _ _ x4_1 (rd l0 x13_1) t109 _ ?side1 ?side2 A9.out).mono ?_); (case side1 => repeat (first | exact (Kd.R_reads' HO_4.out).2.2 | (with_reducible refine Kd.C_alloc ?_ _) | (with_reducible refine Kd.C_drewN ?_ _) | (with_reducible refine Kd.C_drew ?_))); (case side2 => exact (Kd.R_reads' HO_4.out).2.1); rintro e w11 ⟨v110, rfl, ho0, hb⟩; refine ⟨_, rfl, ?_⟩; have n0_ := Aside0.mk (Kd.R_elder' (by (with_reducible repeat (first | apply Kd.R_alloc | apply Kd.R_drewN | apply Kd.R_drew)); exact HO_4.out) (Kd.R_base ho0) hb); have n1_ := Aside0.mk (Kd.R_lower (Kd.R_new' ho0 (Kd.R_lt (by (with_reducible repeat (first | apply Kd.R_alloc | apply Kd.R_drewN | apply Kd.R_drew)); exact HO_4.out))) (below_size (by repeat (first | (with_reducible first | exact HB.out | apply below_alloc | apply pw_below_drewN | apply below_drew1 | refine below_set ?_ GE107.out) | exact HB.out)))); have n2_ := Aside0.mk (blk_below (g := gb107) (o := .cells #[.int .i64 0, .string (⟨#[]⟩ : ByteArray)] 26 (0, 0)) (by (with_reducible repeat (first | refine blk_drewN ?_ _ | refine blk_drew ?_ | refine blk_alloc ?_ _)); exact BK107.out) hb); have n3_ := Aside0.mk (below_step (by repeat (first | (with_reducible first | exact HB.out | apply below_alloc | apply pw_below_drewN | apply below_drew1 | refine below_set ?_ GE107.out) | exact HB.out)) hb); clear HO_4; clear BK107; clear HB; have HO_4 := n0_; have HO111 := n1_; have BK107 := n2_; have HB := n3_; clear n0_ n1_ n2_ n3_; (try clear hb); (try clear hb2); (try clear hk); (try clear hi); (try clear ho0)))
              go_roundg k1
              case measure => have := HK1.out; omega
              case rel => exact ⟨(t109), (wrap64 (x13_1 + 1)), (by first | rfl | (simp; done) | (simp [*]; done)), H', ⟨by have := HK1.out; omega⟩, ⟨by (with_reducible repeat (first | apply Kd.R_alloc | apply Kd.R_drewN | apply Kd.R_drew)); exact Kd.R_mono HO111.out (fun _ hk => trivial)⟩, ⟨by (with_reducible repeat (first | refine blk_drewN ?_ _ | refine blk_drew ?_ | refine blk_alloc ?_ _)); exact BK107.out⟩, ⟨by repeat (first | (with_reducible first | exact HB.out | apply below_alloc | apply pw_below_drewN | apply below_drew1 | refine below_set ?_ GE107.out) | exact HB.out)⟩⟩
            · rw [if_neg c8] at H
              exact absurd H (by simp)
          · rw [if_neg c7] at H
            exact absurd H (by simp)
        · rw [if_neg c6] at H
          have c6b0 : decide (x13_1 < (l0.length : Int)) = false := decide_eq_false c6
          clear c6
          simp only [Option.some.injEq, Prod.mk.injEq] at H
          obtain ⟨rfl, rfl, rfl⟩ := H
          have hcv12 := own_string (P := Try.prog) Try.underlying31 Try.underlying5 Try.underlying9 (Kd.own_of_R HO_4.out)
          have hcz13_0 : wr.cell? ⟨gb107, 0, none⟩ = some (.int .i64 0) := (blk_cell BK107.out 0).trans rfl
          have hcz13_1 : wr.cell? ⟨gb107, 1, none⟩ = some (.string (⟨#[]⟩ : ByteArray)) := (blk_cell BK107.out 1).trans rfl
          have hfz13_0 := blk_frozen BK107.out 0
          have hfz13_1 := blk_frozen BK107.out 1
          go_wp2
          refine bodyPost_ret (results_ct rfl _ _ gb107 26 #[.int .i64 8, .string (strOfNums x4_1)] (0, 0) _ rfl (by (with_reducible repeat (first | refine blk_drewN ?_ _ | refine blk_drew ?_ | refine blk_alloc ?_ _)); refine blk_put (cs := #[.int .i64 8, .string (⟨#[]⟩ : ByteArray)]) ?_ 1 _ rfl; (with_reducible repeat (first | refine blk_drewN ?_ _ | refine blk_drew ?_ | refine blk_alloc ?_ _)); refine blk_put (cs := #[.int .i64 0, .string (⟨#[]⟩ : ByteArray)]) ?_ 0 _ rfl; (with_reducible repeat (first | refine blk_drewN ?_ _ | refine blk_drew ?_ | refine blk_alloc ?_ _)); exact BK107.out) Try.underlying26 rfl (by kernel_rfl)) rfl ?_
          exact ⟨by first | rfl | (simp [errW_none, errW_some] <;> rfl) | (simp [*, errW_none, errW_some] <;> rfl), by repeat (first | (with_reducible first | exact HB.out | apply below_alloc | apply pw_below_drewN | apply below_drew1 | refine below_set ?_ GE107.out) | exact HB.out)⟩
def carillonlaw08_awake.f (k : Nat)  : Option (Bool) := (tlv_Path.f k [1]).bind fun t5 => ((tlv_Put.f k [] [(⟨t5.1, t5.2.1⟩ : S26)]).bind fun t13 => (if t5.2.2 = true then (if t13.2 = true then (if (t13.1.length : Int) = 12 then (if 4 ≤ (t13.1.length : Int) then (some ((strOfNums (t13.1.take (4 : Int).toNat)).toList == (⟨#[0, 8, 0, 8]⟩ : ByteArray).toList)) else (none)) else (some false)) else (some false)) else (some false)))
open Go.Proofs.Ytgmiokocipmbaaa.E in
theorem carillonlaw08_awake.flat26 : Flat k26 (fun x => [.int .i64 x.f0, .string x.f1]) := ⟨fun w x cs h => k26_open h, fun w base x => k26_mkM w base _ x⟩
open Go.Proofs.Ytgmiokocipmbaaa.E in
set_option maxHeartbeats 60000000 in
set_option maxRecDepth 100000 in
theorem carillonlaw08_awake.calls (k : Nat) (r : Bool) (w : World) (h : carillonlaw08_awake.f k  = some r) :
    Calls Try.prog 11 #[] w fun e w' => e = .returned (.bool r) ∧ Below w.heap.size w w' := by
 have H := h
 clear h
 unfold carillonlaw08_awake.f at H
 obtain ⟨t5, aP, H⟩ := Option.bind_eq_some_iff.mp H
 obtain ⟨ab, ac, ae⟩ := t5
 (try dsimp only at H)
 obtain ⟨aW, aJ, H⟩ := Option.bind_eq_some_iff.mp H
 obtain ⟨aa, ad⟩ := aW
 (try dsimp only at H)
 by_cases c1 : ae = true
 rotate_left
 ·rw [if_neg c1] at H
  obtain rfl := Option.some.inj H
  refine calls_of_wp (fn := Try.f11) (by kernel_rfl) rfl ?_
  have hS := St.enter #[] 31 (by simp) [] (by simp)
  have aG := Below.refl w.heap.size w
  refine wp_seq_k (fun K1 aH => ?_)
  refine reg_seq (I := I1_ w) (ps := [VB false]) (by kernel_rfl) ?_ ?_ rfl hS aG ?_ ?_
  ·exact bs1
  ·exact .v (.nil)
  ·refine .on rfl (fun a w hS hI hp => does_val (x_assign rfl (rfl)) rfl) ?_
   exact .nil
  clear hS
  intro aS w3 hS az hp
  clear hp
  refine aH _ _ ?_
  refine wp_seq_k (fun K4 aI => ?_)
  refine reg_seq_tail 6 (I := I2_ w w3) (ps := [IsR (Kd.int .u64) 58 w3.heap.size [1], IsV (.tuple #[.agg #[.int .i64 ab, .string ac], .bool ae]), IsV (.tuple #[.agg #[.int .i64 ab, .string ac], .bool ae]), IsV (.agg #[.int .i64 ab, .string ac]), VB ae, IsB #[.int .i64 0, .string (⟨#[]⟩ : ByteArray)] 26 w3.heap.size]) (by kernel_rfl) ?_ ?_ rfl hS ⟨az, (bR w3)⟩ ?_ ?_
  ·exact bs2
  ·exact .cons (Stays.r _ _ _ _) (.v (.v (.v (.v (.cons (Stays.b _ _ _) (.nil))))))
  ·refine .on rfl (fun a w hS hI hp => does_lit w3.heap.size 45 58 1 _ [(0, .int .u64 1)] [1] rfl (by kernel_rfl) (by rw [Array.toList_map]; exact (show [(0, a.eval (.const (.int .u64 1)))] = _ from (li_cons (rfl) rfl))) (by kernel_rfl) rfl (hI.2).size (Nat.le_of_ble_eq_true rfl)) ?_
   refine .on rfl (fun a w hS hI hp => (IsC.of_r (hp.V 0 rfl rfl)).elim fun A_ h_ => h_.elim fun c_ h_ => h_.elim fun hv_ h_ => h_.elim fun hl_ hc_ => does_call (by kernel_rfl) (ar1 (hv_)) ((tlv_Path.calls k _ _ [1] ab ac ae _ hc_ hl_ aP).mono fun _ _ h => ⟨_, h.1, h.2, rfl⟩)) ?_
   refine .mv 1 rfl rfl rfl rfl ?_
   iterate 2 refine .on rfl (fun a w hS hI hp => does_val (x_extract rfl (hp.V 2 rfl rfl) rfl) rfl) ?_
   refine .on rfl (fun a w hS hI hp => does_var (x_alloc rfl (by kernel_rfl)) (hI.2).size) ?_
   exact .nil
  clear hS
  intro aT w7 hS al hp
  have ax : sl _ 8 = .agg #[.int .i64 ab, .string ac] := hp 3 (by decide)
  have ay : sl _ 9 = .bool ae := hp 4 (by decide)
  obtain ⟨g8, au, ak, ai⟩ := (show IsB _ 26 _ (sl _ 1) _ from hp 5 (by decide))
  have hS := hS.cons ax
  have hS := hS.cons ay
  have hS := hS.cons au
  clear hp ax ay au
  show wpList _ _ _ [_, _] _ _
  refine list_step rfl (does_storeAll (g := g8) (cs := #[.int .i64 ab, .string ac]) rfl (hS.get 0 rfl) (hS.get 2 rfl) (((bR w7).block g8 (blk_lt ai)).trans ai) (by kernel_rfl) (by kernel_rfl) (by kernel_rfl)) ?_
  rintro aU w9 ⟨rfl, aj, hT⟩
  have ap := hT.below al.1 (Nat.le_trans (az).size ak) (al.1).size
  have ao := hT.below al.2 ak (al.2).size
  clear hT
  refine list_step rfl (R := fun v w' => Below _ _ w' ∧ (VB ae) v w') (does_val (x_assign rfl (hS.get 1 rfl)) rfl) ?_
  rintro aD am ⟨hb, he⟩
  have an := below_step ap hb
  have af := below_step ao hb
  have ag := below_step (bR w9) hb
  obtain rfl : aD = .bool ae := he
  refine hS.next (v := .bool ae) (d := 2) rfl (by decide) (by rfl) ?_
  clear hS
  intro aM hS
  refine wpList_nil ?_
  refine aI _ _ ?_
  refine wp_seq_k (fun aQ aA => ?_)
  refine reg_seq (I := I4_ w w3 w9 am) (ps := [IsV (.agg #[.int .i64 ab, .string ac]), IsR k26 26 am.heap.size [(⟨ab, ac⟩ : S26)], IsT (fun v0_ => #[v0_, .bool ad]) (IsC (Kd.int .u8) aa), IsT (fun v0_ => #[v0_, .bool ad]) (IsC (Kd.int .u8) aa), IsC (Kd.int .u8) aa, VB ad, IsC (Kd.int .u8) aa, VB ad]) (by kernel_rfl) ?_ ?_ rfl hS ⟨an, af, ag, (bR am)⟩ ?_ ?_
  ·exact bs4
  ·exact .v (.cons (Stays.r _ _ _ _) (.cons (Stays.t _ (Stays.c _ _)) (.cons (Stays.t _ (Stays.c _ _)) (.cons (Stays.c _ _) (.v (.cons (Stays.c _ _) (.v (.nil))))))))
  ·refine .on rfl (fun a w hS hI hp => does_loadrow rfl (hS.get 1 rfl) (((hI.2.2.1).block g8 (blk_lt aj)).trans aj) Try.underlying26 rfl (by kernel_rfl) rfl) ?_
   refine .on rfl (fun a w hS hI hp => does_litT carillonlaw08_awake.flat26 am.heap.size 22 26 _ [(0, .agg #[.int .i64 ab, .string ac])] (⟨ab, ac⟩ : S26) rfl (by kernel_rfl) (by rw [Array.toList_map]; exact (show [(0, a.eval (.tmp 11))] = _ from (li_cons (hp.V 0 rfl rfl) rfl))) (by kernel_rfl) (hI.2.2.2).size) ?_
   refine .on rfl (fun a w hS hI hp => (IsC.of_r (hp.V 1 rfl rfl)).elim fun A_ h_ => h_.elim fun c_ h_ => h_.elim fun hv_ h_ => h_.elim fun hl_ hc_ => does_call (by kernel_rfl) (ar2 (rfl) (hv_)) ((tlv_Put.calls k _ _ [] _ _ [(⟨ab, ac⟩ : S26)] aa ad _ (Kd.C_nil _ _) (Nat.le_refl _) hc_ hl_ aJ).mono fun _ _ h => h.elim fun v0 h => ⟨_, h.1, h.2.2, v0, rfl, h.2.1⟩)) ?_
   refine .on rfl (fun a w hS hI hp => does_val (x_move rfl rfl) (hp.V 2 rfl rfl)) ?_
   refine .on rfl (fun a w hS hI hp => (hp.V 3 rfl rfl).elim fun v0 h0 => does_val (x_extract rfl h0.1 rfl) h0.2) ?_
   refine .on rfl (fun a w hS hI hp => (hp.V 3 rfl rfl).elim fun v0 h0 => does_val (x_extract rfl h0.1 rfl) rfl) ?_
   refine .on rfl (fun a w hS hI hp => does_val (x_assign rfl rfl) (hp.V 4 rfl rfl)) ?_
   refine .asg 5 rfl rfl rfl rfl ?_
   exact .nil
  clear hS
  intro aN aq hS ah hp
  replace hS := (hS.nil).cons (hS.get 0 rfl)
  obtain ⟨aE, aF, av, aL, aK⟩ := (show IsC (Kd.int .u8) aa (sl _ 3) aq from hp 6 (by decide))
  have aw : sl _ 4 = .bool ad := hp 7 (by decide)
  have hS := hS.cons av
  have hS := hS.cons aw
  clear hp av aw
  refine aA _ _ ?_
  refine wp_seq_k (fun aR aB => ?_)
  refine reg_seq (I := I4_ w w3 w9 aq) (ps := [VB ae, VB ae, VU, VB false, VB false, VU, VU, VU, VB false, VB false, VU, VU, VU, VU, VB false, VB false]) (by kernel_rfl) ?_ ?_ rfl hS ⟨ah.1, ah.2.1, ah.2.2.1, (bR aq)⟩ ?_ ?_
  ·exact bs4
  ·exact .v (.v (.v (.v (.v (.v (.v (.v (.v (.v (.v (.v (.v (.v (.v (.v (.nil))))))))))))))))
  ·refine .ms 2 rfl rfl rfl ?_
   refine .mv 0 rfl rfl rfl rfl ?_
   refine .sn 1 17 rfl rfl rfl rfl rfl ((Bool.eq_false_iff.2 c1)) ?_
   refine .pf 1 rfl rfl rfl rfl ((Bool.eq_false_iff.2 c1)) (fun _ => rfl) ?_
   refine .mv 3 rfl rfl rfl rfl ?_
   iterate 3 refine .sn 4 20 rfl rfl rfl rfl rfl rfl ?_
   refine .pf 4 rfl rfl rfl rfl rfl (fun _ => rfl) ?_
   refine .mv 8 rfl rfl rfl rfl ?_
   iterate 4 refine .sn 9 25 rfl rfl rfl rfl rfl rfl ?_
   refine .pf 9 rfl rfl rfl rfl rfl (fun _ => rfl) ?_
   refine .asg 14 rfl rfl rfl rfl ?_
   exact .nil
  clear hS
  intro aO aV hS aC hp
  replace hS := hS.nil
  have ar : sl _ 0 = .bool false := hp 15 (by decide)
  have hS := hS.cons ar
  clear hp ar
  refine aB _ _ ?_
  refine wp_ret ?_
  (try simp only [Exit.then, Exit.inBlock, Exit.jump, Exit.noGoto])
  exact bodyPost_ret (v := .bool false) (results_single rfl (Vals.at (hS.get 0 rfl) .nil)) hS.nodef ⟨rfl, aC.1⟩
 rw [if_pos c1] at H
 by_cases c2 : ad = true
 rotate_left
 ·rw [if_neg c2] at H
  obtain rfl := Option.some.inj H
  refine calls_of_wp (fn := Try.f11) (by kernel_rfl) rfl ?_
  have hS := St.enter #[] 31 (by simp) [] (by simp)
  have aG := Below.refl w.heap.size w
  refine wp_seq_k (fun K1 aH => ?_)
  refine reg_seq (I := I1_ w) (ps := [VB false]) (by kernel_rfl) ?_ ?_ rfl hS aG ?_ ?_
  ·exact bs1
  ·exact .v (.nil)
  ·refine .on rfl (fun a w hS hI hp => does_val (x_assign rfl (rfl)) rfl) ?_
   exact .nil
  clear hS
  intro aS w3 hS az hp
  clear hp
  refine aH _ _ ?_
  refine wp_seq_k (fun K4 aI => ?_)
  refine reg_seq_tail 6 (I := I2_ w w3) (ps := [IsR (Kd.int .u64) 58 w3.heap.size [1], IsV (.tuple #[.agg #[.int .i64 ab, .string ac], .bool ae]), IsV (.tuple #[.agg #[.int .i64 ab, .string ac], .bool ae]), IsV (.agg #[.int .i64 ab, .string ac]), VB ae, IsB #[.int .i64 0, .string (⟨#[]⟩ : ByteArray)] 26 w3.heap.size]) (by kernel_rfl) ?_ ?_ rfl hS ⟨az, (bR w3)⟩ ?_ ?_
  ·exact bs2
  ·exact .cons (Stays.r _ _ _ _) (.v (.v (.v (.v (.cons (Stays.b _ _ _) (.nil))))))
  ·refine .on rfl (fun a w hS hI hp => does_lit w3.heap.size 45 58 1 _ [(0, .int .u64 1)] [1] rfl (by kernel_rfl) (by rw [Array.toList_map]; exact (show [(0, a.eval (.const (.int .u64 1)))] = _ from (li_cons (rfl) rfl))) (by kernel_rfl) rfl (hI.2).size (Nat.le_of_ble_eq_true rfl)) ?_
   refine .on rfl (fun a w hS hI hp => (IsC.of_r (hp.V 0 rfl rfl)).elim fun A_ h_ => h_.elim fun c_ h_ => h_.elim fun hv_ h_ => h_.elim fun hl_ hc_ => does_call (by kernel_rfl) (ar1 (hv_)) ((tlv_Path.calls k _ _ [1] ab ac ae _ hc_ hl_ aP).mono fun _ _ h => ⟨_, h.1, h.2, rfl⟩)) ?_
   refine .mv 1 rfl rfl rfl rfl ?_
   iterate 2 refine .on rfl (fun a w hS hI hp => does_val (x_extract rfl (hp.V 2 rfl rfl) rfl) rfl) ?_
   refine .on rfl (fun a w hS hI hp => does_var (x_alloc rfl (by kernel_rfl)) (hI.2).size) ?_
   exact .nil
  clear hS
  intro aT w7 hS al hp
  have ax : sl _ 8 = .agg #[.int .i64 ab, .string ac] := hp 3 (by decide)
  have ay : sl _ 9 = .bool ae := hp 4 (by decide)
  obtain ⟨g8, au, ak, ai⟩ := (show IsB _ 26 _ (sl _ 1) _ from hp 5 (by decide))
  have hS := hS.cons ax
  have hS := hS.cons ay
  have hS := hS.cons au
  clear hp ax ay au
  show wpList _ _ _ [_, _] _ _
  refine list_step rfl (does_storeAll (g := g8) (cs := #[.int .i64 ab, .string ac]) rfl (hS.get 0 rfl) (hS.get 2 rfl) (((bR w7).block g8 (blk_lt ai)).trans ai) (by kernel_rfl) (by kernel_rfl) (by kernel_rfl)) ?_
  rintro aU w9 ⟨rfl, aj, hT⟩
  have ap := hT.below al.1 (Nat.le_trans (az).size ak) (al.1).size
  have ao := hT.below al.2 ak (al.2).size
  clear hT
  refine list_step rfl (R := fun v w' => Below _ _ w' ∧ (VB ae) v w') (does_val (x_assign rfl (hS.get 1 rfl)) rfl) ?_
  rintro aD am ⟨hb, he⟩
  have an := below_step ap hb
  have af := below_step ao hb
  have ag := below_step (bR w9) hb
  obtain rfl : aD = .bool ae := he
  refine hS.next (v := .bool ae) (d := 2) rfl (by decide) (by rfl) ?_
  clear hS
  intro aM hS
  refine wpList_nil ?_
  refine aI _ _ ?_
  refine wp_seq_k (fun aQ aA => ?_)
  refine reg_seq (I := I4_ w w3 w9 am) (ps := [IsV (.agg #[.int .i64 ab, .string ac]), IsR k26 26 am.heap.size [(⟨ab, ac⟩ : S26)], IsT (fun v0_ => #[v0_, .bool ad]) (IsC (Kd.int .u8) aa), IsT (fun v0_ => #[v0_, .bool ad]) (IsC (Kd.int .u8) aa), IsC (Kd.int .u8) aa, VB ad, IsC (Kd.int .u8) aa, VB ad]) (by kernel_rfl) ?_ ?_ rfl hS ⟨an, af, ag, (bR am)⟩ ?_ ?_
  ·exact bs4
  ·exact .v (.cons (Stays.r _ _ _ _) (.cons (Stays.t _ (Stays.c _ _)) (.cons (Stays.t _ (Stays.c _ _)) (.cons (Stays.c _ _) (.v (.cons (Stays.c _ _) (.v (.nil))))))))
  ·refine .on rfl (fun a w hS hI hp => does_loadrow rfl (hS.get 1 rfl) (((hI.2.2.1).block g8 (blk_lt aj)).trans aj) Try.underlying26 rfl (by kernel_rfl) rfl) ?_
   refine .on rfl (fun a w hS hI hp => does_litT carillonlaw08_awake.flat26 am.heap.size 22 26 _ [(0, .agg #[.int .i64 ab, .string ac])] (⟨ab, ac⟩ : S26) rfl (by kernel_rfl) (by rw [Array.toList_map]; exact (show [(0, a.eval (.tmp 11))] = _ from (li_cons (hp.V 0 rfl rfl) rfl))) (by kernel_rfl) (hI.2.2.2).size) ?_
   refine .on rfl (fun a w hS hI hp => (IsC.of_r (hp.V 1 rfl rfl)).elim fun A_ h_ => h_.elim fun c_ h_ => h_.elim fun hv_ h_ => h_.elim fun hl_ hc_ => does_call (by kernel_rfl) (ar2 (rfl) (hv_)) ((tlv_Put.calls k _ _ [] _ _ [(⟨ab, ac⟩ : S26)] aa ad _ (Kd.C_nil _ _) (Nat.le_refl _) hc_ hl_ aJ).mono fun _ _ h => h.elim fun v0 h => ⟨_, h.1, h.2.2, v0, rfl, h.2.1⟩)) ?_
   refine .on rfl (fun a w hS hI hp => does_val (x_move rfl rfl) (hp.V 2 rfl rfl)) ?_
   refine .on rfl (fun a w hS hI hp => (hp.V 3 rfl rfl).elim fun v0 h0 => does_val (x_extract rfl h0.1 rfl) h0.2) ?_
   refine .on rfl (fun a w hS hI hp => (hp.V 3 rfl rfl).elim fun v0 h0 => does_val (x_extract rfl h0.1 rfl) rfl) ?_
   refine .on rfl (fun a w hS hI hp => does_val (x_assign rfl rfl) (hp.V 4 rfl rfl)) ?_
   refine .asg 5 rfl rfl rfl rfl ?_
   exact .nil
  clear hS
  intro aN aq hS ah hp
  replace hS := (hS.nil).cons (hS.get 0 rfl)
  obtain ⟨aE, aF, av, aL, aK⟩ := (show IsC (Kd.int .u8) aa (sl _ 3) aq from hp 6 (by decide))
  have aw : sl _ 4 = .bool ad := hp 7 (by decide)
  have hS := hS.cons av
  have hS := hS.cons aw
  clear hp av aw
  refine aA _ _ ?_
  refine wp_seq_k (fun aR aB => ?_)
  refine reg_seq (I := I4_ w w3 w9 aq) (ps := [VB ae, VB ae, VB ad, VB ad, VB ad, VU, VU, VU, VB false, VB false, VU, VU, VU, VU, VB false, VB false]) (by kernel_rfl) ?_ ?_ rfl hS ⟨ah.1, ah.2.1, ah.2.2.1, (bR aq)⟩ ?_ ?_
  ·exact bs4
  ·exact .v (.v (.v (.v (.v (.v (.v (.v (.v (.v (.v (.v (.v (.v (.v (.v (.nil))))))))))))))))
  ·refine .ms 2 rfl rfl rfl ?_
   refine .mv 0 rfl rfl rfl rfl ?_
   refine .oy 1 17 rfl rfl rfl rfl rfl c1 (fun a w hS hI hp => does_val (x_move rfl (hS.get 0 rfl)) rfl) ?_
   refine .pt 1 2 rfl rfl rfl rfl c1 rfl rfl ?_
   refine .mv 3 rfl rfl rfl rfl ?_
   iterate 3 refine .sn 4 20 rfl rfl rfl rfl rfl ((Bool.eq_false_iff.2 c2)) ?_
   refine .pf 4 rfl rfl rfl rfl ((Bool.eq_false_iff.2 c2)) (fun _ => rfl) ?_
   refine .mv 8 rfl rfl rfl rfl ?_
   iterate 4 refine .sn 9 25 rfl rfl rfl rfl rfl rfl ?_
   refine .pf 9 rfl rfl rfl rfl rfl (fun _ => rfl) ?_
   refine .asg 14 rfl rfl rfl rfl ?_
   exact .nil
  clear hS
  intro aO aV hS aC hp
  replace hS := hS.nil
  have ar : sl _ 0 = .bool false := hp 15 (by decide)
  have hS := hS.cons ar
  clear hp ar
  refine aB _ _ ?_
  refine wp_ret ?_
  (try simp only [Exit.then, Exit.inBlock, Exit.jump, Exit.noGoto])
  exact bodyPost_ret (v := .bool false) (results_single rfl (Vals.at (hS.get 0 rfl) .nil)) hS.nodef ⟨rfl, aC.1⟩
 rw [if_pos c2] at H
 by_cases c3 : (aa.length : Int) = 12
 rotate_left
 ·rw [if_neg c3] at H
  obtain rfl := Option.some.inj H
  refine calls_of_wp (fn := Try.f11) (by kernel_rfl) rfl ?_
  have hS := St.enter #[] 31 (by simp) [] (by simp)
  have aG := Below.refl w.heap.size w
  refine wp_seq_k (fun K1 aH => ?_)
  refine reg_seq (I := I1_ w) (ps := [VB false]) (by kernel_rfl) ?_ ?_ rfl hS aG ?_ ?_
  ·exact bs1
  ·exact .v (.nil)
  ·refine .on rfl (fun a w hS hI hp => does_val (x_assign rfl (rfl)) rfl) ?_
   exact .nil
  clear hS
  intro aS w3 hS az hp
  clear hp
  refine aH _ _ ?_
  refine wp_seq_k (fun K4 aI => ?_)
  refine reg_seq_tail 6 (I := I2_ w w3) (ps := [IsR (Kd.int .u64) 58 w3.heap.size [1], IsV (.tuple #[.agg #[.int .i64 ab, .string ac], .bool ae]), IsV (.tuple #[.agg #[.int .i64 ab, .string ac], .bool ae]), IsV (.agg #[.int .i64 ab, .string ac]), VB ae, IsB #[.int .i64 0, .string (⟨#[]⟩ : ByteArray)] 26 w3.heap.size]) (by kernel_rfl) ?_ ?_ rfl hS ⟨az, (bR w3)⟩ ?_ ?_
  ·exact bs2
  ·exact .cons (Stays.r _ _ _ _) (.v (.v (.v (.v (.cons (Stays.b _ _ _) (.nil))))))
  ·refine .on rfl (fun a w hS hI hp => does_lit w3.heap.size 45 58 1 _ [(0, .int .u64 1)] [1] rfl (by kernel_rfl) (by rw [Array.toList_map]; exact (show [(0, a.eval (.const (.int .u64 1)))] = _ from (li_cons (rfl) rfl))) (by kernel_rfl) rfl (hI.2).size (Nat.le_of_ble_eq_true rfl)) ?_
   refine .on rfl (fun a w hS hI hp => (IsC.of_r (hp.V 0 rfl rfl)).elim fun A_ h_ => h_.elim fun c_ h_ => h_.elim fun hv_ h_ => h_.elim fun hl_ hc_ => does_call (by kernel_rfl) (ar1 (hv_)) ((tlv_Path.calls k _ _ [1] ab ac ae _ hc_ hl_ aP).mono fun _ _ h => ⟨_, h.1, h.2, rfl⟩)) ?_
   refine .mv 1 rfl rfl rfl rfl ?_
   iterate 2 refine .on rfl (fun a w hS hI hp => does_val (x_extract rfl (hp.V 2 rfl rfl) rfl) rfl) ?_
   refine .on rfl (fun a w hS hI hp => does_var (x_alloc rfl (by kernel_rfl)) (hI.2).size) ?_
   exact .nil
  clear hS
  intro aT w7 hS al hp
  have ax : sl _ 8 = .agg #[.int .i64 ab, .string ac] := hp 3 (by decide)
  have ay : sl _ 9 = .bool ae := hp 4 (by decide)
  obtain ⟨g8, au, ak, ai⟩ := (show IsB _ 26 _ (sl _ 1) _ from hp 5 (by decide))
  have hS := hS.cons ax
  have hS := hS.cons ay
  have hS := hS.cons au
  clear hp ax ay au
  show wpList _ _ _ [_, _] _ _
  refine list_step rfl (does_storeAll (g := g8) (cs := #[.int .i64 ab, .string ac]) rfl (hS.get 0 rfl) (hS.get 2 rfl) (((bR w7).block g8 (blk_lt ai)).trans ai) (by kernel_rfl) (by kernel_rfl) (by kernel_rfl)) ?_
  rintro aU w9 ⟨rfl, aj, hT⟩
  have ap := hT.below al.1 (Nat.le_trans (az).size ak) (al.1).size
  have ao := hT.below al.2 ak (al.2).size
  clear hT
  refine list_step rfl (R := fun v w' => Below _ _ w' ∧ (VB ae) v w') (does_val (x_assign rfl (hS.get 1 rfl)) rfl) ?_
  rintro aD am ⟨hb, he⟩
  have an := below_step ap hb
  have af := below_step ao hb
  have ag := below_step (bR w9) hb
  obtain rfl : aD = .bool ae := he
  refine hS.next (v := .bool ae) (d := 2) rfl (by decide) (by rfl) ?_
  clear hS
  intro aM hS
  refine wpList_nil ?_
  refine aI _ _ ?_
  refine wp_seq_k (fun aQ aA => ?_)
  refine reg_seq (I := I4_ w w3 w9 am) (ps := [IsV (.agg #[.int .i64 ab, .string ac]), IsR k26 26 am.heap.size [(⟨ab, ac⟩ : S26)], IsT (fun v0_ => #[v0_, .bool ad]) (IsC (Kd.int .u8) aa), IsT (fun v0_ => #[v0_, .bool ad]) (IsC (Kd.int .u8) aa), IsC (Kd.int .u8) aa, VB ad, IsC (Kd.int .u8) aa, VB ad]) (by kernel_rfl) ?_ ?_ rfl hS ⟨an, af, ag, (bR am)⟩ ?_ ?_
  ·exact bs4
  ·exact .v (.cons (Stays.r _ _ _ _) (.cons (Stays.t _ (Stays.c _ _)) (.cons (Stays.t _ (Stays.c _ _)) (.cons (Stays.c _ _) (.v (.cons (Stays.c _ _) (.v (.nil))))))))
  ·refine .on rfl (fun a w hS hI hp => does_loadrow rfl (hS.get 1 rfl) (((hI.2.2.1).block g8 (blk_lt aj)).trans aj) Try.underlying26 rfl (by kernel_rfl) rfl) ?_
   refine .on rfl (fun a w hS hI hp => does_litT carillonlaw08_awake.flat26 am.heap.size 22 26 _ [(0, .agg #[.int .i64 ab, .string ac])] (⟨ab, ac⟩ : S26) rfl (by kernel_rfl) (by rw [Array.toList_map]; exact (show [(0, a.eval (.tmp 11))] = _ from (li_cons (hp.V 0 rfl rfl) rfl))) (by kernel_rfl) (hI.2.2.2).size) ?_
   refine .on rfl (fun a w hS hI hp => (IsC.of_r (hp.V 1 rfl rfl)).elim fun A_ h_ => h_.elim fun c_ h_ => h_.elim fun hv_ h_ => h_.elim fun hl_ hc_ => does_call (by kernel_rfl) (ar2 (rfl) (hv_)) ((tlv_Put.calls k _ _ [] _ _ [(⟨ab, ac⟩ : S26)] aa ad _ (Kd.C_nil _ _) (Nat.le_refl _) hc_ hl_ aJ).mono fun _ _ h => h.elim fun v0 h => ⟨_, h.1, h.2.2, v0, rfl, h.2.1⟩)) ?_
   refine .on rfl (fun a w hS hI hp => does_val (x_move rfl rfl) (hp.V 2 rfl rfl)) ?_
   refine .on rfl (fun a w hS hI hp => (hp.V 3 rfl rfl).elim fun v0 h0 => does_val (x_extract rfl h0.1 rfl) h0.2) ?_
   refine .on rfl (fun a w hS hI hp => (hp.V 3 rfl rfl).elim fun v0 h0 => does_val (x_extract rfl h0.1 rfl) rfl) ?_
   refine .on rfl (fun a w hS hI hp => does_val (x_assign rfl rfl) (hp.V 4 rfl rfl)) ?_
   refine .asg 5 rfl rfl rfl rfl ?_
   exact .nil
  clear hS
  intro aN aq hS ah hp
  replace hS := (hS.nil).cons (hS.get 0 rfl)
  obtain ⟨aE, aF, av, aL, aK⟩ := (show IsC (Kd.int .u8) aa (sl _ 3) aq from hp 6 (by decide))
  have aw : sl _ 4 = .bool ad := hp 7 (by decide)
  have hS := hS.cons av
  have hS := hS.cons aw
  clear hp av aw
  refine aA _ _ ?_
  refine wp_seq_k (fun aR aB => ?_)
  refine reg_seq (I := I4_ w w3 w9 aq) (ps := [VB ae, VB ae, VB ad, VB ad, VB ad, IsV (.slice aE aa.length aF), VI (aa.length : Int), VB (decide ((aa.length : Int) = 12)), VB (decide ((aa.length : Int) = 12)), VB (decide ((aa.length : Int) = 12)), VU, VU, VU, VU, VB false, VB false]) (by kernel_rfl) ?_ ?_ rfl hS ⟨ah.1, ah.2.1, ah.2.2.1, (bR aq)⟩ ?_ ?_
  ·exact bs4
  ·exact .v (.v (.v (.v (.v (.v (.v (.v (.v (.v (.v (.v (.v (.v (.v (.v (.nil))))))))))))))))
  ·refine .ms 2 rfl rfl rfl ?_
   refine .mv 0 rfl rfl rfl rfl ?_
   refine .oy 1 17 rfl rfl rfl rfl rfl c1 (fun a w hS hI hp => does_val (x_move rfl (hS.get 0 rfl)) rfl) ?_
   refine .pt 1 2 rfl rfl rfl rfl c1 rfl rfl ?_
   refine .mv 3 rfl rfl rfl rfl ?_
   refine .oy 4 20 rfl rfl rfl rfl rfl c2 (fun a w hS hI hp => does_val (x_move rfl (hS.get 1 rfl)) rfl) ?_
   refine .oy 4 20 rfl rfl rfl rfl rfl c2 (fun a w hS hI hp => does_val (x_len (e := 5) rfl (by kernel_rfl) (hp.V 5 rfl rfl)) rfl) ?_
   refine .oy 4 20 rfl rfl rfl rfl rfl c2 (fun a w hS hI hp => does_val (x_bin rfl (hp.V 6 rfl rfl) (rfl) (b_eql _ _ _ _ _ _)) rfl) ?_
   refine .pt 4 7 rfl rfl rfl rfl c2 rfl rfl ?_
   refine .mv 8 rfl rfl rfl rfl ?_
   iterate 4 refine .sn 9 25 rfl rfl rfl rfl rfl ((decide_eq_false c3)) ?_
   refine .pf 9 rfl rfl rfl rfl ((decide_eq_false c3)) (fun _ => rfl) ?_
   refine .asg 14 rfl rfl rfl rfl ?_
   exact .nil
  clear hS
  intro aO aV hS aC hp
  replace hS := hS.nil
  have ar : sl _ 0 = .bool false := hp 15 (by decide)
  have hS := hS.cons ar
  clear hp ar
  refine aB _ _ ?_
  refine wp_ret ?_
  (try simp only [Exit.then, Exit.inBlock, Exit.jump, Exit.noGoto])
  exact bodyPost_ret (v := .bool false) (results_single rfl (Vals.at (hS.get 0 rfl) .nil)) hS.nodef ⟨rfl, aC.1⟩
 rw [if_pos c3] at H
 by_cases c4 : 4 ≤ (aa.length : Int)
 rotate_left
 ·rw [if_neg c4] at H
  exact absurd H (by simp)
 rw [if_pos c4] at H
 obtain rfl := Option.some.inj H
 refine calls_of_wp (fn := Try.f11) (by kernel_rfl) rfl ?_
 have hS := St.enter #[] 31 (by simp) [] (by simp)
 have aG := Below.refl w.heap.size w
 refine wp_seq_k (fun K1 aH => ?_)
 refine reg_seq (I := I1_ w) (ps := [VB false]) (by kernel_rfl) ?_ ?_ rfl hS aG ?_ ?_
 ·exact bs1
 ·exact .v (.nil)
 ·refine .on rfl (fun a w hS hI hp => does_val (x_assign rfl (rfl)) rfl) ?_
  exact .nil
 clear hS
 intro aS w3 hS az hp
 clear hp
 refine aH _ _ ?_
 refine wp_seq_k (fun K4 aI => ?_)
 refine reg_seq_tail 6 (I := I2_ w w3) (ps := [IsR (Kd.int .u64) 58 w3.heap.size [1], IsV (.tuple #[.agg #[.int .i64 ab, .string ac], .bool ae]), IsV (.tuple #[.agg #[.int .i64 ab, .string ac], .bool ae]), IsV (.agg #[.int .i64 ab, .string ac]), VB ae, IsB #[.int .i64 0, .string (⟨#[]⟩ : ByteArray)] 26 w3.heap.size]) (by kernel_rfl) ?_ ?_ rfl hS ⟨az, (bR w3)⟩ ?_ ?_
 ·exact bs2
 ·exact .cons (Stays.r _ _ _ _) (.v (.v (.v (.v (.cons (Stays.b _ _ _) (.nil))))))
 ·refine .on rfl (fun a w hS hI hp => does_lit w3.heap.size 45 58 1 _ [(0, .int .u64 1)] [1] rfl (by kernel_rfl) (by rw [Array.toList_map]; exact (show [(0, a.eval (.const (.int .u64 1)))] = _ from (li_cons (rfl) rfl))) (by kernel_rfl) rfl (hI.2).size (Nat.le_of_ble_eq_true rfl)) ?_
  refine .on rfl (fun a w hS hI hp => (IsC.of_r (hp.V 0 rfl rfl)).elim fun A_ h_ => h_.elim fun c_ h_ => h_.elim fun hv_ h_ => h_.elim fun hl_ hc_ => does_call (by kernel_rfl) (ar1 (hv_)) ((tlv_Path.calls k _ _ [1] ab ac ae _ hc_ hl_ aP).mono fun _ _ h => ⟨_, h.1, h.2, rfl⟩)) ?_
  refine .mv 1 rfl rfl rfl rfl ?_
  iterate 2 refine .on rfl (fun a w hS hI hp => does_val (x_extract rfl (hp.V 2 rfl rfl) rfl) rfl) ?_
  refine .on rfl (fun a w hS hI hp => does_var (x_alloc rfl (by kernel_rfl)) (hI.2).size) ?_
  exact .nil
 clear hS
 intro aT w7 hS al hp
 have ax : sl _ 8 = .agg #[.int .i64 ab, .string ac] := hp 3 (by decide)
 have ay : sl _ 9 = .bool ae := hp 4 (by decide)
 obtain ⟨g8, au, ak, ai⟩ := (show IsB _ 26 _ (sl _ 1) _ from hp 5 (by decide))
 have hS := hS.cons ax
 have hS := hS.cons ay
 have hS := hS.cons au
 clear hp ax ay au
 show wpList _ _ _ [_, _] _ _
 refine list_step rfl (does_storeAll (g := g8) (cs := #[.int .i64 ab, .string ac]) rfl (hS.get 0 rfl) (hS.get 2 rfl) (((bR w7).block g8 (blk_lt ai)).trans ai) (by kernel_rfl) (by kernel_rfl) (by kernel_rfl)) ?_
 rintro aU w9 ⟨rfl, aj, hT⟩
 have ap := hT.below al.1 (Nat.le_trans (az).size ak) (al.1).size
 have ao := hT.below al.2 ak (al.2).size
 clear hT
 refine list_step rfl (R := fun v w' => Below _ _ w' ∧ (VB ae) v w') (does_val (x_assign rfl (hS.get 1 rfl)) rfl) ?_
 rintro aD am ⟨hb, he⟩
 have an := below_step ap hb
 have af := below_step ao hb
 have ag := below_step (bR w9) hb
 obtain rfl : aD = .bool ae := he
 refine hS.next (v := .bool ae) (d := 2) rfl (by decide) (by rfl) ?_
 clear hS
 intro aM hS
 refine wpList_nil ?_
 refine aI _ _ ?_
 refine wp_seq_k (fun aQ aA => ?_)
 refine reg_seq (I := I4_ w w3 w9 am) (ps := [IsV (.agg #[.int .i64 ab, .string ac]), IsR k26 26 am.heap.size [(⟨ab, ac⟩ : S26)], IsT (fun v0_ => #[v0_, .bool ad]) (IsC (Kd.int .u8) aa), IsT (fun v0_ => #[v0_, .bool ad]) (IsC (Kd.int .u8) aa), IsC (Kd.int .u8) aa, VB ad, IsC (Kd.int .u8) aa, VB ad]) (by kernel_rfl) ?_ ?_ rfl hS ⟨an, af, ag, (bR am)⟩ ?_ ?_
 ·exact bs4
 ·exact .v (.cons (Stays.r _ _ _ _) (.cons (Stays.t _ (Stays.c _ _)) (.cons (Stays.t _ (Stays.c _ _)) (.cons (Stays.c _ _) (.v (.cons (Stays.c _ _) (.v (.nil))))))))
 ·refine .on rfl (fun a w hS hI hp => does_loadrow rfl (hS.get 1 rfl) (((hI.2.2.1).block g8 (blk_lt aj)).trans aj) Try.underlying26 rfl (by kernel_rfl) rfl) ?_
  refine .on rfl (fun a w hS hI hp => does_litT carillonlaw08_awake.flat26 am.heap.size 22 26 _ [(0, .agg #[.int .i64 ab, .string ac])] (⟨ab, ac⟩ : S26) rfl (by kernel_rfl) (by rw [Array.toList_map]; exact (show [(0, a.eval (.tmp 11))] = _ from (li_cons (hp.V 0 rfl rfl) rfl))) (by kernel_rfl) (hI.2.2.2).size) ?_
  refine .on rfl (fun a w hS hI hp => (IsC.of_r (hp.V 1 rfl rfl)).elim fun A_ h_ => h_.elim fun c_ h_ => h_.elim fun hv_ h_ => h_.elim fun hl_ hc_ => does_call (by kernel_rfl) (ar2 (rfl) (hv_)) ((tlv_Put.calls k _ _ [] _ _ [(⟨ab, ac⟩ : S26)] aa ad _ (Kd.C_nil _ _) (Nat.le_refl _) hc_ hl_ aJ).mono fun _ _ h => h.elim fun v0 h => ⟨_, h.1, h.2.2, v0, rfl, h.2.1⟩)) ?_
  refine .on rfl (fun a w hS hI hp => does_val (x_move rfl rfl) (hp.V 2 rfl rfl)) ?_
  refine .on rfl (fun a w hS hI hp => (hp.V 3 rfl rfl).elim fun v0 h0 => does_val (x_extract rfl h0.1 rfl) h0.2) ?_
  refine .on rfl (fun a w hS hI hp => (hp.V 3 rfl rfl).elim fun v0 h0 => does_val (x_extract rfl h0.1 rfl) rfl) ?_
  refine .on rfl (fun a w hS hI hp => does_val (x_assign rfl rfl) (hp.V 4 rfl rfl)) ?_
  refine .asg 5 rfl rfl rfl rfl ?_
  exact .nil
 clear hS
 intro aN aq hS ah hp
 replace hS := (hS.nil).cons (hS.get 0 rfl)
 obtain ⟨aE, aF, av, aL, aK⟩ := (show IsC (Kd.int .u8) aa (sl _ 3) aq from hp 6 (by decide))
 have aw : sl _ 4 = .bool ad := hp 7 (by decide)
 have hS := hS.cons av
 have hS := hS.cons aw
 clear hp av aw
 refine aA _ _ ?_
 refine wp_seq_k (fun aR aB => ?_)
 refine reg_seq (I := I4_ w w3 w9 aq) (ps := [VB ae, VB ae, VB ad, VB ad, VB ad, IsV (.slice aE aa.length aF), VI (aa.length : Int), VB (decide ((aa.length : Int) = 12)), VB (decide ((aa.length : Int) = 12)), VB (decide ((aa.length : Int) = 12)), IsV (.slice aE aa.length aF), IsV (.slice aE ((aa.take (4 : Int).toNat).length) aF), IsV (.string (strOfNums (aa.take (4 : Int).toNat))), VB ((strOfNums (aa.take (4 : Int).toNat)).toList == (⟨#[0, 8, 0, 8]⟩ : ByteArray).toList), VB ((strOfNums (aa.take (4 : Int).toNat)).toList == (⟨#[0, 8, 0, 8]⟩ : ByteArray).toList), VB ((strOfNums (aa.take (4 : Int).toNat)).toList == (⟨#[0, 8, 0, 8]⟩ : ByteArray).toList)]) (by kernel_rfl) ?_ ?_ rfl hS ⟨ah.1, ah.2.1, ah.2.2.1, (bR aq)⟩ ?_ ?_
 ·exact bs4
 ·exact .v (.v (.v (.v (.v (.v (.v (.v (.v (.v (.v (.v (.v (.v (.v (.v (.nil))))))))))))))))
 ·refine .ms 2 rfl rfl rfl ?_
  refine .mv 0 rfl rfl rfl rfl ?_
  refine .oy 1 17 rfl rfl rfl rfl rfl c1 (fun a w hS hI hp => does_val (x_move rfl (hS.get 0 rfl)) rfl) ?_
  refine .pt 1 2 rfl rfl rfl rfl c1 rfl rfl ?_
  refine .mv 3 rfl rfl rfl rfl ?_
  refine .oy 4 20 rfl rfl rfl rfl rfl c2 (fun a w hS hI hp => does_val (x_move rfl (hS.get 1 rfl)) rfl) ?_
  refine .oy 4 20 rfl rfl rfl rfl rfl c2 (fun a w hS hI hp => does_val (x_len (e := 5) rfl (by kernel_rfl) (hp.V 5 rfl rfl)) rfl) ?_
  refine .oy 4 20 rfl rfl rfl rfl rfl c2 (fun a w hS hI hp => does_val (x_bin rfl (hp.V 6 rfl rfl) (rfl) (b_eql _ _ _ _ _ _)) rfl) ?_
  refine .pt 4 7 rfl rfl rfl rfl c2 rfl rfl ?_
  refine .mv 8 rfl rfl rfl rfl ?_
  refine .oy 9 25 rfl rfl rfl rfl rfl ((decide_eq_true c3)) (fun a w hS hI hp => does_val (x_move rfl (hS.get 1 rfl)) rfl) ?_
  refine .oy 9 25 rfl rfl rfl rfl rfl ((decide_eq_true c3)) (fun a w hS hI hp => does_val (x_cuthi rfl (e := 5) (xs := aa) (by kernel_rfl) (by kernel_rfl) (hp.V 10 rfl rfl) (rfl) (by decide) c4 aL) rfl) ?_
  refine .oy 9 25 rfl rfl rfl rfl rfl ((decide_eq_true c3)) (fun a w hS hI hp => does_val (x_conv rfl (hp.V 11 rfl rfl) (Kd.C_string (by kernel_rfl) (e := 5) (by kernel_rfl) (by kernel_rfl) (Kd.C_take (m := (4 : Int).toNat) (Kd.C_below aK hI.2.2.2) (by have := c4; omega)))) rfl) ?_
  refine .oy 9 25 rfl rfl rfl rfl rfl ((decide_eq_true c3)) (fun a w hS hI hp => does_val (x_bin rfl (hp.V 12 rfl rfl) (rfl) (b_eqs _ _ _ _ _)) rfl) ?_
  refine .pt 9 13 rfl rfl rfl rfl ((decide_eq_true c3)) rfl rfl ?_
  refine .asg 14 rfl rfl rfl rfl ?_
  exact .nil
 clear hS
 intro aO aV hS aC hp
 replace hS := hS.nil
 have ar : sl _ 0 = .bool ((strOfNums (aa.take (4 : Int).toNat)).toList == (⟨#[0, 8, 0, 8]⟩ : ByteArray).toList) := hp 15 (by decide)
 have hS := hS.cons ar
 clear hp ar
 refine aB _ _ ?_
 refine wp_ret ?_
 (try simp only [Exit.then, Exit.inBlock, Exit.jump, Exit.noGoto])
 exact bodyPost_ret (v := .bool ((strOfNums (aa.take (4 : Int).toNat)).toList == (⟨#[0, 8, 0, 8]⟩ : ByteArray).toList)) (results_single rfl (Vals.at (hS.get 0 rfl) .nil)) hS.nodef ⟨rfl, aC.1⟩
def tlv_Find.l0 : Nat → Int → List (S26) → Int → Int → Option (Int × ByteArray × Bool)
  | 0, _, _, _, _ => none
  | k + 1, x1, x8, x9, x10 => if x10 < x9 then (if 0 ≤ x10 then (if x10 < (x8.length : Int) then (if ((rd_T26 x8 x10).f0) = x1 then (some ((rd_T26 x8 x10).f0, (rd_T26 x8 x10).f1, true)) else (tlv_Find.l0 k x1 x8 x9 (wrap64 (x10 + 1)))) else (none)) else (none)) else (some (0, (⟨#[]⟩ : ByteArray), false))
def tlv_Find.f (k : Nat) (l0 : List (S26)) (a1 : Int) : Option (Int × ByteArray × Bool) := tlv_Find.l0 k a1 l0 (l0.length : Int) 0
set_option maxHeartbeats 8000000 in
set_option maxRecDepth 100000 in
theorem tlv_Find.calls (k : Nat) (A0 : Option Addr) (c0 : Nat) (l0 : List (S26)) (a1 : Int) (r1 : Int) (r2 : ByteArray) (r3 : Bool) (w : World) (hr0 : Kd.C k26 w A0 l0.length l0) (hc0 : l0.length ≤ c0) (h : tlv_Find.f k l0 a1 = some (r1, r2, r3)) :
    Calls Try.prog 12 #[.slice A0 l0.length c0, .int .i64 a1] w fun e w' => e = .returned (.tuple #[.agg #[.int .i64 r1, .string r2], .bool r3]) ∧ Below w.heap.size w w' := by
  have hu26 := Try.underlying26
  have HR0 := Aside0.mk hr0
  have HC0 := Aside0.mk hc0
  clear hr0 hc0
  have HB := Aside0.mk (Below.refl w.heap.size w)
  have H : (tlv_Find.l0 k a1 l0 (l0.length : Int) 0) = some (r1, r2, r3) := h
  clear h
  have H' := Aside0.mk H
  clear H
  go_enter Try.func12, Try.ntmps12
  go_wp2_with (first | ((with_reducible refine gate_dst (N := 4) rfl ?_); refine box_event ?hg (N := 4) ?hd (cs := #[.int .i64 0, .string (⟨#[]⟩ : ByteArray)]) (t := 26) ?hr ?_; (case hd => rfl); (case hg => rfl); (case hr => first | (go_simp; done) | (go_simp; rfl)); intro gb112 hg w3 hbox hb; have n0_ := Aside0.mk (below_step (by repeat (first | (with_reducible first | exact HB.out | apply below_alloc | apply pw_below_drewN | apply below_drew1) | exact HB.out)) hb); have n1_ := Aside0.mk (hbox); have n2_ := Aside0.mk ((by rw [hg]; exact (below_size (by repeat (first | (with_reducible first | exact HB.out | apply below_alloc | apply pw_below_drewN | apply below_drew1) | exact HB.out))) : w.heap.size ≤ gb112)); have n3_ := Aside0.mk ((by rw [hg]; exact (below_size (by repeat (first | (with_reducible first | exact HB.out | apply below_alloc | apply pw_below_drewN | apply below_drew1) | exact HB.out))) : w.heap.size ≤ gb112)); clear HB; have HB := n0_; have BK112 := n1_; have GW112 := n2_; have GE112 := n3_; clear n0_ n1_ n2_ n3_; clear hb hbox hg))
  go_loopg [10] k (fun kq v10 w' => ∃ (x10_1 : Int) (x113000_1 : Int) (x113001_1 : ByteArray), v10 = .int .i64 x10_1 ∧ Aside0 (tlv_Find.l0 kq a1 l0 (l0.length : Int) x10_1 = some (r1, r2, r3)) ∧ Aside0 (kq ≤ k) ∧ Aside0 (w'.heap[gb112]? = some (.cells #[.int .i64 x113000_1, .string x113001_1] 26 (0, 0))) ∧ Aside0 (Below w.heap.size w w'))
  case atStart => exact ⟨(0), (0), ((⟨#[]⟩ : ByteArray)), (by first | rfl | (simp; done) | (simp [*]; done)), H', ⟨Nat.le_refl _⟩, ⟨by (with_reducible repeat (first | refine blk_drewN ?_ _ | refine blk_drew ?_ | refine blk_alloc ?_ _)); exact BK112.out⟩, ⟨by repeat (first | (with_reducible first | exact HB.out | apply below_alloc | apply pw_below_drewN | apply below_drew1 | refine below_set ?_ GE112.out) | exact HB.out)⟩⟩
  case round =>
    clear H'
    try clear c1
    try clear p2
    obtain ⟨x10_1, x113000_1, x113001_1, rfl, HA, HK1, BK112, HB⟩ := hrel
    cases gk with
    | zero => exact absurd HA.out (by simp [tlv_Find.l0])
    | succ k1 =>
      have H := HA.out
      clear HA
      simp only [tlv_Find.l0] at H
      by_cases c4 : x10_1 < (l0.length : Int)
      · rw [if_pos c4] at H
        have c4b0 : decide (x10_1 < (l0.length : Int)) = true := decide_eq_true c4
        clear c4
        by_cases c5 : 0 ≤ x10_1
        · rw [if_pos c5] at H
          have c5b0 : decide (0 ≤ x10_1) = true := decide_eq_true c5
          clear c5
          by_cases c6 : x10_1 < (l0.length : Int)
          · rw [if_pos c6] at H
            have c6b0 : decide (x10_1 < (l0.length : Int)) = true := decide_eq_true c6
            clear c6
            by_cases c7 : ((rd_T26 l0 x10_1).f0) = a1
            · rw [if_pos c7] at H
              have c7b0 : (((rd_T26 l0 x10_1).f0) == a1) = true := beq_iff_eq.mpr c7
              have c7b1 : (((rd_T26 l0 x10_1).f0) != a1) = false := bne_eq_false_iff_eq.mpr c7
              clear c7
              simp only [Option.some.injEq, Prod.mk.injEq] at H
              obtain ⟨rfl, rfl, rfl⟩ := H
              have p113 : 0 ≤ (x10_1 : Int) := of_decide_eq_true (by first | (with_reducible assumption) | assumption)
              have q113 : x10_1 < (l0.length : Int) := of_decide_eq_true (by first | (with_reducible assumption) | assumption)
              obtain ⟨ad113, e113, hx113_0, hx113_1⟩ := at_T26 HR0.out x10_1 p113 q113
              cases e113
              replace hx113_0 := (HB.out.cell (World.block_lt_of_cell? w _ hx113_0)).trans hx113_0
              replace hx113_1 := (HB.out.cell (World.block_lt_of_cell? w _ hx113_1)).trans hx113_1
              replace p113 := eq_true p113
              replace q113 := eq_true q113
              go_wp2_with (first | ((with_reducible refine gate_dst (N := 7) rfl ?_); refine box_event ?hg (N := 7) ?hd (cs := #[.int .i64 0, .string (⟨#[]⟩ : ByteArray)]) (t := 26) ?hr ?_; (case hd => rfl); (case hg => rfl); (case hr => first | (go_simp; done) | (go_simp; rfl)); intro gb114 hg w8 hbox hb; have n0_ := Aside0.mk (blk_below (g := gb112) (o := .cells #[.int .i64 x113000_1, .string x113001_1] 26 (0, 0)) (by (with_reducible repeat (first | refine blk_drewN ?_ _ | refine blk_drew ?_ | refine blk_alloc ?_ _)); exact BK112.out) hb); have n1_ := Aside0.mk (below_step (by repeat (first | (with_reducible first | exact HB.out | apply below_alloc | apply pw_below_drewN | apply below_drew1 | refine below_set ?_ GE112.out) | exact HB.out)) hb); have n2_ := Aside0.mk (hbox); have n3_ := Aside0.mk ((by rw [hg]; exact (below_size (by repeat (first | (with_reducible first | exact HB.out | apply below_alloc | apply pw_below_drewN | apply below_drew1 | refine below_set ?_ GE112.out) | exact HB.out))) : w.heap.size ≤ gb114)); have n4_ := Aside0.mk ((by rw [hg]; exact (below_size (by repeat (first | (with_reducible first | exact HB.out | apply below_alloc | apply pw_below_drewN | apply below_drew1 | refine below_set ?_ GE112.out) | exact HB.out))) : w.heap.size ≤ gb114)); have n5_ := Aside0.mk ((by rw [hg]; exact Nat.ne_of_lt (blk_lt (g := gb112) (o := .cells #[.int .i64 x113000_1, .string x113001_1] 26 (0, 0)) (by (with_reducible repeat (first | refine blk_drewN ?_ _ | refine blk_drew ?_ | refine blk_alloc ?_ _)); exact BK112.out)) : gb112 ≠ gb114)); have n6_ := Aside0.mk ((by rw [hg]; exact Nat.ne_of_gt (blk_lt (g := gb112) (o := .cells #[.int .i64 x113000_1, .string x113001_1] 26 (0, 0)) (by (with_reducible repeat (first | refine blk_drewN ?_ _ | refine blk_drew ?_ | refine blk_alloc ?_ _)); exact BK112.out)) : gb114 ≠ gb112)); clear BK112; clear HB; have BK112 := n0_; have HB := n1_; have BK114 := n2_; have GW114 := n3_; have GE114 := n4_; have NB112_114 := n5_; have NB114_112 := n6_; clear n0_ n1_ n2_ n3_ n4_ n5_ n6_; clear hb hbox hg; have hnb9 := NB114_112.out; have hnc9 := NB112_114.out; have hcz10_0 : w8.cell? ⟨gb114, 0, none⟩ = some (.int .i64 0) := (blk_cell BK114.out 0).trans rfl; have hcz10_1 : w8.cell? ⟨gb114, 1, none⟩ = some (.string (⟨#[]⟩ : ByteArray)) := (blk_cell BK114.out 1).trans rfl; have hfz10_0 := blk_frozen BK114.out 0; have hfz10_1 := blk_frozen BK114.out 1; have hcz11_0 : w8.cell? ⟨gb112, 0, none⟩ = some (.int .i64 x113000_1) := (blk_cell BK112.out 0).trans rfl; have hcz11_1 : w8.cell? ⟨gb112, 1, none⟩ = some (.string x113001_1) := (blk_cell BK112.out 1).trans rfl; have hfz11_0 := blk_frozen BK112.out 0; have hfz11_1 := blk_frozen BK112.out 1))
              refine bodyPost_ret (results_ct rfl _ _ gb112 26 #[.int .i64 ((rd_T26 l0 x10_1).f0), .string ((rd_T26 l0 x10_1).f1)] (0, 0) _ rfl (by (with_reducible repeat (first | refine blk_drewN ?_ _ | refine blk_drew ?_ | refine blk_alloc ?_ _)); refine blk_put (cs := #[.int .i64 ((rd_T26 l0 x10_1).f0), .string x113001_1]) ?_ 1 _ rfl; (with_reducible repeat (first | refine blk_drewN ?_ _ | refine blk_drew ?_ | refine blk_alloc ?_ _)); refine blk_put (cs := #[.int .i64 x113000_1, .string x113001_1]) ?_ 0 _ rfl; (with_reducible repeat (first | refine blk_drewN ?_ _ | refine blk_drew ?_ | refine blk_alloc ?_ _)); refine blk_far ?_ NB112_114.out _; (with_reducible repeat (first | refine blk_drewN ?_ _ | refine blk_drew ?_ | refine blk_alloc ?_ _)); refine blk_far ?_ NB112_114.out _; (with_reducible repeat (first | refine blk_drewN ?_ _ | refine blk_drew ?_ | refine blk_alloc ?_ _)); exact BK112.out) Try.underlying26 rfl (by kernel_rfl)) rfl ?_
              exact ⟨by first | rfl | (simp [errW_none, errW_some] <;> rfl) | (simp [*, errW_none, errW_some] <;> rfl), by repeat (first | (with_reducible first | exact HB.out | apply below_alloc | apply pw_below_drewN | apply below_drew1 | refine below_set ?_ GE112.out | refine below_set ?_ GE114.out) | exact HB.out)⟩
            · rw [if_neg c7] at H
              have c7b0 : (((rd_T26 l0 x10_1).f0) == a1) = false := beq_eq_false_iff_ne.mpr c7
              have c7b1 : (((rd_T26 l0 x10_1).f0) != a1) = true := bne_iff_ne.mpr c7
              have H' := Aside0.mk H
              clear H
              have p113 : 0 ≤ (x10_1 : Int) := of_decide_eq_true (by first | (with_reducible assumption) | assumption)
              have q113 : x10_1 < (l0.length : Int) := of_decide_eq_true (by first | (with_reducible assumption) | assumption)
              obtain ⟨ad113, e113, hx113_0, hx113_1⟩ := at_T26 HR0.out x10_1 p113 q113
              cases e113
              replace hx113_0 := (HB.out.cell (World.block_lt_of_cell? w _ hx113_0)).trans hx113_0
              replace hx113_1 := (HB.out.cell (World.block_lt_of_cell? w _ hx113_1)).trans hx113_1
              replace p113 := eq_true p113
              replace q113 := eq_true q113
              go_wp2_with (first | ((with_reducible refine gate_dst (N := 7) rfl ?_); refine box_event ?hg (N := 7) ?hd (cs := #[.int .i64 0, .string (⟨#[]⟩ : ByteArray)]) (t := 26) ?hr ?_; (case hd => rfl); (case hg => rfl); (case hr => first | (go_simp; done) | (go_simp; rfl)); intro gb114 hg w12 hbox hb; have n0_ := Aside0.mk (blk_below (g := gb112) (o := .cells #[.int .i64 x113000_1, .string x113001_1] 26 (0, 0)) (by (with_reducible repeat (first | refine blk_drewN ?_ _ | refine blk_drew ?_ | refine blk_alloc ?_ _)); exact BK112.out) hb); have n1_ := Aside0.mk (below_step (by repeat (first | (with_reducible first | exact HB.out | apply below_alloc | apply pw_below_drewN | apply below_drew1 | refine below_set ?_ GE112.out) | exact HB.out)) hb); have n2_ := Aside0.mk (hbox); have n3_ := Aside0.mk ((by rw [hg]; exact (below_size (by repeat (first | (with_reducible first | exact HB.out | apply below_alloc | apply pw_below_drewN | apply below_drew1 | refine below_set ?_ GE112.out) | exact HB.out))) : w.heap.size ≤ gb114)); have n4_ := Aside0.mk ((by rw [hg]; exact (below_size (by repeat (first | (with_reducible first | exact HB.out | apply below_alloc | apply pw_below_drewN | apply below_drew1 | refine below_set ?_ GE112.out) | exact HB.out))) : w.heap.size ≤ gb114)); have n5_ := Aside0.mk ((by rw [hg]; exact Nat.ne_of_lt (blk_lt (g := gb112) (o := .cells #[.int .i64 x113000_1, .string x113001_1] 26 (0, 0)) (by (with_reducible repeat (first | refine blk_drewN ?_ _ | refine blk_drew ?_ | refine blk_alloc ?_ _)); exact BK112.out)) : gb112 ≠ gb114)); have n6_ := Aside0.mk ((by rw [hg]; exact Nat.ne_of_gt (blk_lt (g := gb112) (o := .cells #[.int .i64 x113000_1, .string x113001_1] 26 (0, 0)) (by (with_reducible repeat (first | refine blk_drewN ?_ _ | refine blk_drew ?_ | refine blk_alloc ?_ _)); exact BK112.out)) : gb114 ≠ gb112)); clear BK112; clear HB; have BK112 := n0_; have HB := n1_; have BK114 := n2_; have GW114 := n3_; have GE114 := n4_; have NB112_114 := n5_; have NB114_112 := n6_; clear n0_ n1_ n2_ n3_ n4_ n5_ n6_; clear hb hbox hg; have hnb13 := NB114_112.out; have hnc13 := NB112_114.out; have hcz14_0 : w12.cell? ⟨gb114, 0, none⟩ = some (.int .i64 0) := (blk_cell BK114.out 0).trans rfl; have hcz14_1 : w12.cell? ⟨gb114, 1, none⟩ = some (.string (⟨#[]⟩ : ByteArray)) := (blk_cell BK114.out 1).trans rfl; have hfz14_0 := blk_frozen BK114.out 0; have hfz14_1 := blk_frozen BK114.out 1))
              go_roundg k1
              case measure => have := HK1.out; omega
              case rel => exact ⟨(wrap64 (x10_1 + 1)), (x113000_1), (x113001_1), (by first | rfl | (simp; done) | (simp [*]; done)), H', ⟨by have := HK1.out; omega⟩, ⟨by (with_reducible repeat (first | refine blk_drewN ?_ _ | refine blk_drew ?_ | refine blk_alloc ?_ _)); refine blk_far ?_ NB112_114.out _; (with_reducible repeat (first | refine blk_drewN ?_ _ | refine blk_drew ?_ | refine blk_alloc ?_ _)); refine blk_far ?_ NB112_114.out _; (with_reducible repeat (first | refine blk_drewN ?_ _ | refine blk_drew ?_ | refine blk_alloc ?_ _)); exact BK112.out⟩, ⟨by repeat (first | (with_reducible first | exact HB.out | apply below_alloc | apply pw_below_drewN | apply below_drew1 | refine below_set ?_ GE112.out | refine below_set ?_ GE114.out) | exact HB.out)⟩⟩
          · rw [if_neg c6] at H
            exact absurd H (by simp)
        · rw [if_neg c5] at H
          exact absurd H (by simp)
      · rw [if_neg c4] at H
        have c4b0 : decide (x10_1 < (l0.length : Int)) = false := decide_eq_false c4
        clear c4
        simp only [Option.some.injEq, Prod.mk.injEq] at H
        obtain ⟨rfl, rfl, rfl⟩ := H
        have hcz15_0 : wr.cell? ⟨gb112, 0, none⟩ = some (.int .i64 x113000_1) := (blk_cell BK112.out 0).trans rfl
        have hcz15_1 : wr.cell? ⟨gb112, 1, none⟩ = some (.string x113001_1) := (blk_cell BK112.out 1).trans rfl
        have hfz15_0 := blk_frozen BK112.out 0
        have hfz15_1 := blk_frozen BK112.out 1
        go_wp2
        refine bodyPost_ret (results_ct rfl _ _ gb112 26 #[.int .i64 0, .string (⟨#[]⟩ : ByteArray)] (0, 0) _ rfl (by (with_reducible repeat (first | refine blk_drewN ?_ _ | refine blk_drew ?_ | refine blk_alloc ?_ _)); refine blk_put (cs := #[.int .i64 0, .string x113001_1]) ?_ 1 _ rfl; (with_reducible repeat (first | refine blk_drewN ?_ _ | refine blk_drew ?_ | refine blk_alloc ?_ _)); refine blk_put (cs := #[.int .i64 x113000_1, .string x113001_1]) ?_ 0 _ rfl; (with_reducible repeat (first | refine blk_drewN ?_ _ | refine blk_drew ?_ | refine blk_alloc ?_ _)); exact BK112.out) Try.underlying26 rfl (by kernel_rfl)) rfl ?_
        exact ⟨by first | rfl | (simp [errW_none, errW_some] <;> rfl) | (simp [*, errW_none, errW_some] <;> rfl), by repeat (first | (with_reducible first | exact HB.out | apply below_alloc | apply pw_below_drewN | apply below_drew1 | refine below_set ?_ GE112.out) | exact HB.out)⟩
end Go.Proofs.Ytgmiokocipmbaaa.P
