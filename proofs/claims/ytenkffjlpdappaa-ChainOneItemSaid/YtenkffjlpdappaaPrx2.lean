-- Printed by hprint.py (a program of this claim's session over the kit's printer).
import Derived.Test.YtenkffjlpdappaaPrx0
namespace Go.Proofs.Ytenkffjlpdappaa.Pr
open Go.RowKit Go.Proofs.YtenkffjlpdappaaW.PrintWords Go.Proofs.YtenkffjlpdappaaW.PrintLast Go.Proofs.YtenkffjlpdappaaW.PrintMore
attribute [local go_sem] max2_int min2_int max_two min_two max_three min_three max_four min_four   -- for this text's walks alone
set_option linter.unusedVariables false
set_option linter.unusedSimpArgs false

/-! ### chain_inside: function 54 -/
def chain_inside.f (a0 : Int) (a1 : Int) (a2 : Int) : Option (Bool) := if a0 ≥ a1 then (some (decide (a0 ≤ a2))) else (some false)
set_option maxHeartbeats 8000000 in
set_option maxRecDepth 100000 in
theorem chain_inside.calls (a0 : Int) (a1 : Int) (a2 : Int) (r : Bool) (w : World) (h : chain_inside.f a0 a1 a2 = some r) :
    Calls Try.prog 54 #[.int .i64 a0, .int .i64 a1, .int .i64 a2] w fun e w' => e = .returned (.bool r) ∧ Drawn0 w w' := by
  have H : (if a0 ≥ a1 then (some (decide (a0 ≤ a2))) else (some false)) = some r := h
  clear h
  by_cases c4 : a0 ≥ a1
  · rw [if_pos c4] at H
    have c4b0 : decide (a1 ≤ a0) = true := decide_eq_true c4
    clear c4
    obtain rfl := Option.some.inj H
    go_enter Try.func54, Try.ntmps54
    go_wp2
    go_ret
    exact ⟨by first | rfl | (simp; done) | (simp [*]; done), by repeat (first | exact Drawn0.refl _ | apply Drawn0.step)⟩
  · rw [if_neg c4] at H
    have c4b0 : decide (a1 ≤ a0) = false := decide_eq_false c4
    clear c4
    obtain rfl := Option.some.inj H
    go_enter Try.func54, Try.ntmps54
    go_wp2
    go_ret
    exact ⟨by first | rfl | (simp; done) | (simp [*]; done), by repeat (first | exact Drawn0.refl _ | apply Drawn0.step)⟩

/-! ### chain_valid: function 45 -/
def chain_valid.f (a0_0 : Int) (a0_1 : Int) (a0_2 : Int) (a0_3 : Int) (a0_4 : Int) : Option (Bool) := (chain_inside.f a0_0 1 1000000).bind fun t102 => (if t102 = true then ((chain_inside.f a0_1 1 64).bind fun t103 => (if t103 = true then ((chain_inside.f a0_2 0 52560000).bind fun t104 => (if t104 = true then ((chain_inside.f a0_3 0 1000000000).bind fun t105 => (some t105)) else (some false))) else (some false))) else (some false))
set_option maxHeartbeats 8000000 in
set_option maxRecDepth 100000 in
theorem chain_valid.calls (a0_0 : Int) (a0_1 : Int) (a0_2 : Int) (a0_3 : Int) (a0_4 : Int) (r : Bool) (w : World) (h : chain_valid.f a0_0 a0_1 a0_2 a0_3 a0_4 = some r) :
    Calls Try.prog 45 #[.agg #[.int .i64 a0_0, .int .i64 a0_1, .int .i64 a0_2, .int .i64 a0_3, .int .u64 a0_4]] w fun e w' => e = .returned (.bool r) ∧ Below w.heap.size w w' := by
  have hu44 := Try.underlying44
  have HB := Aside0.mk (Below.refl w.heap.size w)
  have H : ((chain_inside.f a0_0 1 1000000).bind fun t102 => (if t102 = true then ((chain_inside.f a0_1 1 64).bind fun t103 => (if t103 = true then ((chain_inside.f a0_2 0 52560000).bind fun t104 => (if t104 = true then ((chain_inside.f a0_3 0 1000000000).bind fun t105 => (some t105)) else (some false))) else (some false))) else (some false))) = some r := h
  clear h
  replace H := Option.bind_eq_some_iff.mp H
  obtain ⟨t102, A20, H⟩ := H
  replace H : (if t102 = true then ((chain_inside.f a0_1 1 64).bind fun t103 => (if t103 = true then ((chain_inside.f a0_2 0 52560000).bind fun t104 => (if t104 = true then ((chain_inside.f a0_3 0 1000000000).bind fun t105 => (some t105)) else (some false))) else (some false))) else (some false)) = some r := H
  have A2 := Aside0.mk A20
  clear A20
  by_cases c3 : t102 = true
  · subst c3
    have H1 : ((chain_inside.f a0_1 1 64).bind fun t103 => (if t103 = true then ((chain_inside.f a0_2 0 52560000).bind fun t104 => (if t104 = true then ((chain_inside.f a0_3 0 1000000000).bind fun t105 => (some t105)) else (some false))) else (some false))) = some r := by rw [if_pos rfl] at H; exact H
    clear H
    have H := H1
    clear H1
    replace H := Option.bind_eq_some_iff.mp H
    obtain ⟨t103, A40, H⟩ := H
    replace H : (if t103 = true then ((chain_inside.f a0_2 0 52560000).bind fun t104 => (if t104 = true then ((chain_inside.f a0_3 0 1000000000).bind fun t105 => (some t105)) else (some false))) else (some false)) = some r := H
    have A4 := Aside0.mk A40
    clear A40
    by_cases c5 : t103 = true
    · subst c5
      have H1 : ((chain_inside.f a0_2 0 52560000).bind fun t104 => (if t104 = true then ((chain_inside.f a0_3 0 1000000000).bind fun t105 => (some t105)) else (some false))) = some r := by rw [if_pos rfl] at H; exact H
      clear H
      have H := H1
      clear H1
      replace H := Option.bind_eq_some_iff.mp H
      obtain ⟨t104, A60, H⟩ := H
      replace H : (if t104 = true then ((chain_inside.f a0_3 0 1000000000).bind fun t105 => (some t105)) else (some false)) = some r := H
      have A6 := Aside0.mk A60
      clear A60
      by_cases c7 : t104 = true
      · subst c7
        have H1 : ((chain_inside.f a0_3 0 1000000000).bind fun t105 => (some t105)) = some r := by rw [if_pos rfl] at H; exact H
        clear H
        have H := H1
        clear H1
        replace H := Option.bind_eq_some_iff.mp H
        obtain ⟨t105, A80, H⟩ := H
        replace H : (some t105) = some r := H
        have A8 := Aside0.mk A80
        clear A80
        obtain rfl := Option.some.inj H
        go_enter Try.func45, Try.ntmps45
        go_wp2_with (first | ((with_reducible refine gate_dst (N := 1) rfl ?_); refine box_event ?hg (N := 1) ?hd (cs := #[.int .i64 a0_0, .int .i64 a0_1, .int .i64 a0_2, .int .i64 a0_3, .int .u64 a0_4]) (t := 44) ?hr ?_; (case hd => rfl); (case hg => rfl); (case hr => first | (go_simp; done) | (go_simp; rfl)); intro gb101 hg w9 hbox hb; have n0_ := Aside0.mk (below_step (by repeat (first | (with_reducible first | exact HB.out | apply below_alloc | apply pw_below_drewN | apply below_drew1) | exact HB.out)) hb); have n1_ := Aside0.mk (hbox); have n2_ := Aside0.mk ((by rw [hg]; exact (below_size (by repeat (first | (with_reducible first | exact HB.out | apply below_alloc | apply pw_below_drewN | apply below_drew1) | exact HB.out))) : w.heap.size ≤ gb101)); have n3_ := Aside0.mk ((by rw [hg]; exact (below_size (by repeat (first | (with_reducible first | exact HB.out | apply below_alloc | apply pw_below_drewN | apply below_drew1) | exact HB.out))) : w.heap.size ≤ gb101)); clear HB; have HB := n0_; have BK101 := n1_; have GW101 := n2_; have GE101 := n3_; clear n0_ n1_ n2_ n3_; clear hb hbox hg; have hcz10_0 : w9.cell? ⟨gb101, 0, none⟩ = some (.int .i64 a0_0) := (blk_cell BK101.out 0).trans rfl; have hcz10_1 : w9.cell? ⟨gb101, 1, none⟩ = some (.int .i64 a0_1) := (blk_cell BK101.out 1).trans rfl; have hcz10_2 : w9.cell? ⟨gb101, 2, none⟩ = some (.int .i64 a0_2) := (blk_cell BK101.out 2).trans rfl; have hcz10_3 : w9.cell? ⟨gb101, 3, none⟩ = some (.int .i64 a0_3) := (blk_cell BK101.out 3).trans rfl; have hcz10_4 : w9.cell? ⟨gb101, 4, none⟩ = some (.int .u64 a0_4) := (blk_cell BK101.out 4).trans rfl; have hfz10_0 := blk_frozen BK101.out 0; have hfz10_1 := blk_frozen BK101.out 1; have hfz10_2 := blk_frozen BK101.out 2; have hfz10_3 := blk_frozen BK101.out 3; have hfz10_4 := blk_frozen BK101.out 4) | ((with_reducible refine gate_callee (f := 54) rfl ?_); refine goesL_ (some 5) rfl rfl Try.func54 (by kernel_rfl) rfl #[.int .i64 a0_0, .int .i64 1, .int .i64 1000000] rfl (by (try simp only [List.map_toArray, List.map_cons, List.map_nil]); first | done | rfl | (simp only [List.length_drop, List.length_take]; rfl)) ?_; (with_reducible refine (chain_inside.calls a0_0 1 1000000 true _ A2.out).mono ?_); rintro e w' ⟨rfl, ⟨nd, rfl⟩⟩; refine ⟨_, rfl, ?_⟩) | (go_at_call 54; (with_reducible refine (chain_inside.calls a0_1 1 64 true _ A4.out).mono ?_); rintro e w' ⟨rfl, ⟨nd, rfl⟩⟩) | (go_at_call 54; (with_reducible refine (chain_inside.calls a0_2 0 52560000 true _ A6.out).mono ?_); rintro e w' ⟨rfl, ⟨nd, rfl⟩⟩) | (go_at_call 54; (with_reducible refine (chain_inside.calls a0_3 0 1000000000 t105 _ A8.out).mono ?_); rintro e w' ⟨rfl, ⟨nd, rfl⟩⟩))
        go_ret
        exact ⟨by first | rfl | (simp [errW_none, errW_some] <;> rfl) | (simp [*, errW_none, errW_some] <;> rfl), by repeat (first | (with_reducible first | exact HB.out | apply below_alloc | apply pw_below_drewN | apply below_drew1 | refine below_set ?_ GE101.out) | exact HB.out)⟩
      · replace c7 := Bool.eq_false_iff.mpr c7
        subst c7
        have H1 : (some false) = some r := by rw [if_neg (show ¬ (false = true) by decide)] at H; exact H
        clear H
        have H := H1
        clear H1
        obtain rfl := Option.some.inj H
        go_enter Try.func45, Try.ntmps45
        go_wp2_with (first | ((with_reducible refine gate_dst (N := 1) rfl ?_); refine box_event ?hg (N := 1) ?hd (cs := #[.int .i64 a0_0, .int .i64 a0_1, .int .i64 a0_2, .int .i64 a0_3, .int .u64 a0_4]) (t := 44) ?hr ?_; (case hd => rfl); (case hg => rfl); (case hr => first | (go_simp; done) | (go_simp; rfl)); intro gb101 hg w11 hbox hb; have n0_ := Aside0.mk (below_step (by repeat (first | (with_reducible first | exact HB.out | apply below_alloc | apply pw_below_drewN | apply below_drew1) | exact HB.out)) hb); have n1_ := Aside0.mk (hbox); have n2_ := Aside0.mk ((by rw [hg]; exact (below_size (by repeat (first | (with_reducible first | exact HB.out | apply below_alloc | apply pw_below_drewN | apply below_drew1) | exact HB.out))) : w.heap.size ≤ gb101)); have n3_ := Aside0.mk ((by rw [hg]; exact (below_size (by repeat (first | (with_reducible first | exact HB.out | apply below_alloc | apply pw_below_drewN | apply below_drew1) | exact HB.out))) : w.heap.size ≤ gb101)); clear HB; have HB := n0_; have BK101 := n1_; have GW101 := n2_; have GE101 := n3_; clear n0_ n1_ n2_ n3_; clear hb hbox hg; have hcz12_0 : w11.cell? ⟨gb101, 0, none⟩ = some (.int .i64 a0_0) := (blk_cell BK101.out 0).trans rfl; have hcz12_1 : w11.cell? ⟨gb101, 1, none⟩ = some (.int .i64 a0_1) := (blk_cell BK101.out 1).trans rfl; have hcz12_2 : w11.cell? ⟨gb101, 2, none⟩ = some (.int .i64 a0_2) := (blk_cell BK101.out 2).trans rfl; have hcz12_3 : w11.cell? ⟨gb101, 3, none⟩ = some (.int .i64 a0_3) := (blk_cell BK101.out 3).trans rfl; have hcz12_4 : w11.cell? ⟨gb101, 4, none⟩ = some (.int .u64 a0_4) := (blk_cell BK101.out 4).trans rfl; have hfz12_0 := blk_frozen BK101.out 0; have hfz12_1 := blk_frozen BK101.out 1; have hfz12_2 := blk_frozen BK101.out 2; have hfz12_3 := blk_frozen BK101.out 3; have hfz12_4 := blk_frozen BK101.out 4) | ((with_reducible refine gate_callee (f := 54) rfl ?_); refine goesL_ (some 5) rfl rfl Try.func54 (by kernel_rfl) rfl #[.int .i64 a0_0, .int .i64 1, .int .i64 1000000] rfl (by (try simp only [List.map_toArray, List.map_cons, List.map_nil]); first | done | rfl | (simp only [List.length_drop, List.length_take]; rfl)) ?_; (with_reducible refine (chain_inside.calls a0_0 1 1000000 true _ A2.out).mono ?_); rintro e w' ⟨rfl, ⟨nd, rfl⟩⟩; refine ⟨_, rfl, ?_⟩) | (go_at_call 54; (with_reducible refine (chain_inside.calls a0_1 1 64 true _ A4.out).mono ?_); rintro e w' ⟨rfl, ⟨nd, rfl⟩⟩) | (go_at_call 54; (with_reducible refine (chain_inside.calls a0_2 0 52560000 false _ A6.out).mono ?_); rintro e w' ⟨rfl, ⟨nd, rfl⟩⟩))
        go_ret
        exact ⟨by first | rfl | (simp [errW_none, errW_some] <;> rfl) | (simp [*, errW_none, errW_some] <;> rfl), by repeat (first | (with_reducible first | exact HB.out | apply below_alloc | apply pw_below_drewN | apply below_drew1 | refine below_set ?_ GE101.out) | exact HB.out)⟩
    · replace c5 := Bool.eq_false_iff.mpr c5
      subst c5
      have H1 : (some false) = some r := by rw [if_neg (show ¬ (false = true) by decide)] at H; exact H
      clear H
      have H := H1
      clear H1
      obtain rfl := Option.some.inj H
      go_enter Try.func45, Try.ntmps45
      go_wp2_with (first | ((with_reducible refine gate_dst (N := 1) rfl ?_); refine box_event ?hg (N := 1) ?hd (cs := #[.int .i64 a0_0, .int .i64 a0_1, .int .i64 a0_2, .int .i64 a0_3, .int .u64 a0_4]) (t := 44) ?hr ?_; (case hd => rfl); (case hg => rfl); (case hr => first | (go_simp; done) | (go_simp; rfl)); intro gb101 hg w13 hbox hb; have n0_ := Aside0.mk (below_step (by repeat (first | (with_reducible first | exact HB.out | apply below_alloc | apply pw_below_drewN | apply below_drew1) | exact HB.out)) hb); have n1_ := Aside0.mk (hbox); have n2_ := Aside0.mk ((by rw [hg]; exact (below_size (by repeat (first | (with_reducible first | exact HB.out | apply below_alloc | apply pw_below_drewN | apply below_drew1) | exact HB.out))) : w.heap.size ≤ gb101)); have n3_ := Aside0.mk ((by rw [hg]; exact (below_size (by repeat (first | (with_reducible first | exact HB.out | apply below_alloc | apply pw_below_drewN | apply below_drew1) | exact HB.out))) : w.heap.size ≤ gb101)); clear HB; have HB := n0_; have BK101 := n1_; have GW101 := n2_; have GE101 := n3_; clear n0_ n1_ n2_ n3_; clear hb hbox hg; have hcz14_0 : w13.cell? ⟨gb101, 0, none⟩ = some (.int .i64 a0_0) := (blk_cell BK101.out 0).trans rfl; have hcz14_1 : w13.cell? ⟨gb101, 1, none⟩ = some (.int .i64 a0_1) := (blk_cell BK101.out 1).trans rfl; have hcz14_2 : w13.cell? ⟨gb101, 2, none⟩ = some (.int .i64 a0_2) := (blk_cell BK101.out 2).trans rfl; have hcz14_3 : w13.cell? ⟨gb101, 3, none⟩ = some (.int .i64 a0_3) := (blk_cell BK101.out 3).trans rfl; have hcz14_4 : w13.cell? ⟨gb101, 4, none⟩ = some (.int .u64 a0_4) := (blk_cell BK101.out 4).trans rfl; have hfz14_0 := blk_frozen BK101.out 0; have hfz14_1 := blk_frozen BK101.out 1; have hfz14_2 := blk_frozen BK101.out 2; have hfz14_3 := blk_frozen BK101.out 3; have hfz14_4 := blk_frozen BK101.out 4) | ((with_reducible refine gate_callee (f := 54) rfl ?_); refine goesL_ (some 5) rfl rfl Try.func54 (by kernel_rfl) rfl #[.int .i64 a0_0, .int .i64 1, .int .i64 1000000] rfl (by (try simp only [List.map_toArray, List.map_cons, List.map_nil]); first | done | rfl | (simp only [List.length_drop, List.length_take]; rfl)) ?_; (with_reducible refine (chain_inside.calls a0_0 1 1000000 true _ A2.out).mono ?_); rintro e w' ⟨rfl, ⟨nd, rfl⟩⟩; refine ⟨_, rfl, ?_⟩) | (go_at_call 54; (with_reducible refine (chain_inside.calls a0_1 1 64 false _ A4.out).mono ?_); rintro e w' ⟨rfl, ⟨nd, rfl⟩⟩))
      go_ret
      exact ⟨by first | rfl | (simp [errW_none, errW_some] <;> rfl) | (simp [*, errW_none, errW_some] <;> rfl), by repeat (first | (with_reducible first | exact HB.out | apply below_alloc | apply pw_below_drewN | apply below_drew1 | refine below_set ?_ GE101.out) | exact HB.out)⟩
  · replace c3 := Bool.eq_false_iff.mpr c3
    subst c3
    have H1 : (some false) = some r := by rw [if_neg (show ¬ (false = true) by decide)] at H; exact H
    clear H
    have H := H1
    clear H1
    obtain rfl := Option.some.inj H
    go_enter Try.func45, Try.ntmps45
    go_wp2_with (first | ((with_reducible refine gate_dst (N := 1) rfl ?_); refine box_event ?hg (N := 1) ?hd (cs := #[.int .i64 a0_0, .int .i64 a0_1, .int .i64 a0_2, .int .i64 a0_3, .int .u64 a0_4]) (t := 44) ?hr ?_; (case hd => rfl); (case hg => rfl); (case hr => first | (go_simp; done) | (go_simp; rfl)); intro gb101 hg w15 hbox hb; have n0_ := Aside0.mk (below_step (by repeat (first | (with_reducible first | exact HB.out | apply below_alloc | apply pw_below_drewN | apply below_drew1) | exact HB.out)) hb); have n1_ := Aside0.mk (hbox); have n2_ := Aside0.mk ((by rw [hg]; exact (below_size (by repeat (first | (with_reducible first | exact HB.out | apply below_alloc | apply pw_below_drewN | apply below_drew1) | exact HB.out))) : w.heap.size ≤ gb101)); have n3_ := Aside0.mk ((by rw [hg]; exact (below_size (by repeat (first | (with_reducible first | exact HB.out | apply below_alloc | apply pw_below_drewN | apply below_drew1) | exact HB.out))) : w.heap.size ≤ gb101)); clear HB; have HB := n0_; have BK101 := n1_; have GW101 := n2_; have GE101 := n3_; clear n0_ n1_ n2_ n3_; clear hb hbox hg; have hcz16_0 : w15.cell? ⟨gb101, 0, none⟩ = some (.int .i64 a0_0) := (blk_cell BK101.out 0).trans rfl; have hcz16_1 : w15.cell? ⟨gb101, 1, none⟩ = some (.int .i64 a0_1) := (blk_cell BK101.out 1).trans rfl; have hcz16_2 : w15.cell? ⟨gb101, 2, none⟩ = some (.int .i64 a0_2) := (blk_cell BK101.out 2).trans rfl; have hcz16_3 : w15.cell? ⟨gb101, 3, none⟩ = some (.int .i64 a0_3) := (blk_cell BK101.out 3).trans rfl; have hcz16_4 : w15.cell? ⟨gb101, 4, none⟩ = some (.int .u64 a0_4) := (blk_cell BK101.out 4).trans rfl; have hfz16_0 := blk_frozen BK101.out 0; have hfz16_1 := blk_frozen BK101.out 1; have hfz16_2 := blk_frozen BK101.out 2; have hfz16_3 := blk_frozen BK101.out 3; have hfz16_4 := blk_frozen BK101.out 4) | ((with_reducible refine gate_callee (f := 54) rfl ?_); refine goesL_ (some 5) rfl rfl Try.func54 (by kernel_rfl) rfl #[.int .i64 a0_0, .int .i64 1, .int .i64 1000000] rfl (by (try simp only [List.map_toArray, List.map_cons, List.map_nil]); first | done | rfl | (simp only [List.length_drop, List.length_take]; rfl)) ?_; (with_reducible refine (chain_inside.calls a0_0 1 1000000 false _ A2.out).mono ?_); rintro e w' ⟨rfl, ⟨nd, rfl⟩⟩; refine ⟨_, rfl, ?_⟩))
    go_ret
    exact ⟨by first | rfl | (simp [errW_none, errW_some] <;> rfl) | (simp [*, errW_none, errW_some] <;> rfl), by repeat (first | (with_reducible first | exact HB.out | apply below_alloc | apply pw_below_drewN | apply below_drew1 | refine below_set ?_ GE101.out) | exact HB.out)⟩

/-! ### record_between: function 51 -/
def record_between.f (a0 : Int) (a1 : Int) (a2 : Int) : Option (Bool) := if a1 ≤ a0 then (some (decide (a0 ≤ a2))) else (some false)
set_option maxHeartbeats 8000000 in
set_option maxRecDepth 100000 in
theorem record_between.calls (a0 : Int) (a1 : Int) (a2 : Int) (r : Bool) (w : World) (h : record_between.f a0 a1 a2 = some r) :
    Calls Try.prog 51 #[.int .i64 a0, .int .i64 a1, .int .i64 a2] w fun e w' => e = .returned (.bool r) ∧ Drawn0 w w' := by
  have H : (if a1 ≤ a0 then (some (decide (a0 ≤ a2))) else (some false)) = some r := h
  clear h
  by_cases c4 : a1 ≤ a0
  · rw [if_pos c4] at H
    have c4b0 : decide (a1 ≤ a0) = true := decide_eq_true c4
    clear c4
    obtain rfl := Option.some.inj H
    go_enter Try.func51, Try.ntmps51
    go_wp2
    go_ret
    exact ⟨by first | rfl | (simp; done) | (simp [*]; done), by repeat (first | exact Drawn0.refl _ | apply Drawn0.step)⟩
  · rw [if_neg c4] at H
    have c4b0 : decide (a1 ≤ a0) = false := decide_eq_false c4
    clear c4
    obtain rfl := Option.some.inj H
    go_enter Try.func51, Try.ntmps51
    go_wp2
    go_ret
    exact ⟨by first | rfl | (simp; done) | (simp [*]; done), by repeat (first | exact Drawn0.refl _ | apply Drawn0.step)⟩

/-! ### record_isRecord: function 38 -/
def record_isRecord.f (a0_0 : Int) (a0_1 : Int) (a0_2 : Int) (a0_3 : Int) (a0_4 : Int) (a0_5 : Int) (a0_6 : Int) (a0_7 : Int) (a0_8 : Int) (a0_9 : Int) (a0_10 : Int) (a0_11 : Int) (a0_12 : Int) : Option (Bool) := (record_between.f a0_0 1 1000000).bind fun t107 => (if t107 = true then ((record_between.f a0_1 0 15).bind fun t108 => (if t108 = true then ((record_between.f a0_2 1 1000000).bind fun t109 => (if t109 = true then ((record_between.f a0_3 0 7).bind fun t110 => (if t110 = true then ((record_between.f a0_4 0 7).bind fun t111 => (if t111 = true then ((record_between.f a0_5 1 a0_6).bind fun t112 => (if t112 = true then (if a0_6 ≤ 64 then ((record_between.f a0_7 0 64000000000).bind fun t113 => (if t113 = true then ((record_between.f a0_8 0 1000000000).bind fun t114 => (some t114)) else (some false))) else (some false)) else (some false))) else (some false))) else (some false))) else (some false))) else (some false))) else (some false))
set_option maxHeartbeats 8000000 in
set_option maxRecDepth 100000 in
theorem record_isRecord.calls (a0_0 : Int) (a0_1 : Int) (a0_2 : Int) (a0_3 : Int) (a0_4 : Int) (a0_5 : Int) (a0_6 : Int) (a0_7 : Int) (a0_8 : Int) (a0_9 : Int) (a0_10 : Int) (a0_11 : Int) (a0_12 : Int) (r : Bool) (w : World) (h : record_isRecord.f a0_0 a0_1 a0_2 a0_3 a0_4 a0_5 a0_6 a0_7 a0_8 a0_9 a0_10 a0_11 a0_12 = some r) :
    Calls Try.prog 38 #[.agg #[.int .i64 a0_0, .int .i64 a0_1, .int .i64 a0_2, .int .i64 a0_3, .int .i64 a0_4, .int .i64 a0_5, .int .i64 a0_6, .int .i64 a0_7, .int .i64 a0_8, .int .u64 a0_9, .int .u64 a0_10, .int .u64 a0_11, .int .u64 a0_12]] w fun e w' => e = .returned (.bool r) ∧ Below w.heap.size w w' := by
  have hu25 := Try.underlying25
  have HB := Aside0.mk (Below.refl w.heap.size w)
  have H : ((record_between.f a0_0 1 1000000).bind fun t107 => (if t107 = true then ((record_between.f a0_1 0 15).bind fun t108 => (if t108 = true then ((record_between.f a0_2 1 1000000).bind fun t109 => (if t109 = true then ((record_between.f a0_3 0 7).bind fun t110 => (if t110 = true then ((record_between.f a0_4 0 7).bind fun t111 => (if t111 = true then ((record_between.f a0_5 1 a0_6).bind fun t112 => (if t112 = true then (if a0_6 ≤ 64 then ((record_between.f a0_7 0 64000000000).bind fun t113 => (if t113 = true then ((record_between.f a0_8 0 1000000000).bind fun t114 => (some t114)) else (some false))) else (some false)) else (some false))) else (some false))) else (some false))) else (some false))) else (some false))) else (some false))) = some r := h
  clear h
  replace H := Option.bind_eq_some_iff.mp H
  obtain ⟨t107, A20, H⟩ := H
  replace H : (if t107 = true then ((record_between.f a0_1 0 15).bind fun t108 => (if t108 = true then ((record_between.f a0_2 1 1000000).bind fun t109 => (if t109 = true then ((record_between.f a0_3 0 7).bind fun t110 => (if t110 = true then ((record_between.f a0_4 0 7).bind fun t111 => (if t111 = true then ((record_between.f a0_5 1 a0_6).bind fun t112 => (if t112 = true then (if a0_6 ≤ 64 then ((record_between.f a0_7 0 64000000000).bind fun t113 => (if t113 = true then ((record_between.f a0_8 0 1000000000).bind fun t114 => (some t114)) else (some false))) else (some false)) else (some false))) else (some false))) else (some false))) else (some false))) else (some false))) else (some false)) = some r := H
  have A2 := Aside0.mk A20
  clear A20
  by_cases c3 : t107 = true
  · subst c3
    have H1 : ((record_between.f a0_1 0 15).bind fun t108 => (if t108 = true then ((record_between.f a0_2 1 1000000).bind fun t109 => (if t109 = true then ((record_between.f a0_3 0 7).bind fun t110 => (if t110 = true then ((record_between.f a0_4 0 7).bind fun t111 => (if t111 = true then ((record_between.f a0_5 1 a0_6).bind fun t112 => (if t112 = true then (if a0_6 ≤ 64 then ((record_between.f a0_7 0 64000000000).bind fun t113 => (if t113 = true then ((record_between.f a0_8 0 1000000000).bind fun t114 => (some t114)) else (some false))) else (some false)) else (some false))) else (some false))) else (some false))) else (some false))) else (some false))) = some r := by rw [if_pos rfl] at H; exact H
    clear H
    have H := H1
    clear H1
    replace H := Option.bind_eq_some_iff.mp H
    obtain ⟨t108, A40, H⟩ := H
    replace H : (if t108 = true then ((record_between.f a0_2 1 1000000).bind fun t109 => (if t109 = true then ((record_between.f a0_3 0 7).bind fun t110 => (if t110 = true then ((record_between.f a0_4 0 7).bind fun t111 => (if t111 = true then ((record_between.f a0_5 1 a0_6).bind fun t112 => (if t112 = true then (if a0_6 ≤ 64 then ((record_between.f a0_7 0 64000000000).bind fun t113 => (if t113 = true then ((record_between.f a0_8 0 1000000000).bind fun t114 => (some t114)) else (some false))) else (some false)) else (some false))) else (some false))) else (some false))) else (some false))) else (some false)) = some r := H
    have A4 := Aside0.mk A40
    clear A40
    by_cases c5 : t108 = true
    · subst c5
      have H1 : ((record_between.f a0_2 1 1000000).bind fun t109 => (if t109 = true then ((record_between.f a0_3 0 7).bind fun t110 => (if t110 = true then ((record_between.f a0_4 0 7).bind fun t111 => (if t111 = true then ((record_between.f a0_5 1 a0_6).bind fun t112 => (if t112 = true then (if a0_6 ≤ 64 then ((record_between.f a0_7 0 64000000000).bind fun t113 => (if t113 = true then ((record_between.f a0_8 0 1000000000).bind fun t114 => (some t114)) else (some false))) else (some false)) else (some false))) else (some false))) else (some false))) else (some false))) = some r := by rw [if_pos rfl] at H; exact H
      clear H
      have H := H1
      clear H1
      replace H := Option.bind_eq_some_iff.mp H
      obtain ⟨t109, A60, H⟩ := H
      replace H : (if t109 = true then ((record_between.f a0_3 0 7).bind fun t110 => (if t110 = true then ((record_between.f a0_4 0 7).bind fun t111 => (if t111 = true then ((record_between.f a0_5 1 a0_6).bind fun t112 => (if t112 = true then (if a0_6 ≤ 64 then ((record_between.f a0_7 0 64000000000).bind fun t113 => (if t113 = true then ((record_between.f a0_8 0 1000000000).bind fun t114 => (some t114)) else (some false))) else (some false)) else (some false))) else (some false))) else (some false))) else (some false)) = some r := H
      have A6 := Aside0.mk A60
      clear A60
      by_cases c7 : t109 = true
      · subst c7
        have H1 : ((record_between.f a0_3 0 7).bind fun t110 => (if t110 = true then ((record_between.f a0_4 0 7).bind fun t111 => (if t111 = true then ((record_between.f a0_5 1 a0_6).bind fun t112 => (if t112 = true then (if a0_6 ≤ 64 then ((record_between.f a0_7 0 64000000000).bind fun t113 => (if t113 = true then ((record_between.f a0_8 0 1000000000).bind fun t114 => (some t114)) else (some false))) else (some false)) else (some false))) else (some false))) else (some false))) = some r := by rw [if_pos rfl] at H; exact H
        clear H
        have H := H1
        clear H1
        replace H := Option.bind_eq_some_iff.mp H
        obtain ⟨t110, A80, H⟩ := H
        replace H : (if t110 = true then ((record_between.f a0_4 0 7).bind fun t111 => (if t111 = true then ((record_between.f a0_5 1 a0_6).bind fun t112 => (if t112 = true then (if a0_6 ≤ 64 then ((record_between.f a0_7 0 64000000000).bind fun t113 => (if t113 = true then ((record_between.f a0_8 0 1000000000).bind fun t114 => (some t114)) else (some false))) else (some false)) else (some false))) else (some false))) else (some false)) = some r := H
        have A8 := Aside0.mk A80
        clear A80
        by_cases c9 : t110 = true
        · subst c9
          have H1 : ((record_between.f a0_4 0 7).bind fun t111 => (if t111 = true then ((record_between.f a0_5 1 a0_6).bind fun t112 => (if t112 = true then (if a0_6 ≤ 64 then ((record_between.f a0_7 0 64000000000).bind fun t113 => (if t113 = true then ((record_between.f a0_8 0 1000000000).bind fun t114 => (some t114)) else (some false))) else (some false)) else (some false))) else (some false))) = some r := by rw [if_pos rfl] at H; exact H
          clear H
          have H := H1
          clear H1
          replace H := Option.bind_eq_some_iff.mp H
          obtain ⟨t111, A100, H⟩ := H
          replace H : (if t111 = true then ((record_between.f a0_5 1 a0_6).bind fun t112 => (if t112 = true then (if a0_6 ≤ 64 then ((record_between.f a0_7 0 64000000000).bind fun t113 => (if t113 = true then ((record_between.f a0_8 0 1000000000).bind fun t114 => (some t114)) else (some false))) else (some false)) else (some false))) else (some false)) = some r := H
          have A10 := Aside0.mk A100
          clear A100
          by_cases c11 : t111 = true
          · subst c11
            have H1 : ((record_between.f a0_5 1 a0_6).bind fun t112 => (if t112 = true then (if a0_6 ≤ 64 then ((record_between.f a0_7 0 64000000000).bind fun t113 => (if t113 = true then ((record_between.f a0_8 0 1000000000).bind fun t114 => (some t114)) else (some false))) else (some false)) else (some false))) = some r := by rw [if_pos rfl] at H; exact H
            clear H
            have H := H1
            clear H1
            replace H := Option.bind_eq_some_iff.mp H
            obtain ⟨t112, A120, H⟩ := H
            replace H : (if t112 = true then (if a0_6 ≤ 64 then ((record_between.f a0_7 0 64000000000).bind fun t113 => (if t113 = true then ((record_between.f a0_8 0 1000000000).bind fun t114 => (some t114)) else (some false))) else (some false)) else (some false)) = some r := H
            have A12 := Aside0.mk A120
            clear A120
            by_cases c13 : t112 = true
            · subst c13
              have H1 : (if a0_6 ≤ 64 then ((record_between.f a0_7 0 64000000000).bind fun t113 => (if t113 = true then ((record_between.f a0_8 0 1000000000).bind fun t114 => (some t114)) else (some false))) else (some false)) = some r := by rw [if_pos rfl] at H; exact H
              clear H
              have H := H1
              clear H1
              by_cases c14 : a0_6 ≤ 64
              · rw [if_pos c14] at H
                have c14b0 : decide (a0_6 ≤ 64) = true := decide_eq_true c14
                clear c14
                replace H := Option.bind_eq_some_iff.mp H
                obtain ⟨t113, A150, H⟩ := H
                replace H : (if t113 = true then ((record_between.f a0_8 0 1000000000).bind fun t114 => (some t114)) else (some false)) = some r := H
                have A15 := Aside0.mk A150
                clear A150
                by_cases c16 : t113 = true
                · subst c16
                  have H1 : ((record_between.f a0_8 0 1000000000).bind fun t114 => (some t114)) = some r := by rw [if_pos rfl] at H; exact H
                  clear H
                  have H := H1
                  clear H1
                  replace H := Option.bind_eq_some_iff.mp H
                  obtain ⟨t114, A170, H⟩ := H
                  replace H : (some t114) = some r := H
                  have A17 := Aside0.mk A170
                  clear A170
                  obtain rfl := Option.some.inj H
                  go_enter Try.func38, Try.ntmps38
                  go_wp2_with (first | ((with_reducible refine gate_dst (N := 1) rfl ?_); refine box_event ?hg (N := 1) ?hd (cs := #[.int .i64 a0_0, .int .i64 a0_1, .int .i64 a0_2, .int .i64 a0_3, .int .i64 a0_4, .int .i64 a0_5, .int .i64 a0_6, .int .i64 a0_7, .int .i64 a0_8, .int .u64 a0_9, .int .u64 a0_10, .int .u64 a0_11, .int .u64 a0_12]) (t := 25) ?hr ?_; (case hd => rfl); (case hg => rfl); (case hr => first | (go_simp; done) | (go_simp; rfl)); intro gb106 hg w18 hbox hb; have n0_ := Aside0.mk (below_step (by repeat (first | (with_reducible first | exact HB.out | apply below_alloc | apply pw_below_drewN | apply below_drew1) | exact HB.out)) hb); have n1_ := Aside0.mk (hbox); have n2_ := Aside0.mk ((by rw [hg]; exact (below_size (by repeat (first | (with_reducible first | exact HB.out | apply below_alloc | apply pw_below_drewN | apply below_drew1) | exact HB.out))) : w.heap.size ≤ gb106)); have n3_ := Aside0.mk ((by rw [hg]; exact (below_size (by repeat (first | (with_reducible first | exact HB.out | apply below_alloc | apply pw_below_drewN | apply below_drew1) | exact HB.out))) : w.heap.size ≤ gb106)); clear HB; have HB := n0_; have BK106 := n1_; have GW106 := n2_; have GE106 := n3_; clear n0_ n1_ n2_ n3_; clear hb hbox hg; have hcz19_0 : w18.cell? ⟨gb106, 0, none⟩ = some (.int .i64 a0_0) := (blk_cell BK106.out 0).trans rfl; have hcz19_1 : w18.cell? ⟨gb106, 1, none⟩ = some (.int .i64 a0_1) := (blk_cell BK106.out 1).trans rfl; have hcz19_2 : w18.cell? ⟨gb106, 2, none⟩ = some (.int .i64 a0_2) := (blk_cell BK106.out 2).trans rfl; have hcz19_3 : w18.cell? ⟨gb106, 3, none⟩ = some (.int .i64 a0_3) := (blk_cell BK106.out 3).trans rfl; have hcz19_4 : w18.cell? ⟨gb106, 4, none⟩ = some (.int .i64 a0_4) := (blk_cell BK106.out 4).trans rfl; have hcz19_5 : w18.cell? ⟨gb106, 5, none⟩ = some (.int .i64 a0_5) := (blk_cell BK106.out 5).trans rfl; have hcz19_6 : w18.cell? ⟨gb106, 6, none⟩ = some (.int .i64 a0_6) := (blk_cell BK106.out 6).trans rfl; have hcz19_7 : w18.cell? ⟨gb106, 7, none⟩ = some (.int .i64 a0_7) := (blk_cell BK106.out 7).trans rfl; have hcz19_8 : w18.cell? ⟨gb106, 8, none⟩ = some (.int .i64 a0_8) := (blk_cell BK106.out 8).trans rfl; have hcz19_9 : w18.cell? ⟨gb106, 9, none⟩ = some (.int .u64 a0_9) := (blk_cell BK106.out 9).trans rfl; have hcz19_10 : w18.cell? ⟨gb106, 10, none⟩ = some (.int .u64 a0_10) := (blk_cell BK106.out 10).trans rfl; have hcz19_11 : w18.cell? ⟨gb106, 11, none⟩ = some (.int .u64 a0_11) := (blk_cell BK106.out 11).trans rfl; have hcz19_12 : w18.cell? ⟨gb106, 12, none⟩ = some (.int .u64 a0_12) := (blk_cell BK106.out 12).trans rfl; have hfz19_0 := blk_frozen BK106.out 0; have hfz19_1 := blk_frozen BK106.out 1; have hfz19_2 := blk_frozen BK106.out 2; have hfz19_3 := blk_frozen BK106.out 3; have hfz19_4 := blk_frozen BK106.out 4; have hfz19_5 := blk_frozen BK106.out 5; have hfz19_6 := blk_frozen BK106.out 6; have hfz19_7 := blk_frozen BK106.out 7; have hfz19_8 := blk_frozen BK106.out 8; have hfz19_9 := blk_frozen BK106.out 9; have hfz19_10 := blk_frozen BK106.out 10; have hfz19_11 := blk_frozen BK106.out 11; have hfz19_12 := blk_frozen BK106.out 12) | ((with_reducible refine gate_callee (f := 51) rfl ?_); refine goesL_ (some 5) rfl rfl Try.func51 (by kernel_rfl) rfl #[.int .i64 a0_0, .int .i64 1, .int .i64 1000000] rfl (by (try simp only [List.map_toArray, List.map_cons, List.map_nil]); first | done | rfl | (simp only [List.length_drop, List.length_take]; rfl)) ?_; (with_reducible refine (record_between.calls a0_0 1 1000000 true _ A2.out).mono ?_); rintro e w' ⟨rfl, ⟨nd, rfl⟩⟩; refine ⟨_, rfl, ?_⟩) | (go_at_call 51; (with_reducible refine (record_between.calls a0_1 0 15 true _ A4.out).mono ?_); rintro e w' ⟨rfl, ⟨nd, rfl⟩⟩) | (go_at_call 51; (with_reducible refine (record_between.calls a0_2 1 1000000 true _ A6.out).mono ?_); rintro e w' ⟨rfl, ⟨nd, rfl⟩⟩) | (go_at_call 51; (with_reducible refine (record_between.calls a0_3 0 7 true _ A8.out).mono ?_); rintro e w' ⟨rfl, ⟨nd, rfl⟩⟩) | (go_at_call 51; (with_reducible refine (record_between.calls a0_4 0 7 true _ A10.out).mono ?_); rintro e w' ⟨rfl, ⟨nd, rfl⟩⟩) | (go_at_call 51; (with_reducible refine (record_between.calls a0_5 1 a0_6 true _ A12.out).mono ?_); rintro e w' ⟨rfl, ⟨nd, rfl⟩⟩) | (go_at_call 51; (with_reducible refine (record_between.calls a0_7 0 64000000000 true _ A15.out).mono ?_); rintro e w' ⟨rfl, ⟨nd, rfl⟩⟩) | (go_at_call 51; (with_reducible refine (record_between.calls a0_8 0 1000000000 t114 _ A17.out).mono ?_); rintro e w' ⟨rfl, ⟨nd, rfl⟩⟩))
                  go_ret
                  exact ⟨by first | rfl | (simp [errW_none, errW_some] <;> rfl) | (simp [*, errW_none, errW_some] <;> rfl), by repeat (first | (with_reducible first | exact HB.out | apply below_alloc | apply pw_below_drewN | apply below_drew1 | refine below_set ?_ GE106.out) | exact HB.out)⟩
                · replace c16 := Bool.eq_false_iff.mpr c16
                  subst c16
                  have H1 : (some false) = some r := by rw [if_neg (show ¬ (false = true) by decide)] at H; exact H
                  clear H
                  have H := H1
                  clear H1
                  obtain rfl := Option.some.inj H
                  go_enter Try.func38, Try.ntmps38
                  go_wp2_with (first | ((with_reducible refine gate_dst (N := 1) rfl ?_); refine box_event ?hg (N := 1) ?hd (cs := #[.int .i64 a0_0, .int .i64 a0_1, .int .i64 a0_2, .int .i64 a0_3, .int .i64 a0_4, .int .i64 a0_5, .int .i64 a0_6, .int .i64 a0_7, .int .i64 a0_8, .int .u64 a0_9, .int .u64 a0_10, .int .u64 a0_11, .int .u64 a0_12]) (t := 25) ?hr ?_; (case hd => rfl); (case hg => rfl); (case hr => first | (go_simp; done) | (go_simp; rfl)); intro gb106 hg w20 hbox hb; have n0_ := Aside0.mk (below_step (by repeat (first | (with_reducible first | exact HB.out | apply below_alloc | apply pw_below_drewN | apply below_drew1) | exact HB.out)) hb); have n1_ := Aside0.mk (hbox); have n2_ := Aside0.mk ((by rw [hg]; exact (below_size (by repeat (first | (with_reducible first | exact HB.out | apply below_alloc | apply pw_below_drewN | apply below_drew1) | exact HB.out))) : w.heap.size ≤ gb106)); have n3_ := Aside0.mk ((by rw [hg]; exact (below_size (by repeat (first | (with_reducible first | exact HB.out | apply below_alloc | apply pw_below_drewN | apply below_drew1) | exact HB.out))) : w.heap.size ≤ gb106)); clear HB; have HB := n0_; have BK106 := n1_; have GW106 := n2_; have GE106 := n3_; clear n0_ n1_ n2_ n3_; clear hb hbox hg; have hcz21_0 : w20.cell? ⟨gb106, 0, none⟩ = some (.int .i64 a0_0) := (blk_cell BK106.out 0).trans rfl; have hcz21_1 : w20.cell? ⟨gb106, 1, none⟩ = some (.int .i64 a0_1) := (blk_cell BK106.out 1).trans rfl; have hcz21_2 : w20.cell? ⟨gb106, 2, none⟩ = some (.int .i64 a0_2) := (blk_cell BK106.out 2).trans rfl; have hcz21_3 : w20.cell? ⟨gb106, 3, none⟩ = some (.int .i64 a0_3) := (blk_cell BK106.out 3).trans rfl; have hcz21_4 : w20.cell? ⟨gb106, 4, none⟩ = some (.int .i64 a0_4) := (blk_cell BK106.out 4).trans rfl; have hcz21_5 : w20.cell? ⟨gb106, 5, none⟩ = some (.int .i64 a0_5) := (blk_cell BK106.out 5).trans rfl; have hcz21_6 : w20.cell? ⟨gb106, 6, none⟩ = some (.int .i64 a0_6) := (blk_cell BK106.out 6).trans rfl; have hcz21_7 : w20.cell? ⟨gb106, 7, none⟩ = some (.int .i64 a0_7) := (blk_cell BK106.out 7).trans rfl; have hcz21_8 : w20.cell? ⟨gb106, 8, none⟩ = some (.int .i64 a0_8) := (blk_cell BK106.out 8).trans rfl; have hcz21_9 : w20.cell? ⟨gb106, 9, none⟩ = some (.int .u64 a0_9) := (blk_cell BK106.out 9).trans rfl; have hcz21_10 : w20.cell? ⟨gb106, 10, none⟩ = some (.int .u64 a0_10) := (blk_cell BK106.out 10).trans rfl; have hcz21_11 : w20.cell? ⟨gb106, 11, none⟩ = some (.int .u64 a0_11) := (blk_cell BK106.out 11).trans rfl; have hcz21_12 : w20.cell? ⟨gb106, 12, none⟩ = some (.int .u64 a0_12) := (blk_cell BK106.out 12).trans rfl; have hfz21_0 := blk_frozen BK106.out 0; have hfz21_1 := blk_frozen BK106.out 1; have hfz21_2 := blk_frozen BK106.out 2; have hfz21_3 := blk_frozen BK106.out 3; have hfz21_4 := blk_frozen BK106.out 4; have hfz21_5 := blk_frozen BK106.out 5; have hfz21_6 := blk_frozen BK106.out 6; have hfz21_7 := blk_frozen BK106.out 7; have hfz21_8 := blk_frozen BK106.out 8; have hfz21_9 := blk_frozen BK106.out 9; have hfz21_10 := blk_frozen BK106.out 10; have hfz21_11 := blk_frozen BK106.out 11; have hfz21_12 := blk_frozen BK106.out 12) | ((with_reducible refine gate_callee (f := 51) rfl ?_); refine goesL_ (some 5) rfl rfl Try.func51 (by kernel_rfl) rfl #[.int .i64 a0_0, .int .i64 1, .int .i64 1000000] rfl (by (try simp only [List.map_toArray, List.map_cons, List.map_nil]); first | done | rfl | (simp only [List.length_drop, List.length_take]; rfl)) ?_; (with_reducible refine (record_between.calls a0_0 1 1000000 true _ A2.out).mono ?_); rintro e w' ⟨rfl, ⟨nd, rfl⟩⟩; refine ⟨_, rfl, ?_⟩) | (go_at_call 51; (with_reducible refine (record_between.calls a0_1 0 15 true _ A4.out).mono ?_); rintro e w' ⟨rfl, ⟨nd, rfl⟩⟩) | (go_at_call 51; (with_reducible refine (record_between.calls a0_2 1 1000000 true _ A6.out).mono ?_); rintro e w' ⟨rfl, ⟨nd, rfl⟩⟩) | (go_at_call 51; (with_reducible refine (record_between.calls a0_3 0 7 true _ A8.out).mono ?_); rintro e w' ⟨rfl, ⟨nd, rfl⟩⟩) | (go_at_call 51; (with_reducible refine (record_between.calls a0_4 0 7 true _ A10.out).mono ?_); rintro e w' ⟨rfl, ⟨nd, rfl⟩⟩) | (go_at_call 51; (with_reducible refine (record_between.calls a0_5 1 a0_6 true _ A12.out).mono ?_); rintro e w' ⟨rfl, ⟨nd, rfl⟩⟩) | (go_at_call 51; (with_reducible refine (record_between.calls a0_7 0 64000000000 false _ A15.out).mono ?_); rintro e w' ⟨rfl, ⟨nd, rfl⟩⟩))
                  go_ret
                  exact ⟨by first | rfl | (simp [errW_none, errW_some] <;> rfl) | (simp [*, errW_none, errW_some] <;> rfl), by repeat (first | (with_reducible first | exact HB.out | apply below_alloc | apply pw_below_drewN | apply below_drew1 | refine below_set ?_ GE106.out) | exact HB.out)⟩
              · rw [if_neg c14] at H
                have c14b0 : decide (a0_6 ≤ 64) = false := decide_eq_false c14
                clear c14
                obtain rfl := Option.some.inj H
                go_enter Try.func38, Try.ntmps38
                go_wp2_with (first | ((with_reducible refine gate_dst (N := 1) rfl ?_); refine box_event ?hg (N := 1) ?hd (cs := #[.int .i64 a0_0, .int .i64 a0_1, .int .i64 a0_2, .int .i64 a0_3, .int .i64 a0_4, .int .i64 a0_5, .int .i64 a0_6, .int .i64 a0_7, .int .i64 a0_8, .int .u64 a0_9, .int .u64 a0_10, .int .u64 a0_11, .int .u64 a0_12]) (t := 25) ?hr ?_; (case hd => rfl); (case hg => rfl); (case hr => first | (go_simp; done) | (go_simp; rfl)); intro gb106 hg w22 hbox hb; have n0_ := Aside0.mk (below_step (by repeat (first | (with_reducible first | exact HB.out | apply below_alloc | apply pw_below_drewN | apply below_drew1) | exact HB.out)) hb); have n1_ := Aside0.mk (hbox); have n2_ := Aside0.mk ((by rw [hg]; exact (below_size (by repeat (first | (with_reducible first | exact HB.out | apply below_alloc | apply pw_below_drewN | apply below_drew1) | exact HB.out))) : w.heap.size ≤ gb106)); have n3_ := Aside0.mk ((by rw [hg]; exact (below_size (by repeat (first | (with_reducible first | exact HB.out | apply below_alloc | apply pw_below_drewN | apply below_drew1) | exact HB.out))) : w.heap.size ≤ gb106)); clear HB; have HB := n0_; have BK106 := n1_; have GW106 := n2_; have GE106 := n3_; clear n0_ n1_ n2_ n3_; clear hb hbox hg; have hcz23_0 : w22.cell? ⟨gb106, 0, none⟩ = some (.int .i64 a0_0) := (blk_cell BK106.out 0).trans rfl; have hcz23_1 : w22.cell? ⟨gb106, 1, none⟩ = some (.int .i64 a0_1) := (blk_cell BK106.out 1).trans rfl; have hcz23_2 : w22.cell? ⟨gb106, 2, none⟩ = some (.int .i64 a0_2) := (blk_cell BK106.out 2).trans rfl; have hcz23_3 : w22.cell? ⟨gb106, 3, none⟩ = some (.int .i64 a0_3) := (blk_cell BK106.out 3).trans rfl; have hcz23_4 : w22.cell? ⟨gb106, 4, none⟩ = some (.int .i64 a0_4) := (blk_cell BK106.out 4).trans rfl; have hcz23_5 : w22.cell? ⟨gb106, 5, none⟩ = some (.int .i64 a0_5) := (blk_cell BK106.out 5).trans rfl; have hcz23_6 : w22.cell? ⟨gb106, 6, none⟩ = some (.int .i64 a0_6) := (blk_cell BK106.out 6).trans rfl; have hcz23_7 : w22.cell? ⟨gb106, 7, none⟩ = some (.int .i64 a0_7) := (blk_cell BK106.out 7).trans rfl; have hcz23_8 : w22.cell? ⟨gb106, 8, none⟩ = some (.int .i64 a0_8) := (blk_cell BK106.out 8).trans rfl; have hcz23_9 : w22.cell? ⟨gb106, 9, none⟩ = some (.int .u64 a0_9) := (blk_cell BK106.out 9).trans rfl; have hcz23_10 : w22.cell? ⟨gb106, 10, none⟩ = some (.int .u64 a0_10) := (blk_cell BK106.out 10).trans rfl; have hcz23_11 : w22.cell? ⟨gb106, 11, none⟩ = some (.int .u64 a0_11) := (blk_cell BK106.out 11).trans rfl; have hcz23_12 : w22.cell? ⟨gb106, 12, none⟩ = some (.int .u64 a0_12) := (blk_cell BK106.out 12).trans rfl; have hfz23_0 := blk_frozen BK106.out 0; have hfz23_1 := blk_frozen BK106.out 1; have hfz23_2 := blk_frozen BK106.out 2; have hfz23_3 := blk_frozen BK106.out 3; have hfz23_4 := blk_frozen BK106.out 4; have hfz23_5 := blk_frozen BK106.out 5; have hfz23_6 := blk_frozen BK106.out 6; have hfz23_7 := blk_frozen BK106.out 7; have hfz23_8 := blk_frozen BK106.out 8; have hfz23_9 := blk_frozen BK106.out 9; have hfz23_10 := blk_frozen BK106.out 10; have hfz23_11 := blk_frozen BK106.out 11; have hfz23_12 := blk_frozen BK106.out 12) | ((with_reducible refine gate_callee (f := 51) rfl ?_); refine goesL_ (some 5) rfl rfl Try.func51 (by kernel_rfl) rfl #[.int .i64 a0_0, .int .i64 1, .int .i64 1000000] rfl (by (try simp only [List.map_toArray, List.map_cons, List.map_nil]); first | done | rfl | (simp only [List.length_drop, List.length_take]; rfl)) ?_; (with_reducible refine (record_between.calls a0_0 1 1000000 true _ A2.out).mono ?_); rintro e w' ⟨rfl, ⟨nd, rfl⟩⟩; refine ⟨_, rfl, ?_⟩) | (go_at_call 51; (with_reducible refine (record_between.calls a0_1 0 15 true _ A4.out).mono ?_); rintro e w' ⟨rfl, ⟨nd, rfl⟩⟩) | (go_at_call 51; (with_reducible refine (record_between.calls a0_2 1 1000000 true _ A6.out).mono ?_); rintro e w' ⟨rfl, ⟨nd, rfl⟩⟩) | (go_at_call 51; (with_reducible refine (record_between.calls a0_3 0 7 true _ A8.out).mono ?_); rintro e w' ⟨rfl, ⟨nd, rfl⟩⟩) | (go_at_call 51; (with_reducible refine (record_between.calls a0_4 0 7 true _ A10.out).mono ?_); rintro e w' ⟨rfl, ⟨nd, rfl⟩⟩) | (go_at_call 51; (with_reducible refine (record_between.calls a0_5 1 a0_6 true _ A12.out).mono ?_); rintro e w' ⟨rfl, ⟨nd, rfl⟩⟩))
                go_ret
                exact ⟨by first | rfl | (simp [errW_none, errW_some] <;> rfl) | (simp [*, errW_none, errW_some] <;> rfl), by repeat (first | (with_reducible first | exact HB.out | apply below_alloc | apply pw_below_drewN | apply below_drew1 | refine below_set ?_ GE106.out) | exact HB.out)⟩
            · replace c13 := Bool.eq_false_iff.mpr c13
              subst c13
              have H1 : (some false) = some r := by rw [if_neg (show ¬ (false = true) by decide)] at H; exact H
              clear H
              have H := H1
              clear H1
              obtain rfl := Option.some.inj H
              go_enter Try.func38, Try.ntmps38
              go_wp2_with (first | ((with_reducible refine gate_dst (N := 1) rfl ?_); refine box_event ?hg (N := 1) ?hd (cs := #[.int .i64 a0_0, .int .i64 a0_1, .int .i64 a0_2, .int .i64 a0_3, .int .i64 a0_4, .int .i64 a0_5, .int .i64 a0_6, .int .i64 a0_7, .int .i64 a0_8, .int .u64 a0_9, .int .u64 a0_10, .int .u64 a0_11, .int .u64 a0_12]) (t := 25) ?hr ?_; (case hd => rfl); (case hg => rfl); (case hr => first | (go_simp; done) | (go_simp; rfl)); intro gb106 hg w24 hbox hb; have n0_ := Aside0.mk (below_step (by repeat (first | (with_reducible first | exact HB.out | apply below_alloc | apply pw_below_drewN | apply below_drew1) | exact HB.out)) hb); have n1_ := Aside0.mk (hbox); have n2_ := Aside0.mk ((by rw [hg]; exact (below_size (by repeat (first | (with_reducible first | exact HB.out | apply below_alloc | apply pw_below_drewN | apply below_drew1) | exact HB.out))) : w.heap.size ≤ gb106)); have n3_ := Aside0.mk ((by rw [hg]; exact (below_size (by repeat (first | (with_reducible first | exact HB.out | apply below_alloc | apply pw_below_drewN | apply below_drew1) | exact HB.out))) : w.heap.size ≤ gb106)); clear HB; have HB := n0_; have BK106 := n1_; have GW106 := n2_; have GE106 := n3_; clear n0_ n1_ n2_ n3_; clear hb hbox hg; have hcz25_0 : w24.cell? ⟨gb106, 0, none⟩ = some (.int .i64 a0_0) := (blk_cell BK106.out 0).trans rfl; have hcz25_1 : w24.cell? ⟨gb106, 1, none⟩ = some (.int .i64 a0_1) := (blk_cell BK106.out 1).trans rfl; have hcz25_2 : w24.cell? ⟨gb106, 2, none⟩ = some (.int .i64 a0_2) := (blk_cell BK106.out 2).trans rfl; have hcz25_3 : w24.cell? ⟨gb106, 3, none⟩ = some (.int .i64 a0_3) := (blk_cell BK106.out 3).trans rfl; have hcz25_4 : w24.cell? ⟨gb106, 4, none⟩ = some (.int .i64 a0_4) := (blk_cell BK106.out 4).trans rfl; have hcz25_5 : w24.cell? ⟨gb106, 5, none⟩ = some (.int .i64 a0_5) := (blk_cell BK106.out 5).trans rfl; have hcz25_6 : w24.cell? ⟨gb106, 6, none⟩ = some (.int .i64 a0_6) := (blk_cell BK106.out 6).trans rfl; have hcz25_7 : w24.cell? ⟨gb106, 7, none⟩ = some (.int .i64 a0_7) := (blk_cell BK106.out 7).trans rfl; have hcz25_8 : w24.cell? ⟨gb106, 8, none⟩ = some (.int .i64 a0_8) := (blk_cell BK106.out 8).trans rfl; have hcz25_9 : w24.cell? ⟨gb106, 9, none⟩ = some (.int .u64 a0_9) := (blk_cell BK106.out 9).trans rfl; have hcz25_10 : w24.cell? ⟨gb106, 10, none⟩ = some (.int .u64 a0_10) := (blk_cell BK106.out 10).trans rfl; have hcz25_11 : w24.cell? ⟨gb106, 11, none⟩ = some (.int .u64 a0_11) := (blk_cell BK106.out 11).trans rfl; have hcz25_12 : w24.cell? ⟨gb106, 12, none⟩ = some (.int .u64 a0_12) := (blk_cell BK106.out 12).trans rfl; have hfz25_0 := blk_frozen BK106.out 0; have hfz25_1 := blk_frozen BK106.out 1; have hfz25_2 := blk_frozen BK106.out 2; have hfz25_3 := blk_frozen BK106.out 3; have hfz25_4 := blk_frozen BK106.out 4; have hfz25_5 := blk_frozen BK106.out 5; have hfz25_6 := blk_frozen BK106.out 6; have hfz25_7 := blk_frozen BK106.out 7; have hfz25_8 := blk_frozen BK106.out 8; have hfz25_9 := blk_frozen BK106.out 9; have hfz25_10 := blk_frozen BK106.out 10; have hfz25_11 := blk_frozen BK106.out 11; have hfz25_12 := blk_frozen BK106.out 12) | ((with_reducible refine gate_callee (f := 51) rfl ?_); refine goesL_ (some 5) rfl rfl Try.func51 (by kernel_rfl) rfl #[.int .i64 a0_0, .int .i64 1, .int .i64 1000000] rfl (by (try simp only [List.map_toArray, List.map_cons, List.map_nil]); first | done | rfl | (simp only [List.length_drop, List.length_take]; rfl)) ?_; (with_reducible refine (record_between.calls a0_0 1 1000000 true _ A2.out).mono ?_); rintro e w' ⟨rfl, ⟨nd, rfl⟩⟩; refine ⟨_, rfl, ?_⟩) | (go_at_call 51; (with_reducible refine (record_between.calls a0_1 0 15 true _ A4.out).mono ?_); rintro e w' ⟨rfl, ⟨nd, rfl⟩⟩) | (go_at_call 51; (with_reducible refine (record_between.calls a0_2 1 1000000 true _ A6.out).mono ?_); rintro e w' ⟨rfl, ⟨nd, rfl⟩⟩) | (go_at_call 51; (with_reducible refine (record_between.calls a0_3 0 7 true _ A8.out).mono ?_); rintro e w' ⟨rfl, ⟨nd, rfl⟩⟩) | (go_at_call 51; (with_reducible refine (record_between.calls a0_4 0 7 true _ A10.out).mono ?_); rintro e w' ⟨rfl, ⟨nd, rfl⟩⟩) | (go_at_call 51; (with_reducible refine (record_between.calls a0_5 1 a0_6 false _ A12.out).mono ?_); rintro e w' ⟨rfl, ⟨nd, rfl⟩⟩))
              go_ret
              exact ⟨by first | rfl | (simp [errW_none, errW_some] <;> rfl) | (simp [*, errW_none, errW_some] <;> rfl), by repeat (first | (with_reducible first | exact HB.out | apply below_alloc | apply pw_below_drewN | apply below_drew1 | refine below_set ?_ GE106.out) | exact HB.out)⟩
          · replace c11 := Bool.eq_false_iff.mpr c11
            subst c11
            have H1 : (some false) = some r := by rw [if_neg (show ¬ (false = true) by decide)] at H; exact H
            clear H
            have H := H1
            clear H1
            obtain rfl := Option.some.inj H
            go_enter Try.func38, Try.ntmps38
            go_wp2_with (first | ((with_reducible refine gate_dst (N := 1) rfl ?_); refine box_event ?hg (N := 1) ?hd (cs := #[.int .i64 a0_0, .int .i64 a0_1, .int .i64 a0_2, .int .i64 a0_3, .int .i64 a0_4, .int .i64 a0_5, .int .i64 a0_6, .int .i64 a0_7, .int .i64 a0_8, .int .u64 a0_9, .int .u64 a0_10, .int .u64 a0_11, .int .u64 a0_12]) (t := 25) ?hr ?_; (case hd => rfl); (case hg => rfl); (case hr => first | (go_simp; done) | (go_simp; rfl)); intro gb106 hg w26 hbox hb; have n0_ := Aside0.mk (below_step (by repeat (first | (with_reducible first | exact HB.out | apply below_alloc | apply pw_below_drewN | apply below_drew1) | exact HB.out)) hb); have n1_ := Aside0.mk (hbox); have n2_ := Aside0.mk ((by rw [hg]; exact (below_size (by repeat (first | (with_reducible first | exact HB.out | apply below_alloc | apply pw_below_drewN | apply below_drew1) | exact HB.out))) : w.heap.size ≤ gb106)); have n3_ := Aside0.mk ((by rw [hg]; exact (below_size (by repeat (first | (with_reducible first | exact HB.out | apply below_alloc | apply pw_below_drewN | apply below_drew1) | exact HB.out))) : w.heap.size ≤ gb106)); clear HB; have HB := n0_; have BK106 := n1_; have GW106 := n2_; have GE106 := n3_; clear n0_ n1_ n2_ n3_; clear hb hbox hg; have hcz27_0 : w26.cell? ⟨gb106, 0, none⟩ = some (.int .i64 a0_0) := (blk_cell BK106.out 0).trans rfl; have hcz27_1 : w26.cell? ⟨gb106, 1, none⟩ = some (.int .i64 a0_1) := (blk_cell BK106.out 1).trans rfl; have hcz27_2 : w26.cell? ⟨gb106, 2, none⟩ = some (.int .i64 a0_2) := (blk_cell BK106.out 2).trans rfl; have hcz27_3 : w26.cell? ⟨gb106, 3, none⟩ = some (.int .i64 a0_3) := (blk_cell BK106.out 3).trans rfl; have hcz27_4 : w26.cell? ⟨gb106, 4, none⟩ = some (.int .i64 a0_4) := (blk_cell BK106.out 4).trans rfl; have hcz27_5 : w26.cell? ⟨gb106, 5, none⟩ = some (.int .i64 a0_5) := (blk_cell BK106.out 5).trans rfl; have hcz27_6 : w26.cell? ⟨gb106, 6, none⟩ = some (.int .i64 a0_6) := (blk_cell BK106.out 6).trans rfl; have hcz27_7 : w26.cell? ⟨gb106, 7, none⟩ = some (.int .i64 a0_7) := (blk_cell BK106.out 7).trans rfl; have hcz27_8 : w26.cell? ⟨gb106, 8, none⟩ = some (.int .i64 a0_8) := (blk_cell BK106.out 8).trans rfl; have hcz27_9 : w26.cell? ⟨gb106, 9, none⟩ = some (.int .u64 a0_9) := (blk_cell BK106.out 9).trans rfl; have hcz27_10 : w26.cell? ⟨gb106, 10, none⟩ = some (.int .u64 a0_10) := (blk_cell BK106.out 10).trans rfl; have hcz27_11 : w26.cell? ⟨gb106, 11, none⟩ = some (.int .u64 a0_11) := (blk_cell BK106.out 11).trans rfl; have hcz27_12 : w26.cell? ⟨gb106, 12, none⟩ = some (.int .u64 a0_12) := (blk_cell BK106.out 12).trans rfl; have hfz27_0 := blk_frozen BK106.out 0; have hfz27_1 := blk_frozen BK106.out 1; have hfz27_2 := blk_frozen BK106.out 2; have hfz27_3 := blk_frozen BK106.out 3; have hfz27_4 := blk_frozen BK106.out 4; have hfz27_5 := blk_frozen BK106.out 5; have hfz27_6 := blk_frozen BK106.out 6; have hfz27_7 := blk_frozen BK106.out 7; have hfz27_8 := blk_frozen BK106.out 8; have hfz27_9 := blk_frozen BK106.out 9; have hfz27_10 := blk_frozen BK106.out 10; have hfz27_11 := blk_frozen BK106.out 11; have hfz27_12 := blk_frozen BK106.out 12) | ((with_reducible refine gate_callee (f := 51) rfl ?_); refine goesL_ (some 5) rfl rfl Try.func51 (by kernel_rfl) rfl #[.int .i64 a0_0, .int .i64 1, .int .i64 1000000] rfl (by (try simp only [List.map_toArray, List.map_cons, List.map_nil]); first | done | rfl | (simp only [List.length_drop, List.length_take]; rfl)) ?_; (with_reducible refine (record_between.calls a0_0 1 1000000 true _ A2.out).mono ?_); rintro e w' ⟨rfl, ⟨nd, rfl⟩⟩; refine ⟨_, rfl, ?_⟩) | (go_at_call 51; (with_reducible refine (record_between.calls a0_1 0 15 true _ A4.out).mono ?_); rintro e w' ⟨rfl, ⟨nd, rfl⟩⟩) | (go_at_call 51; (with_reducible refine (record_between.calls a0_2 1 1000000 true _ A6.out).mono ?_); rintro e w' ⟨rfl, ⟨nd, rfl⟩⟩) | (go_at_call 51; (with_reducible refine (record_between.calls a0_3 0 7 true _ A8.out).mono ?_); rintro e w' ⟨rfl, ⟨nd, rfl⟩⟩) | (go_at_call 51; (with_reducible refine (record_between.calls a0_4 0 7 false _ A10.out).mono ?_); rintro e w' ⟨rfl, ⟨nd, rfl⟩⟩))
            go_ret
            exact ⟨by first | rfl | (simp [errW_none, errW_some] <;> rfl) | (simp [*, errW_none, errW_some] <;> rfl), by repeat (first | (with_reducible first | exact HB.out | apply below_alloc | apply pw_below_drewN | apply below_drew1 | refine below_set ?_ GE106.out) | exact HB.out)⟩
        · replace c9 := Bool.eq_false_iff.mpr c9
          subst c9
          have H1 : (some false) = some r := by rw [if_neg (show ¬ (false = true) by decide)] at H; exact H
          clear H
          have H := H1
          clear H1
          obtain rfl := Option.some.inj H
          go_enter Try.func38, Try.ntmps38
          go_wp2_with (first | ((with_reducible refine gate_dst (N := 1) rfl ?_); refine box_event ?hg (N := 1) ?hd (cs := #[.int .i64 a0_0, .int .i64 a0_1, .int .i64 a0_2, .int .i64 a0_3, .int .i64 a0_4, .int .i64 a0_5, .int .i64 a0_6, .int .i64 a0_7, .int .i64 a0_8, .int .u64 a0_9, .int .u64 a0_10, .int .u64 a0_11, .int .u64 a0_12]) (t := 25) ?hr ?_; (case hd => rfl); (case hg => rfl); (case hr => first | (go_simp; done) | (go_simp; rfl)); intro gb106 hg w28 hbox hb; have n0_ := Aside0.mk (below_step (by repeat (first | (with_reducible first | exact HB.out | apply below_alloc | apply pw_below_drewN | apply below_drew1) | exact HB.out)) hb); have n1_ := Aside0.mk (hbox); have n2_ := Aside0.mk ((by rw [hg]; exact (below_size (by repeat (first | (with_reducible first | exact HB.out | apply below_alloc | apply pw_below_drewN | apply below_drew1) | exact HB.out))) : w.heap.size ≤ gb106)); have n3_ := Aside0.mk ((by rw [hg]; exact (below_size (by repeat (first | (with_reducible first | exact HB.out | apply below_alloc | apply pw_below_drewN | apply below_drew1) | exact HB.out))) : w.heap.size ≤ gb106)); clear HB; have HB := n0_; have BK106 := n1_; have GW106 := n2_; have GE106 := n3_; clear n0_ n1_ n2_ n3_; clear hb hbox hg; have hcz29_0 : w28.cell? ⟨gb106, 0, none⟩ = some (.int .i64 a0_0) := (blk_cell BK106.out 0).trans rfl; have hcz29_1 : w28.cell? ⟨gb106, 1, none⟩ = some (.int .i64 a0_1) := (blk_cell BK106.out 1).trans rfl; have hcz29_2 : w28.cell? ⟨gb106, 2, none⟩ = some (.int .i64 a0_2) := (blk_cell BK106.out 2).trans rfl; have hcz29_3 : w28.cell? ⟨gb106, 3, none⟩ = some (.int .i64 a0_3) := (blk_cell BK106.out 3).trans rfl; have hcz29_4 : w28.cell? ⟨gb106, 4, none⟩ = some (.int .i64 a0_4) := (blk_cell BK106.out 4).trans rfl; have hcz29_5 : w28.cell? ⟨gb106, 5, none⟩ = some (.int .i64 a0_5) := (blk_cell BK106.out 5).trans rfl; have hcz29_6 : w28.cell? ⟨gb106, 6, none⟩ = some (.int .i64 a0_6) := (blk_cell BK106.out 6).trans rfl; have hcz29_7 : w28.cell? ⟨gb106, 7, none⟩ = some (.int .i64 a0_7) := (blk_cell BK106.out 7).trans rfl; have hcz29_8 : w28.cell? ⟨gb106, 8, none⟩ = some (.int .i64 a0_8) := (blk_cell BK106.out 8).trans rfl; have hcz29_9 : w28.cell? ⟨gb106, 9, none⟩ = some (.int .u64 a0_9) := (blk_cell BK106.out 9).trans rfl; have hcz29_10 : w28.cell? ⟨gb106, 10, none⟩ = some (.int .u64 a0_10) := (blk_cell BK106.out 10).trans rfl; have hcz29_11 : w28.cell? ⟨gb106, 11, none⟩ = some (.int .u64 a0_11) := (blk_cell BK106.out 11).trans rfl; have hcz29_12 : w28.cell? ⟨gb106, 12, none⟩ = some (.int .u64 a0_12) := (blk_cell BK106.out 12).trans rfl; have hfz29_0 := blk_frozen BK106.out 0; have hfz29_1 := blk_frozen BK106.out 1; have hfz29_2 := blk_frozen BK106.out 2; have hfz29_3 := blk_frozen BK106.out 3; have hfz29_4 := blk_frozen BK106.out 4; have hfz29_5 := blk_frozen BK106.out 5; have hfz29_6 := blk_frozen BK106.out 6; have hfz29_7 := blk_frozen BK106.out 7; have hfz29_8 := blk_frozen BK106.out 8; have hfz29_9 := blk_frozen BK106.out 9; have hfz29_10 := blk_frozen BK106.out 10; have hfz29_11 := blk_frozen BK106.out 11; have hfz29_12 := blk_frozen BK106.out 12) | ((with_reducible refine gate_callee (f := 51) rfl ?_); refine goesL_ (some 5) rfl rfl Try.func51 (by kernel_rfl) rfl #[.int .i64 a0_0, .int .i64 1, .int .i64 1000000] rfl (by (try simp only [List.map_toArray, List.map_cons, List.map_nil]); first | done | rfl | (simp only [List.length_drop, List.length_take]; rfl)) ?_; (with_reducible refine (record_between.calls a0_0 1 1000000 true _ A2.out).mono ?_); rintro e w' ⟨rfl, ⟨nd, rfl⟩⟩; refine ⟨_, rfl, ?_⟩) | (go_at_call 51; (with_reducible refine (record_between.calls a0_1 0 15 true _ A4.out).mono ?_); rintro e w' ⟨rfl, ⟨nd, rfl⟩⟩) | (go_at_call 51; (with_reducible refine (record_between.calls a0_2 1 1000000 true _ A6.out).mono ?_); rintro e w' ⟨rfl, ⟨nd, rfl⟩⟩) | (go_at_call 51; (with_reducible refine (record_between.calls a0_3 0 7 false _ A8.out).mono ?_); rintro e w' ⟨rfl, ⟨nd, rfl⟩⟩))
          go_ret
          exact ⟨by first | rfl | (simp [errW_none, errW_some] <;> rfl) | (simp [*, errW_none, errW_some] <;> rfl), by repeat (first | (with_reducible first | exact HB.out | apply below_alloc | apply pw_below_drewN | apply below_drew1 | refine below_set ?_ GE106.out) | exact HB.out)⟩
      · replace c7 := Bool.eq_false_iff.mpr c7
        subst c7
        have H1 : (some false) = some r := by rw [if_neg (show ¬ (false = true) by decide)] at H; exact H
        clear H
        have H := H1
        clear H1
        obtain rfl := Option.some.inj H
        go_enter Try.func38, Try.ntmps38
        go_wp2_with (first | ((with_reducible refine gate_dst (N := 1) rfl ?_); refine box_event ?hg (N := 1) ?hd (cs := #[.int .i64 a0_0, .int .i64 a0_1, .int .i64 a0_2, .int .i64 a0_3, .int .i64 a0_4, .int .i64 a0_5, .int .i64 a0_6, .int .i64 a0_7, .int .i64 a0_8, .int .u64 a0_9, .int .u64 a0_10, .int .u64 a0_11, .int .u64 a0_12]) (t := 25) ?hr ?_; (case hd => rfl); (case hg => rfl); (case hr => first | (go_simp; done) | (go_simp; rfl)); intro gb106 hg w30 hbox hb; have n0_ := Aside0.mk (below_step (by repeat (first | (with_reducible first | exact HB.out | apply below_alloc | apply pw_below_drewN | apply below_drew1) | exact HB.out)) hb); have n1_ := Aside0.mk (hbox); have n2_ := Aside0.mk ((by rw [hg]; exact (below_size (by repeat (first | (with_reducible first | exact HB.out | apply below_alloc | apply pw_below_drewN | apply below_drew1) | exact HB.out))) : w.heap.size ≤ gb106)); have n3_ := Aside0.mk ((by rw [hg]; exact (below_size (by repeat (first | (with_reducible first | exact HB.out | apply below_alloc | apply pw_below_drewN | apply below_drew1) | exact HB.out))) : w.heap.size ≤ gb106)); clear HB; have HB := n0_; have BK106 := n1_; have GW106 := n2_; have GE106 := n3_; clear n0_ n1_ n2_ n3_; clear hb hbox hg; have hcz31_0 : w30.cell? ⟨gb106, 0, none⟩ = some (.int .i64 a0_0) := (blk_cell BK106.out 0).trans rfl; have hcz31_1 : w30.cell? ⟨gb106, 1, none⟩ = some (.int .i64 a0_1) := (blk_cell BK106.out 1).trans rfl; have hcz31_2 : w30.cell? ⟨gb106, 2, none⟩ = some (.int .i64 a0_2) := (blk_cell BK106.out 2).trans rfl; have hcz31_3 : w30.cell? ⟨gb106, 3, none⟩ = some (.int .i64 a0_3) := (blk_cell BK106.out 3).trans rfl; have hcz31_4 : w30.cell? ⟨gb106, 4, none⟩ = some (.int .i64 a0_4) := (blk_cell BK106.out 4).trans rfl; have hcz31_5 : w30.cell? ⟨gb106, 5, none⟩ = some (.int .i64 a0_5) := (blk_cell BK106.out 5).trans rfl; have hcz31_6 : w30.cell? ⟨gb106, 6, none⟩ = some (.int .i64 a0_6) := (blk_cell BK106.out 6).trans rfl; have hcz31_7 : w30.cell? ⟨gb106, 7, none⟩ = some (.int .i64 a0_7) := (blk_cell BK106.out 7).trans rfl; have hcz31_8 : w30.cell? ⟨gb106, 8, none⟩ = some (.int .i64 a0_8) := (blk_cell BK106.out 8).trans rfl; have hcz31_9 : w30.cell? ⟨gb106, 9, none⟩ = some (.int .u64 a0_9) := (blk_cell BK106.out 9).trans rfl; have hcz31_10 : w30.cell? ⟨gb106, 10, none⟩ = some (.int .u64 a0_10) := (blk_cell BK106.out 10).trans rfl; have hcz31_11 : w30.cell? ⟨gb106, 11, none⟩ = some (.int .u64 a0_11) := (blk_cell BK106.out 11).trans rfl; have hcz31_12 : w30.cell? ⟨gb106, 12, none⟩ = some (.int .u64 a0_12) := (blk_cell BK106.out 12).trans rfl; have hfz31_0 := blk_frozen BK106.out 0; have hfz31_1 := blk_frozen BK106.out 1; have hfz31_2 := blk_frozen BK106.out 2; have hfz31_3 := blk_frozen BK106.out 3; have hfz31_4 := blk_frozen BK106.out 4; have hfz31_5 := blk_frozen BK106.out 5; have hfz31_6 := blk_frozen BK106.out 6; have hfz31_7 := blk_frozen BK106.out 7; have hfz31_8 := blk_frozen BK106.out 8; have hfz31_9 := blk_frozen BK106.out 9; have hfz31_10 := blk_frozen BK106.out 10; have hfz31_11 := blk_frozen BK106.out 11; have hfz31_12 := blk_frozen BK106.out 12) | ((with_reducible refine gate_callee (f := 51) rfl ?_); refine goesL_ (some 5) rfl rfl Try.func51 (by kernel_rfl) rfl #[.int .i64 a0_0, .int .i64 1, .int .i64 1000000] rfl (by (try simp only [List.map_toArray, List.map_cons, List.map_nil]); first | done | rfl | (simp only [List.length_drop, List.length_take]; rfl)) ?_; (with_reducible refine (record_between.calls a0_0 1 1000000 true _ A2.out).mono ?_); rintro e w' ⟨rfl, ⟨nd, rfl⟩⟩; refine ⟨_, rfl, ?_⟩) | (go_at_call 51; (with_reducible refine (record_between.calls a0_1 0 15 true _ A4.out).mono ?_); rintro e w' ⟨rfl, ⟨nd, rfl⟩⟩) | (go_at_call 51; (with_reducible refine (record_between.calls a0_2 1 1000000 false _ A6.out).mono ?_); rintro e w' ⟨rfl, ⟨nd, rfl⟩⟩))
        go_ret
        exact ⟨by first | rfl | (simp [errW_none, errW_some] <;> rfl) | (simp [*, errW_none, errW_some] <;> rfl), by repeat (first | (with_reducible first | exact HB.out | apply below_alloc | apply pw_below_drewN | apply below_drew1 | refine below_set ?_ GE106.out) | exact HB.out)⟩
    · replace c5 := Bool.eq_false_iff.mpr c5
      subst c5
      have H1 : (some false) = some r := by rw [if_neg (show ¬ (false = true) by decide)] at H; exact H
      clear H
      have H := H1
      clear H1
      obtain rfl := Option.some.inj H
      go_enter Try.func38, Try.ntmps38
      go_wp2_with (first | ((with_reducible refine gate_dst (N := 1) rfl ?_); refine box_event ?hg (N := 1) ?hd (cs := #[.int .i64 a0_0, .int .i64 a0_1, .int .i64 a0_2, .int .i64 a0_3, .int .i64 a0_4, .int .i64 a0_5, .int .i64 a0_6, .int .i64 a0_7, .int .i64 a0_8, .int .u64 a0_9, .int .u64 a0_10, .int .u64 a0_11, .int .u64 a0_12]) (t := 25) ?hr ?_; (case hd => rfl); (case hg => rfl); (case hr => first | (go_simp; done) | (go_simp; rfl)); intro gb106 hg w32 hbox hb; have n0_ := Aside0.mk (below_step (by repeat (first | (with_reducible first | exact HB.out | apply below_alloc | apply pw_below_drewN | apply below_drew1) | exact HB.out)) hb); have n1_ := Aside0.mk (hbox); have n2_ := Aside0.mk ((by rw [hg]; exact (below_size (by repeat (first | (with_reducible first | exact HB.out | apply below_alloc | apply pw_below_drewN | apply below_drew1) | exact HB.out))) : w.heap.size ≤ gb106)); have n3_ := Aside0.mk ((by rw [hg]; exact (below_size (by repeat (first | (with_reducible first | exact HB.out | apply below_alloc | apply pw_below_drewN | apply below_drew1) | exact HB.out))) : w.heap.size ≤ gb106)); clear HB; have HB := n0_; have BK106 := n1_; have GW106 := n2_; have GE106 := n3_; clear n0_ n1_ n2_ n3_; clear hb hbox hg; have hcz33_0 : w32.cell? ⟨gb106, 0, none⟩ = some (.int .i64 a0_0) := (blk_cell BK106.out 0).trans rfl; have hcz33_1 : w32.cell? ⟨gb106, 1, none⟩ = some (.int .i64 a0_1) := (blk_cell BK106.out 1).trans rfl; have hcz33_2 : w32.cell? ⟨gb106, 2, none⟩ = some (.int .i64 a0_2) := (blk_cell BK106.out 2).trans rfl; have hcz33_3 : w32.cell? ⟨gb106, 3, none⟩ = some (.int .i64 a0_3) := (blk_cell BK106.out 3).trans rfl; have hcz33_4 : w32.cell? ⟨gb106, 4, none⟩ = some (.int .i64 a0_4) := (blk_cell BK106.out 4).trans rfl; have hcz33_5 : w32.cell? ⟨gb106, 5, none⟩ = some (.int .i64 a0_5) := (blk_cell BK106.out 5).trans rfl; have hcz33_6 : w32.cell? ⟨gb106, 6, none⟩ = some (.int .i64 a0_6) := (blk_cell BK106.out 6).trans rfl; have hcz33_7 : w32.cell? ⟨gb106, 7, none⟩ = some (.int .i64 a0_7) := (blk_cell BK106.out 7).trans rfl; have hcz33_8 : w32.cell? ⟨gb106, 8, none⟩ = some (.int .i64 a0_8) := (blk_cell BK106.out 8).trans rfl; have hcz33_9 : w32.cell? ⟨gb106, 9, none⟩ = some (.int .u64 a0_9) := (blk_cell BK106.out 9).trans rfl; have hcz33_10 : w32.cell? ⟨gb106, 10, none⟩ = some (.int .u64 a0_10) := (blk_cell BK106.out 10).trans rfl; have hcz33_11 : w32.cell? ⟨gb106, 11, none⟩ = some (.int .u64 a0_11) := (blk_cell BK106.out 11).trans rfl; have hcz33_12 : w32.cell? ⟨gb106, 12, none⟩ = some (.int .u64 a0_12) := (blk_cell BK106.out 12).trans rfl; have hfz33_0 := blk_frozen BK106.out 0; have hfz33_1 := blk_frozen BK106.out 1; have hfz33_2 := blk_frozen BK106.out 2; have hfz33_3 := blk_frozen BK106.out 3; have hfz33_4 := blk_frozen BK106.out 4; have hfz33_5 := blk_frozen BK106.out 5; have hfz33_6 := blk_frozen BK106.out 6; have hfz33_7 := blk_frozen BK106.out 7; have hfz33_8 := blk_frozen BK106.out 8; have hfz33_9 := blk_frozen BK106.out 9; have hfz33_10 := blk_frozen BK106.out 10; have hfz33_11 := blk_frozen BK106.out 11; have hfz33_12 := blk_frozen BK106.out 12) | ((with_reducible refine gate_callee (f := 51) rfl ?_); refine goesL_ (some 5) rfl rfl Try.func51 (by kernel_rfl) rfl #[.int .i64 a0_0, .int .i64 1, .int .i64 1000000] rfl (by (try simp only [List.map_toArray, List.map_cons, List.map_nil]); first | done | rfl | (simp only [List.length_drop, List.length_take]; rfl)) ?_; (with_reducible refine (record_between.calls a0_0 1 1000000 true _ A2.out).mono ?_); rintro e w' ⟨rfl, ⟨nd, rfl⟩⟩; refine ⟨_, rfl, ?_⟩) | (go_at_call 51; (with_reducible refine (record_between.calls a0_1 0 15 false _ A4.out).mono ?_); rintro e w' ⟨rfl, ⟨nd, rfl⟩⟩))
      go_ret
      exact ⟨by first | rfl | (simp [errW_none, errW_some] <;> rfl) | (simp [*, errW_none, errW_some] <;> rfl), by repeat (first | (with_reducible first | exact HB.out | apply below_alloc | apply pw_below_drewN | apply below_drew1 | refine below_set ?_ GE106.out) | exact HB.out)⟩
  · replace c3 := Bool.eq_false_iff.mpr c3
    subst c3
    have H1 : (some false) = some r := by rw [if_neg (show ¬ (false = true) by decide)] at H; exact H
    clear H
    have H := H1
    clear H1
    obtain rfl := Option.some.inj H
    go_enter Try.func38, Try.ntmps38
    go_wp2_with (first | ((with_reducible refine gate_dst (N := 1) rfl ?_); refine box_event ?hg (N := 1) ?hd (cs := #[.int .i64 a0_0, .int .i64 a0_1, .int .i64 a0_2, .int .i64 a0_3, .int .i64 a0_4, .int .i64 a0_5, .int .i64 a0_6, .int .i64 a0_7, .int .i64 a0_8, .int .u64 a0_9, .int .u64 a0_10, .int .u64 a0_11, .int .u64 a0_12]) (t := 25) ?hr ?_; (case hd => rfl); (case hg => rfl); (case hr => first | (go_simp; done) | (go_simp; rfl)); intro gb106 hg w34 hbox hb; have n0_ := Aside0.mk (below_step (by repeat (first | (with_reducible first | exact HB.out | apply below_alloc | apply pw_below_drewN | apply below_drew1) | exact HB.out)) hb); have n1_ := Aside0.mk (hbox); have n2_ := Aside0.mk ((by rw [hg]; exact (below_size (by repeat (first | (with_reducible first | exact HB.out | apply below_alloc | apply pw_below_drewN | apply below_drew1) | exact HB.out))) : w.heap.size ≤ gb106)); have n3_ := Aside0.mk ((by rw [hg]; exact (below_size (by repeat (first | (with_reducible first | exact HB.out | apply below_alloc | apply pw_below_drewN | apply below_drew1) | exact HB.out))) : w.heap.size ≤ gb106)); clear HB; have HB := n0_; have BK106 := n1_; have GW106 := n2_; have GE106 := n3_; clear n0_ n1_ n2_ n3_; clear hb hbox hg; have hcz35_0 : w34.cell? ⟨gb106, 0, none⟩ = some (.int .i64 a0_0) := (blk_cell BK106.out 0).trans rfl; have hcz35_1 : w34.cell? ⟨gb106, 1, none⟩ = some (.int .i64 a0_1) := (blk_cell BK106.out 1).trans rfl; have hcz35_2 : w34.cell? ⟨gb106, 2, none⟩ = some (.int .i64 a0_2) := (blk_cell BK106.out 2).trans rfl; have hcz35_3 : w34.cell? ⟨gb106, 3, none⟩ = some (.int .i64 a0_3) := (blk_cell BK106.out 3).trans rfl; have hcz35_4 : w34.cell? ⟨gb106, 4, none⟩ = some (.int .i64 a0_4) := (blk_cell BK106.out 4).trans rfl; have hcz35_5 : w34.cell? ⟨gb106, 5, none⟩ = some (.int .i64 a0_5) := (blk_cell BK106.out 5).trans rfl; have hcz35_6 : w34.cell? ⟨gb106, 6, none⟩ = some (.int .i64 a0_6) := (blk_cell BK106.out 6).trans rfl; have hcz35_7 : w34.cell? ⟨gb106, 7, none⟩ = some (.int .i64 a0_7) := (blk_cell BK106.out 7).trans rfl; have hcz35_8 : w34.cell? ⟨gb106, 8, none⟩ = some (.int .i64 a0_8) := (blk_cell BK106.out 8).trans rfl; have hcz35_9 : w34.cell? ⟨gb106, 9, none⟩ = some (.int .u64 a0_9) := (blk_cell BK106.out 9).trans rfl; have hcz35_10 : w34.cell? ⟨gb106, 10, none⟩ = some (.int .u64 a0_10) := (blk_cell BK106.out 10).trans rfl; have hcz35_11 : w34.cell? ⟨gb106, 11, none⟩ = some (.int .u64 a0_11) := (blk_cell BK106.out 11).trans rfl; have hcz35_12 : w34.cell? ⟨gb106, 12, none⟩ = some (.int .u64 a0_12) := (blk_cell BK106.out 12).trans rfl; have hfz35_0 := blk_frozen BK106.out 0; have hfz35_1 := blk_frozen BK106.out 1; have hfz35_2 := blk_frozen BK106.out 2; have hfz35_3 := blk_frozen BK106.out 3; have hfz35_4 := blk_frozen BK106.out 4; have hfz35_5 := blk_frozen BK106.out 5; have hfz35_6 := blk_frozen BK106.out 6; have hfz35_7 := blk_frozen BK106.out 7; have hfz35_8 := blk_frozen BK106.out 8; have hfz35_9 := blk_frozen BK106.out 9; have hfz35_10 := blk_frozen BK106.out 10; have hfz35_11 := blk_frozen BK106.out 11; have hfz35_12 := blk_frozen BK106.out 12) | ((with_reducible refine gate_callee (f := 51) rfl ?_); refine goesL_ (some 5) rfl rfl Try.func51 (by kernel_rfl) rfl #[.int .i64 a0_0, .int .i64 1, .int .i64 1000000] rfl (by (try simp only [List.map_toArray, List.map_cons, List.map_nil]); first | done | rfl | (simp only [List.length_drop, List.length_take]; rfl)) ?_; (with_reducible refine (record_between.calls a0_0 1 1000000 false _ A2.out).mono ?_); rintro e w' ⟨rfl, ⟨nd, rfl⟩⟩; refine ⟨_, rfl, ?_⟩))
    go_ret
    exact ⟨by first | rfl | (simp [errW_none, errW_some] <;> rfl) | (simp [*, errW_none, errW_some] <;> rfl), by repeat (first | (with_reducible first | exact HB.out | apply below_alloc | apply pw_below_drewN | apply below_drew1 | refine below_set ?_ GE106.out) | exact HB.out)⟩

-- BY HAND: function 18 (record_Close)

-- BY HAND: function 22 (record_Check)

-- NOT PRINTED: function 17 (chargeparklaw41_head)

/-! ### chargeparkref40_number: function 50 -/
def chargeparkref40_number.l0 : Nat → Int → Int → Int → Option (Int)
  | 0, _, _, _ => none
  | k + 1, x0, x5, x6 => if x6 < 8 then (chargeparkref40_number.l0 k (IntKind.u64.wrap ((Go.bits .xor .u64 x0 (x5 / 72057594037927936)) * 1099511628211)) (IntKind.u64.wrap (x5 * 256)) (wrap64 (x6 + 1))) else (some x0)
def chargeparkref40_number.f (k : Nat) (a0 : Int) (a1 : Int) : Option (Int) := chargeparkref40_number.l0 k a0 (IntKind.u64.wrap (a1)) 0
theorem chargeparkref40_number.mono_l : ∀ k, (∀ y0 y1 y2, LeO (chargeparkref40_number.l0 k y0 y1 y2) (chargeparkref40_number.l0 (k + 1) y0 y1 y2))
  | 0 => fun _ _ _ r h => by simp [chargeparkref40_number.l0] at h
  | k + 1 => by
    have ih0 := chargeparkref40_number.mono_l k
    · intro y0 y1 y2
      unfold chargeparkref40_number.l0
      repeat' first
      | (with_reducible exact ih0 _ _ _)
      | (with_reducible exact LeO.refl _)
      | (with_reducible exact LeO.none _)
      | (with_reducible refine LeO.ite ?_ ?_)
      | (with_reducible refine LeO.bind ?_ (fun _ => ?_))
      | exact ih0 _ _ _
      | exact LeO.none _
      | refine LeO.ite ?_ ?_
      | refine LeO.bind ?_ (fun _ => ?_)
theorem chargeparkref40_number.mono : ∀ a0 a1 k, LeO (chargeparkref40_number.f k a0 a1) (chargeparkref40_number.f (k + 1) a0 a1) := by
  intro a0 a1 k
  have ih0 := chargeparkref40_number.mono_l k
  unfold chargeparkref40_number.f
  repeat' first
      | (with_reducible exact ih0 _ _ _)
      | (with_reducible exact LeO.refl _)
      | (with_reducible exact LeO.none _)
      | (with_reducible refine LeO.ite ?_ ?_)
      | (with_reducible refine LeO.bind ?_ (fun _ => ?_))
      | exact ih0 _ _ _
      | exact LeO.none _
      | refine LeO.ite ?_ ?_
      | refine LeO.bind ?_ (fun _ => ?_)
set_option maxHeartbeats 8000000 in
set_option maxRecDepth 100000 in
theorem chargeparkref40_number.calls (k : Nat) (a0 : Int) (a1 : Int) (r : Int) (w : World) (h : chargeparkref40_number.f k a0 a1 = some r) :
    Calls Try.prog 50 #[.int .u64 a0, .int .i64 a1] w fun e w' => e = .returned (.int .u64 r) ∧ Drawn0 w w' := by
  have H : (chargeparkref40_number.l0 k a0 (IntKind.u64.wrap (a1)) 0) = some r := h
  clear h
  have H' := Aside0.mk H
  clear H
  go_enter Try.func50, Try.ntmps50
  go_wp2
  go_loopg [0, 5, 6] k (fun kq v0 v5 v6 w' => ∃ (x0_1 : Int) (x5_1 : Int) (x6_1 : Int), v0 = .int .u64 x0_1 ∧ v5 = .int .u64 x5_1 ∧ v6 = .int .i64 x6_1 ∧ Aside0 (chargeparkref40_number.l0 kq x0_1 x5_1 x6_1 = some r) ∧ Aside0 (kq ≤ k) ∧ Drawn0 w w')
  case atStart => exact ⟨(a0), (IntKind.u64.wrap (a1)), (0), (by first | rfl | (simp; done) | (simp [*]; done) | kernel_rfl), (by first | rfl | (simp; done) | (simp [*]; done) | kernel_rfl), (by first | rfl | (simp; done) | (simp [*]; done) | kernel_rfl), H', ⟨Nat.le_refl _⟩, by repeat (first | exact Drawn0.refl _ | apply Drawn0.step)⟩
  case round =>
    clear H'
    try clear p2
    obtain ⟨x0_1, x5_1, x6_1, rfl, rfl, rfl, HA, HK1, ⟨m1, rfl⟩⟩ := hrel
    cases gk with
    | zero => exact absurd HA.out (by simp [chargeparkref40_number.l0])
    | succ k1 =>
      have H := HA.out
      clear HA
      simp only [chargeparkref40_number.l0] at H
      by_cases c3 : x6_1 < 8
      · rw [if_pos c3] at H
        have c3b0 : decide (x6_1 < 8) = true := decide_eq_true c3
        clear c3
        have H' := Aside0.mk H
        clear H
        go_wp2
        go_roundg k1
        case measure => have := HK1.out; omega
        case rel => exact ⟨(IntKind.u64.wrap ((Go.bits .xor .u64 x0_1 (x5_1 / 72057594037927936)) * 1099511628211)), (IntKind.u64.wrap (x5_1 * 256)), (wrap64 (x6_1 + 1)), (by first | rfl | (simp; done) | (simp [*]; done) | kernel_rfl), (by first | rfl | (simp; done) | (simp [*]; done) | kernel_rfl), (by first | rfl | (simp; done) | (simp [*]; done) | kernel_rfl), H', ⟨by have := HK1.out; omega⟩, by repeat (first | exact Drawn0.refl _ | apply Drawn0.step)⟩
      · rw [if_neg c3] at H
        have c3b0 : decide (x6_1 < 8) = false := decide_eq_false c3
        clear c3
        obtain rfl := Option.some.inj H
        go_wp2
        go_ret
        exact ⟨by first | rfl | (simp; done) | (simp [*]; done), by repeat (first | exact Drawn0.refl _ | apply Drawn0.step)⟩

/-! ### chargeparkref40_Link: function 33 -/
def chargeparkref40_Link.f (k : Nat) (a0 : Int) (a1_0 : Int) (a1_1 : Int) (a1_2 : Int) (a1_3 : Int) (a1_4 : Int) : Option (Int) := (chargeparkref40_number.f k a0 a1_0).bind fun t159 => ((chargeparkref40_number.f k t159 a1_1).bind fun t160 => ((chargeparkref40_number.f k t160 a1_2).bind fun t161 => ((chargeparkref40_number.f k t161 a1_3).bind fun t162 => (some t162))))
theorem chargeparkref40_Link.mono : ∀ a0 a1 a2 a3 a4 a5 k, LeO (chargeparkref40_Link.f k a0 a1 a2 a3 a4 a5) (chargeparkref40_Link.f (k + 1) a0 a1 a2 a3 a4 a5) := by
  intro a0 a1 a2 a3 a4 a5 k
  unfold chargeparkref40_Link.f
  repeat' first
      | (with_reducible exact chargeparkref40_number.mono _ _ _)
      | (with_reducible exact LeO.refl _)
      | (with_reducible exact LeO.none _)
      | (with_reducible refine LeO.ite ?_ ?_)
      | (with_reducible refine LeO.bind ?_ (fun _ => ?_))
      | exact chargeparkref40_number.mono _ _ _
      | exact LeO.none _
      | refine LeO.ite ?_ ?_
      | refine LeO.bind ?_ (fun _ => ?_)
set_option maxHeartbeats 8000000 in
set_option maxRecDepth 100000 in
theorem chargeparkref40_Link.calls (k : Nat) (a0 : Int) (a1_0 : Int) (a1_1 : Int) (a1_2 : Int) (a1_3 : Int) (a1_4 : Int) (r : Int) (w : World) (h : chargeparkref40_Link.f k a0 a1_0 a1_1 a1_2 a1_3 a1_4 = some r) :
    Calls Try.prog 33 #[.int .u64 a0, .agg #[.int .i64 a1_0, .int .i64 a1_1, .int .i64 a1_2, .int .i64 a1_3, .int .u64 a1_4]] w fun e w' => e = .returned (.int .u64 r) ∧ Below w.heap.size w w' := by
  have hu44 := Try.underlying44
  have HB := Aside0.mk (Below.refl w.heap.size w)
  have H : ((chargeparkref40_number.f k a0 a1_0).bind fun t159 => ((chargeparkref40_number.f k t159 a1_1).bind fun t160 => ((chargeparkref40_number.f k t160 a1_2).bind fun t161 => ((chargeparkref40_number.f k t161 a1_3).bind fun t162 => (some t162))))) = some r := h
  clear h
  replace H := Option.bind_eq_some_iff.mp H
  obtain ⟨t159, A30, H⟩ := H
  replace H : ((chargeparkref40_number.f k t159 a1_1).bind fun t160 => ((chargeparkref40_number.f k t160 a1_2).bind fun t161 => ((chargeparkref40_number.f k t161 a1_3).bind fun t162 => (some t162)))) = some r := H
  have A3 := Aside0.mk A30
  clear A30
  replace H := Option.bind_eq_some_iff.mp H
  obtain ⟨t160, A40, H⟩ := H
  replace H : ((chargeparkref40_number.f k t160 a1_2).bind fun t161 => ((chargeparkref40_number.f k t161 a1_3).bind fun t162 => (some t162))) = some r := H
  have A4 := Aside0.mk A40
  clear A40
  replace H := Option.bind_eq_some_iff.mp H
  obtain ⟨t161, A50, H⟩ := H
  replace H : ((chargeparkref40_number.f k t161 a1_3).bind fun t162 => (some t162)) = some r := H
  have A5 := Aside0.mk A50
  clear A50
  replace H := Option.bind_eq_some_iff.mp H
  obtain ⟨t162, A60, H⟩ := H
  replace H : (some t162) = some r := H
  have A6 := Aside0.mk A60
  clear A60
  obtain rfl := Option.some.inj H
  go_enter Try.func33, Try.ntmps33
  go_wp2_with (first | ((with_reducible refine gate_dst (N := 3) rfl ?_); refine box_event ?hg (N := 3) ?hd (cs := #[.int .i64 a1_0, .int .i64 a1_1, .int .i64 a1_2, .int .i64 a1_3, .int .u64 a1_4]) (t := 44) ?hr ?_; (case hd => rfl); (case hg => rfl); (case hr => first | (go_simp; done) | (go_simp; rfl)); intro gb158 hg w7 hbox hb; have n0_ := Aside0.mk (below_step (by repeat (first | (with_reducible first | exact HB.out | apply below_alloc | apply pw_below_drewN | apply below_drew1) | exact HB.out)) hb); have n1_ := Aside0.mk (hbox); have n2_ := Aside0.mk ((by rw [hg]; exact (below_size (by repeat (first | (with_reducible first | exact HB.out | apply below_alloc | apply pw_below_drewN | apply below_drew1) | exact HB.out))) : w.heap.size ≤ gb158)); have n3_ := Aside0.mk ((by rw [hg]; exact (below_size (by repeat (first | (with_reducible first | exact HB.out | apply below_alloc | apply pw_below_drewN | apply below_drew1) | exact HB.out))) : w.heap.size ≤ gb158)); clear HB; have HB := n0_; have BK158 := n1_; have GW158 := n2_; have GE158 := n3_; clear n0_ n1_ n2_ n3_; clear hb hbox hg; have hcz8_0 : w7.cell? ⟨gb158, 0, none⟩ = some (.int .i64 a1_0) := (blk_cell BK158.out 0).trans rfl; have hcz8_1 : w7.cell? ⟨gb158, 1, none⟩ = some (.int .i64 a1_1) := (blk_cell BK158.out 1).trans rfl; have hcz8_2 : w7.cell? ⟨gb158, 2, none⟩ = some (.int .i64 a1_2) := (blk_cell BK158.out 2).trans rfl; have hcz8_3 : w7.cell? ⟨gb158, 3, none⟩ = some (.int .i64 a1_3) := (blk_cell BK158.out 3).trans rfl; have hcz8_4 : w7.cell? ⟨gb158, 4, none⟩ = some (.int .u64 a1_4) := (blk_cell BK158.out 4).trans rfl; have hfz8_0 := blk_frozen BK158.out 0; have hfz8_1 := blk_frozen BK158.out 1; have hfz8_2 := blk_frozen BK158.out 2; have hfz8_3 := blk_frozen BK158.out 3; have hfz8_4 := blk_frozen BK158.out 4) | (go_at_call 50; (with_reducible refine (chargeparkref40_number.calls k a0 a1_0 t159 _ A3.out).mono ?_); rintro e w' ⟨rfl, ⟨nd, rfl⟩⟩; (try first | exact ⟨rfl, _, World.drewN_drewN _ _ _⟩ | exact ⟨rfl, _, Eq.trans (World.drewN_drewN _ _ _) (congrArg (World.drewN _) (Nat.add_assoc _ _ _))⟩)) | (go_at_call 50; (with_reducible refine (chargeparkref40_number.calls k t159 a1_1 t160 _ A4.out).mono ?_); rintro e w' ⟨rfl, ⟨nd, rfl⟩⟩; (try first | exact ⟨rfl, _, World.drewN_drewN _ _ _⟩ | exact ⟨rfl, _, Eq.trans (World.drewN_drewN _ _ _) (congrArg (World.drewN _) (Nat.add_assoc _ _ _))⟩)) | (go_at_call 50; (with_reducible refine (chargeparkref40_number.calls k t160 a1_2 t161 _ A5.out).mono ?_); rintro e w' ⟨rfl, ⟨nd, rfl⟩⟩; (try first | exact ⟨rfl, _, World.drewN_drewN _ _ _⟩ | exact ⟨rfl, _, Eq.trans (World.drewN_drewN _ _ _) (congrArg (World.drewN _) (Nat.add_assoc _ _ _))⟩)) | (go_at_call 50; (with_reducible refine (chargeparkref40_number.calls k t161 a1_3 t162 _ A6.out).mono ?_); rintro e w' ⟨rfl, ⟨nd, rfl⟩⟩; (try first | exact ⟨rfl, _, World.drewN_drewN _ _ _⟩ | exact ⟨rfl, _, Eq.trans (World.drewN_drewN _ _ _) (congrArg (World.drewN _) (Nat.add_assoc _ _ _))⟩)))
  repeat (go_quiet (first | ((with_reducible refine gate_dst (N := 3) rfl ?_); refine box_event ?hg (N := 3) ?hd (cs := #[.int .i64 a1_0, .int .i64 a1_1, .int .i64 a1_2, .int .i64 a1_3, .int .u64 a1_4]) (t := 44) ?hr ?_; (case hd => rfl); (case hg => rfl); (case hr => first | (go_simp; done) | (go_simp; rfl)); intro gb158 hg w7 hbox hb; have n0_ := Aside0.mk (below_step (by repeat (first | (with_reducible first | exact HB.out | apply below_alloc | apply pw_below_drewN | apply below_drew1) | exact HB.out)) hb); have n1_ := Aside0.mk (hbox); have n2_ := Aside0.mk ((by rw [hg]; exact (below_size (by repeat (first | (with_reducible first | exact HB.out | apply below_alloc | apply pw_below_drewN | apply below_drew1) | exact HB.out))) : w.heap.size ≤ gb158)); have n3_ := Aside0.mk ((by rw [hg]; exact (below_size (by repeat (first | (with_reducible first | exact HB.out | apply below_alloc | apply pw_below_drewN | apply below_drew1) | exact HB.out))) : w.heap.size ≤ gb158)); clear HB; have HB := n0_; have BK158 := n1_; have GW158 := n2_; have GE158 := n3_; clear n0_ n1_ n2_ n3_; clear hb hbox hg; have hcz8_0 : w7.cell? ⟨gb158, 0, none⟩ = some (.int .i64 a1_0) := (blk_cell BK158.out 0).trans rfl; have hcz8_1 : w7.cell? ⟨gb158, 1, none⟩ = some (.int .i64 a1_1) := (blk_cell BK158.out 1).trans rfl; have hcz8_2 : w7.cell? ⟨gb158, 2, none⟩ = some (.int .i64 a1_2) := (blk_cell BK158.out 2).trans rfl; have hcz8_3 : w7.cell? ⟨gb158, 3, none⟩ = some (.int .i64 a1_3) := (blk_cell BK158.out 3).trans rfl; have hcz8_4 : w7.cell? ⟨gb158, 4, none⟩ = some (.int .u64 a1_4) := (blk_cell BK158.out 4).trans rfl; have hfz8_0 := blk_frozen BK158.out 0; have hfz8_1 := blk_frozen BK158.out 1; have hfz8_2 := blk_frozen BK158.out 2; have hfz8_3 := blk_frozen BK158.out 3; have hfz8_4 := blk_frozen BK158.out 4) | (go_at_call 50; (with_reducible refine (chargeparkref40_number.calls k a0 a1_0 t159 _ A3.out).mono ?_); rintro e w' ⟨rfl, ⟨nd, rfl⟩⟩; (try first | exact ⟨rfl, _, World.drewN_drewN _ _ _⟩ | exact ⟨rfl, _, Eq.trans (World.drewN_drewN _ _ _) (congrArg (World.drewN _) (Nat.add_assoc _ _ _))⟩)) | (go_at_call 50; (with_reducible refine (chargeparkref40_number.calls k t159 a1_1 t160 _ A4.out).mono ?_); rintro e w' ⟨rfl, ⟨nd, rfl⟩⟩; (try first | exact ⟨rfl, _, World.drewN_drewN _ _ _⟩ | exact ⟨rfl, _, Eq.trans (World.drewN_drewN _ _ _) (congrArg (World.drewN _) (Nat.add_assoc _ _ _))⟩)) | (go_at_call 50; (with_reducible refine (chargeparkref40_number.calls k t160 a1_2 t161 _ A5.out).mono ?_); rintro e w' ⟨rfl, ⟨nd, rfl⟩⟩; (try first | exact ⟨rfl, _, World.drewN_drewN _ _ _⟩ | exact ⟨rfl, _, Eq.trans (World.drewN_drewN _ _ _) (congrArg (World.drewN _) (Nat.add_assoc _ _ _))⟩)) | (go_at_call 50; (with_reducible refine (chargeparkref40_number.calls k t161 a1_3 t162 _ A6.out).mono ?_); rintro e w' ⟨rfl, ⟨nd, rfl⟩⟩; (try first | exact ⟨rfl, _, World.drewN_drewN _ _ _⟩ | exact ⟨rfl, _, Eq.trans (World.drewN_drewN _ _ _) (congrArg (World.drewN _) (Nat.add_assoc _ _ _))⟩))); try go_wp2_with (first | ((with_reducible refine gate_dst (N := 3) rfl ?_); refine box_event ?hg (N := 3) ?hd (cs := #[.int .i64 a1_0, .int .i64 a1_1, .int .i64 a1_2, .int .i64 a1_3, .int .u64 a1_4]) (t := 44) ?hr ?_; (case hd => rfl); (case hg => rfl); (case hr => first | (go_simp; done) | (go_simp; rfl)); intro gb158 hg w7 hbox hb; have n0_ := Aside0.mk (below_step (by repeat (first | (with_reducible first | exact HB.out | apply below_alloc | apply pw_below_drewN | apply below_drew1) | exact HB.out)) hb); have n1_ := Aside0.mk (hbox); have n2_ := Aside0.mk ((by rw [hg]; exact (below_size (by repeat (first | (with_reducible first | exact HB.out | apply below_alloc | apply pw_below_drewN | apply below_drew1) | exact HB.out))) : w.heap.size ≤ gb158)); have n3_ := Aside0.mk ((by rw [hg]; exact (below_size (by repeat (first | (with_reducible first | exact HB.out | apply below_alloc | apply pw_below_drewN | apply below_drew1) | exact HB.out))) : w.heap.size ≤ gb158)); clear HB; have HB := n0_; have BK158 := n1_; have GW158 := n2_; have GE158 := n3_; clear n0_ n1_ n2_ n3_; clear hb hbox hg; have hcz8_0 : w7.cell? ⟨gb158, 0, none⟩ = some (.int .i64 a1_0) := (blk_cell BK158.out 0).trans rfl; have hcz8_1 : w7.cell? ⟨gb158, 1, none⟩ = some (.int .i64 a1_1) := (blk_cell BK158.out 1).trans rfl; have hcz8_2 : w7.cell? ⟨gb158, 2, none⟩ = some (.int .i64 a1_2) := (blk_cell BK158.out 2).trans rfl; have hcz8_3 : w7.cell? ⟨gb158, 3, none⟩ = some (.int .i64 a1_3) := (blk_cell BK158.out 3).trans rfl; have hcz8_4 : w7.cell? ⟨gb158, 4, none⟩ = some (.int .u64 a1_4) := (blk_cell BK158.out 4).trans rfl; have hfz8_0 := blk_frozen BK158.out 0; have hfz8_1 := blk_frozen BK158.out 1; have hfz8_2 := blk_frozen BK158.out 2; have hfz8_3 := blk_frozen BK158.out 3; have hfz8_4 := blk_frozen BK158.out 4) | (go_at_call 50; (with_reducible refine (chargeparkref40_number.calls k a0 a1_0 t159 _ A3.out).mono ?_); rintro e w' ⟨rfl, ⟨nd, rfl⟩⟩; (try first | exact ⟨rfl, _, World.drewN_drewN _ _ _⟩ | exact ⟨rfl, _, Eq.trans (World.drewN_drewN _ _ _) (congrArg (World.drewN _) (Nat.add_assoc _ _ _))⟩)) | (go_at_call 50; (with_reducible refine (chargeparkref40_number.calls k t159 a1_1 t160 _ A4.out).mono ?_); rintro e w' ⟨rfl, ⟨nd, rfl⟩⟩; (try first | exact ⟨rfl, _, World.drewN_drewN _ _ _⟩ | exact ⟨rfl, _, Eq.trans (World.drewN_drewN _ _ _) (congrArg (World.drewN _) (Nat.add_assoc _ _ _))⟩)) | (go_at_call 50; (with_reducible refine (chargeparkref40_number.calls k t160 a1_2 t161 _ A5.out).mono ?_); rintro e w' ⟨rfl, ⟨nd, rfl⟩⟩; (try first | exact ⟨rfl, _, World.drewN_drewN _ _ _⟩ | exact ⟨rfl, _, Eq.trans (World.drewN_drewN _ _ _) (congrArg (World.drewN _) (Nat.add_assoc _ _ _))⟩)) | (go_at_call 50; (with_reducible refine (chargeparkref40_number.calls k t161 a1_3 t162 _ A6.out).mono ?_); rintro e w' ⟨rfl, ⟨nd, rfl⟩⟩; (try first | exact ⟨rfl, _, World.drewN_drewN _ _ _⟩ | exact ⟨rfl, _, Eq.trans (World.drewN_drewN _ _ _) (congrArg (World.drewN _) (Nat.add_assoc _ _ _))⟩))))
  go_ret
  exact ⟨by first | rfl | (simp [errW_none, errW_some] <;> rfl) | (simp [*, errW_none, errW_some] <;> rfl), by repeat (first | (with_reducible first | exact HB.out | apply below_alloc | apply pw_below_drewN | apply below_drew1 | refine below_set ?_ GE158.out) | exact HB.out)⟩

/-! ### chargeparkref41_Sign: function 21 -/
def chargeparkref41_Sign.f (k : Nat) (a0_0 : Int) (a0_1 : Int) (a0_2 : Int) (a0_3 : Int) (a0_4 : Int) (a0_5 : Int) (a0_6 : Int) (a0_7 : Int) (a0_8 : Int) (a0_9 : Int) (a0_10 : Int) (a0_11 : Int) (a0_12 : Int) (a1 : Int) : Option (Int) := (chargeparkref40_Link.f k a1 a0_0 a0_1 a0_2 a0_3 0).bind fun t164 => ((chargeparkref40_Link.f k t164 a0_4 a0_5 a0_6 a0_7 0).bind fun t165 => ((chargeparkref40_Link.f k t165 a0_8 0 0 0 0).bind fun t166 => (some t166)))
theorem chargeparkref41_Sign.mono : ∀ a0 a1 a2 a3 a4 a5 a6 a7 a8 a9 a10 a11 a12 a13 k, LeO (chargeparkref41_Sign.f k a0 a1 a2 a3 a4 a5 a6 a7 a8 a9 a10 a11 a12 a13) (chargeparkref41_Sign.f (k + 1) a0 a1 a2 a3 a4 a5 a6 a7 a8 a9 a10 a11 a12 a13) := by
  intro a0 a1 a2 a3 a4 a5 a6 a7 a8 a9 a10 a11 a12 a13 k
  unfold chargeparkref41_Sign.f
  repeat' first
      | (with_reducible exact chargeparkref40_Link.mono _ _ _ _ _ _ _)
      | (with_reducible exact LeO.refl _)
      | (with_reducible exact LeO.none _)
      | (with_reducible refine LeO.ite ?_ ?_)
      | (with_reducible refine LeO.bind ?_ (fun _ => ?_))
      | exact chargeparkref40_Link.mono _ _ _ _ _ _ _
      | exact LeO.none _
      | refine LeO.ite ?_ ?_
      | refine LeO.bind ?_ (fun _ => ?_)
set_option maxHeartbeats 8000000 in
set_option maxRecDepth 100000 in
theorem chargeparkref41_Sign.calls (k : Nat) (a0_0 : Int) (a0_1 : Int) (a0_2 : Int) (a0_3 : Int) (a0_4 : Int) (a0_5 : Int) (a0_6 : Int) (a0_7 : Int) (a0_8 : Int) (a0_9 : Int) (a0_10 : Int) (a0_11 : Int) (a0_12 : Int) (a1 : Int) (r : Int) (w : World) (h : chargeparkref41_Sign.f k a0_0 a0_1 a0_2 a0_3 a0_4 a0_5 a0_6 a0_7 a0_8 a0_9 a0_10 a0_11 a0_12 a1 = some r) :
    Calls Try.prog 21 #[.agg #[.int .i64 a0_0, .int .i64 a0_1, .int .i64 a0_2, .int .i64 a0_3, .int .i64 a0_4, .int .i64 a0_5, .int .i64 a0_6, .int .i64 a0_7, .int .i64 a0_8, .int .u64 a0_9, .int .u64 a0_10, .int .u64 a0_11, .int .u64 a0_12], .int .u64 a1] w fun e w' => e = .returned (.int .u64 r) ∧ Below w.heap.size w w' := by
  have hu25 := Try.underlying25
  have hu44 := Try.underlying44
  have HB := Aside0.mk (Below.refl w.heap.size w)
  have H : ((chargeparkref40_Link.f k a1 a0_0 a0_1 a0_2 a0_3 0).bind fun t164 => ((chargeparkref40_Link.f k t164 a0_4 a0_5 a0_6 a0_7 0).bind fun t165 => ((chargeparkref40_Link.f k t165 a0_8 0 0 0 0).bind fun t166 => (some t166)))) = some r := h
  clear h
  replace H := Option.bind_eq_some_iff.mp H
  obtain ⟨t164, A30, H⟩ := H
  replace H : ((chargeparkref40_Link.f k t164 a0_4 a0_5 a0_6 a0_7 0).bind fun t165 => ((chargeparkref40_Link.f k t165 a0_8 0 0 0 0).bind fun t166 => (some t166))) = some r := H
  have A3 := Aside0.mk A30
  clear A30
  replace H := Option.bind_eq_some_iff.mp H
  obtain ⟨t165, A40, H⟩ := H
  replace H : ((chargeparkref40_Link.f k t165 a0_8 0 0 0 0).bind fun t166 => (some t166)) = some r := H
  have A4 := Aside0.mk A40
  clear A40
  replace H := Option.bind_eq_some_iff.mp H
  obtain ⟨t166, A50, H⟩ := H
  replace H : (some t166) = some r := H
  have A5 := Aside0.mk A50
  clear A50
  obtain rfl := Option.some.inj H
  go_enter Try.func21, Try.ntmps21
  go_wp2_with (first | ((with_reducible refine gate_dst (N := 2) rfl ?_); refine box_event ?hg (N := 2) ?hd (cs := #[.int .i64 a0_0, .int .i64 a0_1, .int .i64 a0_2, .int .i64 a0_3, .int .i64 a0_4, .int .i64 a0_5, .int .i64 a0_6, .int .i64 a0_7, .int .i64 a0_8, .int .u64 a0_9, .int .u64 a0_10, .int .u64 a0_11, .int .u64 a0_12]) (t := 25) ?hr ?_; (case hd => rfl); (case hg => rfl); (case hr => first | (go_simp; done) | (go_simp; rfl)); intro gb163 hg w6 hbox hb; have n0_ := Aside0.mk (below_step (by repeat (first | (with_reducible first | exact HB.out | apply below_alloc | apply pw_below_drewN | apply below_drew1) | exact HB.out)) hb); have n1_ := Aside0.mk (hbox); have n2_ := Aside0.mk ((by rw [hg]; exact (below_size (by repeat (first | (with_reducible first | exact HB.out | apply below_alloc | apply pw_below_drewN | apply below_drew1) | exact HB.out))) : w.heap.size ≤ gb163)); have n3_ := Aside0.mk ((by rw [hg]; exact (below_size (by repeat (first | (with_reducible first | exact HB.out | apply below_alloc | apply pw_below_drewN | apply below_drew1) | exact HB.out))) : w.heap.size ≤ gb163)); clear HB; have HB := n0_; have BK163 := n1_; have GW163 := n2_; have GE163 := n3_; clear n0_ n1_ n2_ n3_; clear hb hbox hg; have hcz7_0 : w6.cell? ⟨gb163, 0, none⟩ = some (.int .i64 a0_0) := (blk_cell BK163.out 0).trans rfl; have hcz7_1 : w6.cell? ⟨gb163, 1, none⟩ = some (.int .i64 a0_1) := (blk_cell BK163.out 1).trans rfl; have hcz7_2 : w6.cell? ⟨gb163, 2, none⟩ = some (.int .i64 a0_2) := (blk_cell BK163.out 2).trans rfl; have hcz7_3 : w6.cell? ⟨gb163, 3, none⟩ = some (.int .i64 a0_3) := (blk_cell BK163.out 3).trans rfl; have hcz7_4 : w6.cell? ⟨gb163, 4, none⟩ = some (.int .i64 a0_4) := (blk_cell BK163.out 4).trans rfl; have hcz7_5 : w6.cell? ⟨gb163, 5, none⟩ = some (.int .i64 a0_5) := (blk_cell BK163.out 5).trans rfl; have hcz7_6 : w6.cell? ⟨gb163, 6, none⟩ = some (.int .i64 a0_6) := (blk_cell BK163.out 6).trans rfl; have hcz7_7 : w6.cell? ⟨gb163, 7, none⟩ = some (.int .i64 a0_7) := (blk_cell BK163.out 7).trans rfl; have hcz7_8 : w6.cell? ⟨gb163, 8, none⟩ = some (.int .i64 a0_8) := (blk_cell BK163.out 8).trans rfl; have hcz7_9 : w6.cell? ⟨gb163, 9, none⟩ = some (.int .u64 a0_9) := (blk_cell BK163.out 9).trans rfl; have hcz7_10 : w6.cell? ⟨gb163, 10, none⟩ = some (.int .u64 a0_10) := (blk_cell BK163.out 10).trans rfl; have hcz7_11 : w6.cell? ⟨gb163, 11, none⟩ = some (.int .u64 a0_11) := (blk_cell BK163.out 11).trans rfl; have hcz7_12 : w6.cell? ⟨gb163, 12, none⟩ = some (.int .u64 a0_12) := (blk_cell BK163.out 12).trans rfl; have hfz7_0 := blk_frozen BK163.out 0; have hfz7_1 := blk_frozen BK163.out 1; have hfz7_2 := blk_frozen BK163.out 2; have hfz7_3 := blk_frozen BK163.out 3; have hfz7_4 := blk_frozen BK163.out 4; have hfz7_5 := blk_frozen BK163.out 5; have hfz7_6 := blk_frozen BK163.out 6; have hfz7_7 := blk_frozen BK163.out 7; have hfz7_8 := blk_frozen BK163.out 8; have hfz7_9 := blk_frozen BK163.out 9; have hfz7_10 := blk_frozen BK163.out 10; have hfz7_11 := blk_frozen BK163.out 11; have hfz7_12 := blk_frozen BK163.out 12) | ((with_reducible refine gate_callee (f := 33) rfl ?_); refine goesL_ (some 16) rfl rfl Try.func33 (by kernel_rfl) rfl #[.int .u64 a1, .agg #[.int .i64 a0_0, .int .i64 a0_1, .int .i64 a0_2, .int .i64 a0_3, .int .u64 0]] rfl (by (try simp only [List.map_toArray, List.map_cons, List.map_nil]); first | done | rfl | (simp only [List.length_drop, List.length_take]; rfl)) ?_; (with_reducible refine (chargeparkref40_Link.calls k a1 a0_0 a0_1 a0_2 a0_3 0 t164 _ A3.out).mono ?_); rintro e w8 ⟨rfl, hb⟩; refine ⟨_, rfl, ?_⟩; have n0_ := Aside0.mk (blk_below (g := gb163) (o := .cells #[.int .i64 a0_0, .int .i64 a0_1, .int .i64 a0_2, .int .i64 a0_3, .int .i64 a0_4, .int .i64 a0_5, .int .i64 a0_6, .int .i64 a0_7, .int .i64 a0_8, .int .u64 a0_9, .int .u64 a0_10, .int .u64 a0_11, .int .u64 a0_12] 25 (0, 0)) (by (with_reducible repeat (first | refine blk_drewN ?_ _ | refine blk_drew ?_ | refine blk_alloc ?_ _)); exact BK163.out) hb); have n1_ := Aside0.mk (below_step (by repeat (first | (with_reducible first | exact HB.out | apply below_alloc | apply pw_below_drewN | apply below_drew1 | refine below_set ?_ GE163.out) | exact HB.out)) hb); clear BK163; clear HB; have BK163 := n0_; have HB := n1_; clear n0_ n1_; (try clear hb); (try clear hb2); (try clear hk); (try clear hi); have hcz9_0 : w8.cell? ⟨gb163, 0, none⟩ = some (.int .i64 a0_0) := (blk_cell BK163.out 0).trans rfl; have hcz9_1 : w8.cell? ⟨gb163, 1, none⟩ = some (.int .i64 a0_1) := (blk_cell BK163.out 1).trans rfl; have hcz9_2 : w8.cell? ⟨gb163, 2, none⟩ = some (.int .i64 a0_2) := (blk_cell BK163.out 2).trans rfl; have hcz9_3 : w8.cell? ⟨gb163, 3, none⟩ = some (.int .i64 a0_3) := (blk_cell BK163.out 3).trans rfl; have hcz9_4 : w8.cell? ⟨gb163, 4, none⟩ = some (.int .i64 a0_4) := (blk_cell BK163.out 4).trans rfl; have hcz9_5 : w8.cell? ⟨gb163, 5, none⟩ = some (.int .i64 a0_5) := (blk_cell BK163.out 5).trans rfl; have hcz9_6 : w8.cell? ⟨gb163, 6, none⟩ = some (.int .i64 a0_6) := (blk_cell BK163.out 6).trans rfl; have hcz9_7 : w8.cell? ⟨gb163, 7, none⟩ = some (.int .i64 a0_7) := (blk_cell BK163.out 7).trans rfl; have hcz9_8 : w8.cell? ⟨gb163, 8, none⟩ = some (.int .i64 a0_8) := (blk_cell BK163.out 8).trans rfl; have hcz9_9 : w8.cell? ⟨gb163, 9, none⟩ = some (.int .u64 a0_9) := (blk_cell BK163.out 9).trans rfl; have hcz9_10 : w8.cell? ⟨gb163, 10, none⟩ = some (.int .u64 a0_10) := (blk_cell BK163.out 10).trans rfl; have hcz9_11 : w8.cell? ⟨gb163, 11, none⟩ = some (.int .u64 a0_11) := (blk_cell BK163.out 11).trans rfl; have hcz9_12 : w8.cell? ⟨gb163, 12, none⟩ = some (.int .u64 a0_12) := (blk_cell BK163.out 12).trans rfl; have hfz9_0 := blk_frozen BK163.out 0; have hfz9_1 := blk_frozen BK163.out 1; have hfz9_2 := blk_frozen BK163.out 2; have hfz9_3 := blk_frozen BK163.out 3; have hfz9_4 := blk_frozen BK163.out 4; have hfz9_5 := blk_frozen BK163.out 5; have hfz9_6 := blk_frozen BK163.out 6; have hfz9_7 := blk_frozen BK163.out 7; have hfz9_8 := blk_frozen BK163.out 8; have hfz9_9 := blk_frozen BK163.out 9; have hfz9_10 := blk_frozen BK163.out 10; have hfz9_11 := blk_frozen BK163.out 11; have hfz9_12 := blk_frozen BK163.out 12) | ((with_reducible refine gate_callee (f := 33) rfl ?_); refine goesL_ (some 27) rfl rfl Try.func33 (by kernel_rfl) rfl #[.int .u64 t164, .agg #[.int .i64 a0_4, .int .i64 a0_5, .int .i64 a0_6, .int .i64 a0_7, .int .u64 0]] rfl (by (try simp only [List.map_toArray, List.map_cons, List.map_nil]); first | done | rfl | (simp only [List.length_drop, List.length_take]; rfl)) ?_; (with_reducible refine (chargeparkref40_Link.calls k t164 a0_4 a0_5 a0_6 a0_7 0 t165 _ A4.out).mono ?_); rintro e w10 ⟨rfl, hb⟩; refine ⟨_, rfl, ?_⟩; have n0_ := Aside0.mk (blk_below (g := gb163) (o := .cells #[.int .i64 a0_0, .int .i64 a0_1, .int .i64 a0_2, .int .i64 a0_3, .int .i64 a0_4, .int .i64 a0_5, .int .i64 a0_6, .int .i64 a0_7, .int .i64 a0_8, .int .u64 a0_9, .int .u64 a0_10, .int .u64 a0_11, .int .u64 a0_12] 25 (0, 0)) (by (with_reducible repeat (first | refine blk_drewN ?_ _ | refine blk_drew ?_ | refine blk_alloc ?_ _)); exact BK163.out) hb); have n1_ := Aside0.mk (below_step (by repeat (first | (with_reducible first | exact HB.out | apply below_alloc | apply pw_below_drewN | apply below_drew1 | refine below_set ?_ GE163.out) | exact HB.out)) hb); clear BK163; clear HB; have BK163 := n0_; have HB := n1_; clear n0_ n1_; (try clear hb); (try clear hb2); (try clear hk); (try clear hi); have hcz11_0 : w10.cell? ⟨gb163, 0, none⟩ = some (.int .i64 a0_0) := (blk_cell BK163.out 0).trans rfl; have hcz11_1 : w10.cell? ⟨gb163, 1, none⟩ = some (.int .i64 a0_1) := (blk_cell BK163.out 1).trans rfl; have hcz11_2 : w10.cell? ⟨gb163, 2, none⟩ = some (.int .i64 a0_2) := (blk_cell BK163.out 2).trans rfl; have hcz11_3 : w10.cell? ⟨gb163, 3, none⟩ = some (.int .i64 a0_3) := (blk_cell BK163.out 3).trans rfl; have hcz11_4 : w10.cell? ⟨gb163, 4, none⟩ = some (.int .i64 a0_4) := (blk_cell BK163.out 4).trans rfl; have hcz11_5 : w10.cell? ⟨gb163, 5, none⟩ = some (.int .i64 a0_5) := (blk_cell BK163.out 5).trans rfl; have hcz11_6 : w10.cell? ⟨gb163, 6, none⟩ = some (.int .i64 a0_6) := (blk_cell BK163.out 6).trans rfl; have hcz11_7 : w10.cell? ⟨gb163, 7, none⟩ = some (.int .i64 a0_7) := (blk_cell BK163.out 7).trans rfl; have hcz11_8 : w10.cell? ⟨gb163, 8, none⟩ = some (.int .i64 a0_8) := (blk_cell BK163.out 8).trans rfl; have hcz11_9 : w10.cell? ⟨gb163, 9, none⟩ = some (.int .u64 a0_9) := (blk_cell BK163.out 9).trans rfl; have hcz11_10 : w10.cell? ⟨gb163, 10, none⟩ = some (.int .u64 a0_10) := (blk_cell BK163.out 10).trans rfl; have hcz11_11 : w10.cell? ⟨gb163, 11, none⟩ = some (.int .u64 a0_11) := (blk_cell BK163.out 11).trans rfl; have hcz11_12 : w10.cell? ⟨gb163, 12, none⟩ = some (.int .u64 a0_12) := (blk_cell BK163.out 12).trans rfl; have hfz11_0 := blk_frozen BK163.out 0; have hfz11_1 := blk_frozen BK163.out 1; have hfz11_2 := blk_frozen BK163.out 2; have hfz11_3 := blk_frozen BK163.out 3; have hfz11_4 := blk_frozen BK163.out 4; have hfz11_5 := blk_frozen BK163.out 5; have hfz11_6 := blk_frozen BK163.out 6; have hfz11_7 := blk_frozen BK163.out 7; have hfz11_8 := blk_frozen BK163.out 8; have hfz11_9 := blk_frozen BK163.out 9; have hfz11_10 := blk_frozen BK163.out 10; have hfz11_11 := blk_frozen BK163.out 11; have hfz11_12 := blk_frozen BK163.out 12) | ((with_reducible refine gate_callee (f := 33) rfl ?_); refine goesL_ (some 32) rfl rfl Try.func33 (by kernel_rfl) rfl #[.int .u64 t165, .agg #[.int .i64 a0_8, .int .i64 0, .int .i64 0, .int .i64 0, .int .u64 0]] rfl (by (try simp only [List.map_toArray, List.map_cons, List.map_nil]); first | done | rfl | (simp only [List.length_drop, List.length_take]; rfl)) ?_; (with_reducible refine (chargeparkref40_Link.calls k t165 a0_8 0 0 0 0 t166 _ A5.out).mono ?_); rintro e w12 ⟨rfl, hb⟩; refine ⟨_, rfl, ?_⟩; have n0_ := Aside0.mk (blk_below (g := gb163) (o := .cells #[.int .i64 a0_0, .int .i64 a0_1, .int .i64 a0_2, .int .i64 a0_3, .int .i64 a0_4, .int .i64 a0_5, .int .i64 a0_6, .int .i64 a0_7, .int .i64 a0_8, .int .u64 a0_9, .int .u64 a0_10, .int .u64 a0_11, .int .u64 a0_12] 25 (0, 0)) (by (with_reducible repeat (first | refine blk_drewN ?_ _ | refine blk_drew ?_ | refine blk_alloc ?_ _)); exact BK163.out) hb); have n1_ := Aside0.mk (below_step (by repeat (first | (with_reducible first | exact HB.out | apply below_alloc | apply pw_below_drewN | apply below_drew1 | refine below_set ?_ GE163.out) | exact HB.out)) hb); clear BK163; clear HB; have BK163 := n0_; have HB := n1_; clear n0_ n1_; (try clear hb); (try clear hb2); (try clear hk); (try clear hi)))
  go_ret
  exact ⟨by first | rfl | (simp [errW_none, errW_some] <;> rfl) | (simp [*, errW_none, errW_some] <;> rfl), by repeat (first | (with_reducible first | exact HB.out | apply below_alloc | apply pw_below_drewN | apply below_drew1 | refine below_set ?_ GE163.out) | exact HB.out)⟩

end Go.Proofs.Ytenkffjlpdappaa.Pr
