-- Printed by hprint.py (a program of this claim's session over the kit's printer).
import Derived.Test.YtbkkgaiokmnmgaaPrx0
import Derived.Test.YtbkkgaiokmnmgaaHShort
namespace Go.Proofs.Ytbkkgaiokmnmgaa.Pr
open Go.RowKit Go.Proofs.YtbkkgaiokmnmgaaW.PrintWords Go.Proofs.YtbkkgaiokmnmgaaW.PrintLast Go.Proofs.YtbkkgaiokmnmgaaW.PrintMore
attribute [local go_sem] max2_int min2_int max_two min_two max_three min_three max_four min_four   -- for this text's walks alone
set_option linter.unusedVariables false
set_option linter.unusedSimpArgs false

/-! ### chargeparkref26_Few: function 56 -/
def chargeparkref26_Few.f (a0_0 : Int) (l0_1 : List (S99)) (l0_2 : List Int) : Option (Bool) := if (l0_1.length : Int) ≤ 30 then (some (decide ((l0_2.length : Int) ≤ 60))) else (some false)
set_option maxHeartbeats 8000000 in
set_option maxRecDepth 100000 in
theorem chargeparkref26_Few.calls (a0_0 : Int) (A0_1 : Option Addr) (c0_1 : Nat) (l0_1 : List (S99)) (A0_2 : Option Addr) (c0_2 : Nat) (l0_2 : List Int) (r : Bool) (w : World) (hr0_1 : Kd.C k99 w A0_1 l0_1.length l0_1) (hc0_1 : l0_1.length ≤ c0_1) (hr0_2 : Kd.C (Kd.int .i64) w A0_2 l0_2.length l0_2) (hc0_2 : l0_2.length ≤ c0_2) (h : chargeparkref26_Few.f a0_0 l0_1 l0_2 = some r) :
  Calls Try.prog 56 #[.agg #[.int .i64 a0_0, .slice A0_1 l0_1.length c0_1, .slice A0_2 l0_2.length c0_2]] w fun e w' => e = .returned (.bool r) ∧ Below w.heap.size w w' := by
 have hu30 := Try.underlying30
 have HR0_1 := Aside0.mk hr0_1
 have HC0_1 := Aside0.mk hc0_1
 clear hr0_1 hc0_1
 have HR0_2 := Aside0.mk hr0_2
 have HC0_2 := Aside0.mk hc0_2
 clear hr0_2 hc0_2
 have HB := Aside0.mk (Below.refl w.heap.size w)
 have H : (if (l0_1.length : Int) ≤ 30 then (some (decide ((l0_2.length : Int) ≤ 60))) else (some false)) = some r := h
 clear h
 by_cases c2 : (l0_1.length : Int) ≤ 30
 ·rw [if_pos c2] at H
  have c2b0 : decide ((l0_1.length : Int) ≤ 30) = true := decide_eq_true c2
  have c2b1 : decide (l0_1.length ≤ 30) = true := decide_eq_true (by omega)
  clear c2
  obtain rfl := Option.some.inj H
  go_enter Try.func56, Try.ntmps56
  go_wp2_with (first | ((with_reducible refine gate_dst (N := 1) rfl ?_); (try (refine gate_guard (by rfl) ?_; dsimp only)); refine box_event ?hg (N := 1) ?hd (cs := #[.int .i64 a0_0, .slice A0_1 l0_1.length c0_1, .slice A0_2 l0_2.length c0_2]) (t := 30) ?hr ?_; (case hd => rfl); (case hg => rfl); (case hr => first | (go_simp; done) | (go_simp; rfl)); intro gb292 hg w3 hbox hb; have n0_ := Aside0.mk (below_step (hb_ HB) hb); have n1_ := Aside0.mk (hbox); have n2_ := Aside0.mk ((by rw [hg]; exact (below_size (hb_ HB)) : w.heap.size ≤ gb292)); have n3_ := Aside0.mk ((by rw [hg]; exact (below_size (hb_ HB)) : w.heap.size ≤ gb292)); clear HB; have HB := n0_; have BK292 := n1_; have GW292 := n2_; have GE292 := n3_; clear n0_ n1_ n2_ n3_; clear hb hbox hg; have hcz4_0 : w3.cell? ⟨gb292, 0, none⟩ = some (.int .i64 a0_0) := bc_ BK292 0; have hcz4_1 : w3.cell? ⟨gb292, 1, none⟩ = some (.slice A0_1 l0_1.length c0_1) := bc_ BK292 1; have hcz4_2 : w3.cell? ⟨gb292, 2, none⟩ = some (.slice A0_2 l0_2.length c0_2) := bc_ BK292 2; have hfz4_0 := blk_frozen BK292.out 0; have hfz4_1 := blk_frozen BK292.out 1; have hfz4_2 := blk_frozen BK292.out 2))
  go_ret
  exact ⟨by first | rfl | (simp [errW_none, errW_some] <;> rfl) | (simp [*, errW_none, errW_some] <;> rfl), by repeat (first | (with_reducible first | exact HB.out | apply below_alloc | apply pw_below_drewN | apply below_drew1 | refine below_set ?_ GE292.out) | exact HB.out)⟩
 ·rw [if_neg c2] at H
  have c2b0 : decide ((l0_1.length : Int) ≤ 30) = false := decide_eq_false c2
  have c2b1 : decide (l0_1.length ≤ 30) = false := decide_eq_false (by omega)
  clear c2
  obtain rfl := Option.some.inj H
  go_enter Try.func56, Try.ntmps56
  go_wp2_with (first | ((with_reducible refine gate_dst (N := 1) rfl ?_); (try (refine gate_guard (by rfl) ?_; dsimp only)); refine box_event ?hg (N := 1) ?hd (cs := #[.int .i64 a0_0, .slice A0_1 l0_1.length c0_1, .slice A0_2 l0_2.length c0_2]) (t := 30) ?hr ?_; (case hd => rfl); (case hg => rfl); (case hr => first | (go_simp; done) | (go_simp; rfl)); intro gb292 hg w5 hbox hb; have n0_ := Aside0.mk (below_step (hb_ HB) hb); have n1_ := Aside0.mk (hbox); have n2_ := Aside0.mk ((by rw [hg]; exact (below_size (hb_ HB)) : w.heap.size ≤ gb292)); have n3_ := Aside0.mk ((by rw [hg]; exact (below_size (hb_ HB)) : w.heap.size ≤ gb292)); clear HB; have HB := n0_; have BK292 := n1_; have GW292 := n2_; have GE292 := n3_; clear n0_ n1_ n2_ n3_; clear hb hbox hg; have hcz6_0 : w5.cell? ⟨gb292, 0, none⟩ = some (.int .i64 a0_0) := bc_ BK292 0; have hcz6_1 : w5.cell? ⟨gb292, 1, none⟩ = some (.slice A0_1 l0_1.length c0_1) := bc_ BK292 1; have hcz6_2 : w5.cell? ⟨gb292, 2, none⟩ = some (.slice A0_2 l0_2.length c0_2) := bc_ BK292 2; have hfz6_0 := blk_frozen BK292.out 0; have hfz6_1 := blk_frozen BK292.out 1; have hfz6_2 := blk_frozen BK292.out 2))
  go_ret
  exact ⟨by first | rfl | (simp [errW_none, errW_some] <;> rfl) | (simp [*, errW_none, errW_some] <;> rfl), by repeat (first | (with_reducible first | exact HB.out | apply below_alloc | apply pw_below_drewN | apply below_drew1 | refine below_set ?_ GE292.out) | exact HB.out)⟩

/-! ### chargeparkref33_Few: function 26 -/
def chargeparkref33_Few.f (a0_0 : ByteArray) (l0_1 : List (S26)) (a1_0 : Int) (l1_1 : List (S99)) (l1_2 : List Int) (a2_0 : Int) (a2_1 : Int) (a2_2 : Int) (l2_3 : List (S50)) : Option (Bool) := (chargeparkref26_Few.f a1_0 l1_1 l1_2).bind fun t296 => (if t296 = true then (if (a0_0.size : Int) ≤ 50 then (if (l0_1.length : Int) ≤ 20 then (some (decide ((l2_3.length : Int) ≤ 60))) else (some false)) else (some false)) else (some false))
set_option maxHeartbeats 8000000 in
set_option maxRecDepth 100000 in
theorem chargeparkref33_Few.calls (a0_0 : ByteArray) (A0_1 : Option Addr) (c0_1 : Nat) (l0_1 : List (S26)) (a1_0 : Int) (A1_1 : Option Addr) (c1_1 : Nat) (l1_1 : List (S99)) (A1_2 : Option Addr) (c1_2 : Nat) (l1_2 : List Int) (a2_0 : Int) (a2_1 : Int) (a2_2 : Int) (A2_3 : Option Addr) (c2_3 : Nat) (l2_3 : List (S50)) (r : Bool) (w : World) (hr0_1 : Kd.C k26 w A0_1 l0_1.length l0_1) (hc0_1 : l0_1.length ≤ c0_1) (hr1_1 : Kd.C k99 w A1_1 l1_1.length l1_1) (hc1_1 : l1_1.length ≤ c1_1) (hr1_2 : Kd.C (Kd.int .i64) w A1_2 l1_2.length l1_2) (hc1_2 : l1_2.length ≤ c1_2) (hr2_3 : Kd.C k50 w A2_3 l2_3.length l2_3) (hc2_3 : l2_3.length ≤ c2_3) (h : chargeparkref33_Few.f a0_0 l0_1 a1_0 l1_1 l1_2 a2_0 a2_1 a2_2 l2_3 = some r) :
  Calls Try.prog 26 #[.agg #[.string a0_0, .slice A0_1 l0_1.length c0_1], .agg #[.int .i64 a1_0, .slice A1_1 l1_1.length c1_1, .slice A1_2 l1_2.length c1_2], .agg #[.int .i64 a2_0, .int .i64 a2_1, .int .i64 a2_2, .slice A2_3 l2_3.length c2_3]] w fun e w' => e = .returned (.bool r) ∧ Below w.heap.size w w' := by
 have hu24 := Try.underlying24
 have hu30 := Try.underlying30
 have hu33 := Try.underlying33
 have HR0_1 := Aside0.mk hr0_1
 have HC0_1 := Aside0.mk hc0_1
 clear hr0_1 hc0_1
 have HR1_1 := Aside0.mk hr1_1
 have HC1_1 := Aside0.mk hc1_1
 clear hr1_1 hc1_1
 have HR1_2 := Aside0.mk hr1_2
 have HC1_2 := Aside0.mk hc1_2
 clear hr1_2 hc1_2
 have HR2_3 := Aside0.mk hr2_3
 have HC2_3 := Aside0.mk hc2_3
 clear hr2_3 hc2_3
 have HB := Aside0.mk (Below.refl w.heap.size w)
 have H : ((chargeparkref26_Few.f a1_0 l1_1 l1_2).bind fun t296 => (if t296 = true then (if (a0_0.size : Int) ≤ 50 then (if (l0_1.length : Int) ≤ 20 then (some (decide ((l2_3.length : Int) ≤ 60))) else (some false)) else (some false)) else (some false))) = some r := h
 clear h
 replace H := Option.bind_eq_some_iff.mp H
 obtain ⟨t296, A40, H⟩ := H
 replace H : (if t296 = true then (if (a0_0.size : Int) ≤ 50 then (if (l0_1.length : Int) ≤ 20 then (some (decide ((l2_3.length : Int) ≤ 60))) else (some false)) else (some false)) else (some false)) = some r := H
 have A4 := Aside0.mk A40
 clear A40
 by_cases c5 : t296 = true
 ·subst c5
  have H1 : (if (a0_0.size : Int) ≤ 50 then (if (l0_1.length : Int) ≤ 20 then (some (decide ((l2_3.length : Int) ≤ 60))) else (some false)) else (some false)) = some r := by rw [if_pos rfl] at H; exact H
  clear H
  have H := H1
  clear H1
  by_cases c6 : (a0_0.size : Int) ≤ 50
  ·rw [if_pos c6] at H
   have c6b0 : decide ((a0_0.size : Int) ≤ 50) = true := decide_eq_true c6
   have c6b1 : decide (a0_0.size ≤ 50) = true := decide_eq_true (by omega)
   clear c6
   by_cases c7 : (l0_1.length : Int) ≤ 20
   ·rw [if_pos c7] at H
    have c7b0 : decide ((l0_1.length : Int) ≤ 20) = true := decide_eq_true c7
    have c7b1 : decide (l0_1.length ≤ 20) = true := decide_eq_true (by omega)
    clear c7
    obtain rfl := Option.some.inj H
    go_enter Try.func26, Try.ntmps26
    go_wp2_with (first | ((with_reducible refine gate_dst (N := 3) rfl ?_); (try (refine gate_guard (by rfl) ?_; dsimp only)); refine box_event ?hg (N := 3) ?hd (cs := #[.string a0_0, .slice A0_1 l0_1.length c0_1]) (t := 24) ?hr ?_; (case hd => rfl); (case hg => rfl); (case hr => first | (go_simp; done) | (go_simp; rfl)); intro gb293 hg w8 hbox hb; have n0_ := Aside0.mk (below_step (hb_ HB) hb); have n1_ := Aside0.mk (hbox); have n2_ := Aside0.mk ((by rw [hg]; exact (below_size (hb_ HB)) : w.heap.size ≤ gb293)); have n3_ := Aside0.mk ((by rw [hg]; exact (below_size (hb_ HB)) : w.heap.size ≤ gb293)); clear HB; have HB := n0_; have BK293 := n1_; have GW293 := n2_; have GE293 := n3_; clear n0_ n1_ n2_ n3_; clear hb hbox hg) | ((with_reducible refine gate_dst (N := 4) rfl ?_); (try (refine gate_guard (by rfl) ?_; dsimp only)); refine box_event ?hg (N := 4) ?hd (cs := #[.int .i64 a1_0, .slice A1_1 l1_1.length c1_1, .slice A1_2 l1_2.length c1_2]) (t := 30) ?hr ?_; (case hd => rfl); (case hg => rfl); (case hr => first | (go_simp; done) | (go_simp; rfl)); intro gb294 hg w9 hbox hb; have n0_ := (bb_ BK293 hb); have n1_ := Aside0.mk (below_step (hb_ HB) hb); have n2_ := Aside0.mk (hbox); have n3_ := Aside0.mk ((by rw [hg]; exact (below_size (hb_ HB)) : w.heap.size ≤ gb294)); have n4_ := Aside0.mk ((by rw [hg]; exact (below_size (hb_ HB)) : w.heap.size ≤ gb294)); have n5_ := (nlt_ BK293 hg); have n6_ := (ngt_ BK293 hg); clear BK293; clear HB; have BK293 := n0_; have HB := n1_; have BK294 := n2_; have GW294 := n3_; have GE294 := n4_; have NB293_294 := n5_; have NB294_293 := n6_; clear n0_ n1_ n2_ n3_ n4_ n5_ n6_; clear hb hbox hg) | ((with_reducible refine gate_dst (N := 5) rfl ?_); (try (refine gate_guard (by rfl) ?_; dsimp only)); refine box_event ?hg (N := 5) ?hd (cs := #[.int .i64 a2_0, .int .i64 a2_1, .int .i64 a2_2, .slice A2_3 l2_3.length c2_3]) (t := 33) ?hr ?_; (case hd => rfl); (case hg => rfl); (case hr => first | (go_simp; done) | (go_simp; rfl)); intro gb295 hg w10 hbox hb; have n0_ := (bb_ BK293 hb); have n1_ := (bb_ BK294 hb); have n2_ := Aside0.mk (below_step (hb_ HB) hb); have n3_ := Aside0.mk (hbox); have n4_ := Aside0.mk ((by rw [hg]; exact (below_size (hb_ HB)) : w.heap.size ≤ gb295)); have n5_ := Aside0.mk ((by rw [hg]; exact (below_size (hb_ HB)) : w.heap.size ≤ gb295)); have n6_ := (nlt_ BK293 hg); have n7_ := (ngt_ BK293 hg); have n8_ := (nlt_ BK294 hg); have n9_ := (ngt_ BK294 hg); clear BK293; clear BK294; clear HB; have BK293 := n0_; have BK294 := n1_; have HB := n2_; have BK295 := n3_; have GW295 := n4_; have GE295 := n5_; have NB293_295 := n6_; have NB295_293 := n7_; have NB294_295 := n8_; have NB295_294 := n9_; clear n0_ n1_ n2_ n3_ n4_ n5_ n6_ n7_ n8_ n9_; clear hb hbox hg; have hnb11 := NB294_293.out; have hnc11 := NB293_294.out; have hnb12 := NB294_295.out; have hnc12 := NB295_294.out; have hcz13_0 : w10.cell? ⟨gb294, 0, none⟩ = some (.int .i64 a1_0) := bc_ BK294 0; have hcz13_1 : w10.cell? ⟨gb294, 1, none⟩ = some (.slice A1_1 l1_1.length c1_1) := bc_ BK294 1; have hcz13_2 : w10.cell? ⟨gb294, 2, none⟩ = some (.slice A1_2 l1_2.length c1_2) := bc_ BK294 2; have hfz13_0 := blk_frozen BK294.out 0; have hfz13_1 := blk_frozen BK294.out 1; have hfz13_2 := blk_frozen BK294.out 2) | ((with_reducible refine gate_callee (f := 56) rfl ?_); refine goesL_ (some 9) rfl rfl Try.func56 (by kernel_rfl) rfl #[.agg #[.int .i64 a1_0, .slice A1_1 l1_1.length c1_1, .slice A1_2 l1_2.length c1_2]] rfl mp_ ?_; (with_reducible refine (chargeparkref26_Few.calls a1_0 _ _ l1_1 _ _ l1_2 true _ ?side1 ?side2 ?side3 ?side4 A4.out).mono ?_); (case side1 => repeat (first | exact (Kd.C_below HR1_1.out HB.out) | (with_reducible refine Kd.C_alloc ?_ _) | (with_reducible refine Kd.C_drewN ?_ _) | (with_reducible refine Kd.C_drew ?_))); (case side2 => exact HC1_1.out); (case side3 => repeat (first | exact (Kd.C_below HR1_2.out HB.out) | (with_reducible refine Kd.C_alloc ?_ _) | (with_reducible refine Kd.C_drewN ?_ _) | (with_reducible refine Kd.C_drew ?_))); (case side4 => exact HC1_2.out); rintro e w14 ⟨rfl, hb⟩; refine ⟨_, rfl, ?_⟩; have n0_ := (bb_ BK293 hb); have n1_ := (bb_ BK294 hb); have n2_ := (bb_ BK295 hb); have n3_ := Aside0.mk (below_step (hb_ HB) hb); clear BK293; clear BK294; clear BK295; clear HB; have BK293 := n0_; have BK294 := n1_; have BK295 := n2_; have HB := n3_; clear n0_ n1_ n2_ n3_; (try clear hb); (try clear hb2); (try clear hk); (try clear hi); have hnb15 := NB293_295.out; have hnc15 := NB295_293.out; have hcz16_0 : w14.cell? ⟨gb293, 0, none⟩ = some (.string a0_0) := bc_ BK293 0; have hcz16_1 : w14.cell? ⟨gb293, 1, none⟩ = some (.slice A0_1 l0_1.length c0_1) := bc_ BK293 1; have hfz16_0 := blk_frozen BK293.out 0; have hfz16_1 := blk_frozen BK293.out 1; have hcz17_0 : w14.cell? ⟨gb295, 0, none⟩ = some (.int .i64 a2_0) := bc_ BK295 0; have hcz17_1 : w14.cell? ⟨gb295, 1, none⟩ = some (.int .i64 a2_1) := bc_ BK295 1; have hcz17_2 : w14.cell? ⟨gb295, 2, none⟩ = some (.int .i64 a2_2) := bc_ BK295 2; have hcz17_3 : w14.cell? ⟨gb295, 3, none⟩ = some (.slice A2_3 l2_3.length c2_3) := bc_ BK295 3; have hfz17_0 := blk_frozen BK295.out 0; have hfz17_1 := blk_frozen BK295.out 1; have hfz17_2 := blk_frozen BK295.out 2; have hfz17_3 := blk_frozen BK295.out 3))
    go_ret
    exact ⟨by first | rfl | (simp [errW_none, errW_some] <;> rfl) | (simp [*, errW_none, errW_some] <;> rfl), by repeat (first | (with_reducible first | exact HB.out | apply below_alloc | apply pw_below_drewN | apply below_drew1 | refine below_set ?_ GE293.out | refine below_set ?_ GE294.out | refine below_set ?_ GE295.out) | exact HB.out)⟩
   ·rw [if_neg c7] at H
    have c7b0 : decide ((l0_1.length : Int) ≤ 20) = false := decide_eq_false c7
    have c7b1 : decide (l0_1.length ≤ 20) = false := decide_eq_false (by omega)
    clear c7
    obtain rfl := Option.some.inj H
    go_enter Try.func26, Try.ntmps26
    go_wp2_with (first | ((with_reducible refine gate_dst (N := 3) rfl ?_); (try (refine gate_guard (by rfl) ?_; dsimp only)); refine box_event ?hg (N := 3) ?hd (cs := #[.string a0_0, .slice A0_1 l0_1.length c0_1]) (t := 24) ?hr ?_; (case hd => rfl); (case hg => rfl); (case hr => first | (go_simp; done) | (go_simp; rfl)); intro gb293 hg w18 hbox hb; have n0_ := Aside0.mk (below_step (hb_ HB) hb); have n1_ := Aside0.mk (hbox); have n2_ := Aside0.mk ((by rw [hg]; exact (below_size (hb_ HB)) : w.heap.size ≤ gb293)); have n3_ := Aside0.mk ((by rw [hg]; exact (below_size (hb_ HB)) : w.heap.size ≤ gb293)); clear HB; have HB := n0_; have BK293 := n1_; have GW293 := n2_; have GE293 := n3_; clear n0_ n1_ n2_ n3_; clear hb hbox hg) | ((with_reducible refine gate_dst (N := 4) rfl ?_); (try (refine gate_guard (by rfl) ?_; dsimp only)); refine box_event ?hg (N := 4) ?hd (cs := #[.int .i64 a1_0, .slice A1_1 l1_1.length c1_1, .slice A1_2 l1_2.length c1_2]) (t := 30) ?hr ?_; (case hd => rfl); (case hg => rfl); (case hr => first | (go_simp; done) | (go_simp; rfl)); intro gb294 hg w19 hbox hb; have n0_ := (bb_ BK293 hb); have n1_ := Aside0.mk (below_step (hb_ HB) hb); have n2_ := Aside0.mk (hbox); have n3_ := Aside0.mk ((by rw [hg]; exact (below_size (hb_ HB)) : w.heap.size ≤ gb294)); have n4_ := Aside0.mk ((by rw [hg]; exact (below_size (hb_ HB)) : w.heap.size ≤ gb294)); have n5_ := (nlt_ BK293 hg); have n6_ := (ngt_ BK293 hg); clear BK293; clear HB; have BK293 := n0_; have HB := n1_; have BK294 := n2_; have GW294 := n3_; have GE294 := n4_; have NB293_294 := n5_; have NB294_293 := n6_; clear n0_ n1_ n2_ n3_ n4_ n5_ n6_; clear hb hbox hg) | ((with_reducible refine gate_dst (N := 5) rfl ?_); (try (refine gate_guard (by rfl) ?_; dsimp only)); refine box_event ?hg (N := 5) ?hd (cs := #[.int .i64 a2_0, .int .i64 a2_1, .int .i64 a2_2, .slice A2_3 l2_3.length c2_3]) (t := 33) ?hr ?_; (case hd => rfl); (case hg => rfl); (case hr => first | (go_simp; done) | (go_simp; rfl)); intro gb295 hg w20 hbox hb; have n0_ := (bb_ BK293 hb); have n1_ := (bb_ BK294 hb); have n2_ := Aside0.mk (below_step (hb_ HB) hb); have n3_ := Aside0.mk (hbox); have n4_ := Aside0.mk ((by rw [hg]; exact (below_size (hb_ HB)) : w.heap.size ≤ gb295)); have n5_ := Aside0.mk ((by rw [hg]; exact (below_size (hb_ HB)) : w.heap.size ≤ gb295)); have n6_ := (nlt_ BK293 hg); have n7_ := (ngt_ BK293 hg); have n8_ := (nlt_ BK294 hg); have n9_ := (ngt_ BK294 hg); clear BK293; clear BK294; clear HB; have BK293 := n0_; have BK294 := n1_; have HB := n2_; have BK295 := n3_; have GW295 := n4_; have GE295 := n5_; have NB293_295 := n6_; have NB295_293 := n7_; have NB294_295 := n8_; have NB295_294 := n9_; clear n0_ n1_ n2_ n3_ n4_ n5_ n6_ n7_ n8_ n9_; clear hb hbox hg; have hnb21 := NB294_293.out; have hnc21 := NB293_294.out; have hnb22 := NB294_295.out; have hnc22 := NB295_294.out; have hcz23_0 : w20.cell? ⟨gb294, 0, none⟩ = some (.int .i64 a1_0) := bc_ BK294 0; have hcz23_1 : w20.cell? ⟨gb294, 1, none⟩ = some (.slice A1_1 l1_1.length c1_1) := bc_ BK294 1; have hcz23_2 : w20.cell? ⟨gb294, 2, none⟩ = some (.slice A1_2 l1_2.length c1_2) := bc_ BK294 2; have hfz23_0 := blk_frozen BK294.out 0; have hfz23_1 := blk_frozen BK294.out 1; have hfz23_2 := blk_frozen BK294.out 2) | ((with_reducible refine gate_callee (f := 56) rfl ?_); refine goesL_ (some 9) rfl rfl Try.func56 (by kernel_rfl) rfl #[.agg #[.int .i64 a1_0, .slice A1_1 l1_1.length c1_1, .slice A1_2 l1_2.length c1_2]] rfl mp_ ?_; (with_reducible refine (chargeparkref26_Few.calls a1_0 _ _ l1_1 _ _ l1_2 true _ ?side1 ?side2 ?side3 ?side4 A4.out).mono ?_); (case side1 => repeat (first | exact (Kd.C_below HR1_1.out HB.out) | (with_reducible refine Kd.C_alloc ?_ _) | (with_reducible refine Kd.C_drewN ?_ _) | (with_reducible refine Kd.C_drew ?_))); (case side2 => exact HC1_1.out); (case side3 => repeat (first | exact (Kd.C_below HR1_2.out HB.out) | (with_reducible refine Kd.C_alloc ?_ _) | (with_reducible refine Kd.C_drewN ?_ _) | (with_reducible refine Kd.C_drew ?_))); (case side4 => exact HC1_2.out); rintro e w24 ⟨rfl, hb⟩; refine ⟨_, rfl, ?_⟩; have n0_ := (bb_ BK293 hb); have n1_ := (bb_ BK294 hb); have n2_ := (bb_ BK295 hb); have n3_ := Aside0.mk (below_step (hb_ HB) hb); clear BK293; clear BK294; clear BK295; clear HB; have BK293 := n0_; have BK294 := n1_; have BK295 := n2_; have HB := n3_; clear n0_ n1_ n2_ n3_; (try clear hb); (try clear hb2); (try clear hk); (try clear hi); have hnb25 := NB293_295.out; have hnc25 := NB295_293.out; have hcz26_0 : w24.cell? ⟨gb293, 0, none⟩ = some (.string a0_0) := bc_ BK293 0; have hcz26_1 : w24.cell? ⟨gb293, 1, none⟩ = some (.slice A0_1 l0_1.length c0_1) := bc_ BK293 1; have hfz26_0 := blk_frozen BK293.out 0; have hfz26_1 := blk_frozen BK293.out 1))
    go_ret
    exact ⟨by first | rfl | (simp [errW_none, errW_some] <;> rfl) | (simp [*, errW_none, errW_some] <;> rfl), by repeat (first | (with_reducible first | exact HB.out | apply below_alloc | apply pw_below_drewN | apply below_drew1 | refine below_set ?_ GE293.out | refine below_set ?_ GE294.out | refine below_set ?_ GE295.out) | exact HB.out)⟩
  ·rw [if_neg c6] at H
   have c6b0 : decide ((a0_0.size : Int) ≤ 50) = false := decide_eq_false c6
   have c6b1 : decide (a0_0.size ≤ 50) = false := decide_eq_false (by omega)
   clear c6
   obtain rfl := Option.some.inj H
   go_enter Try.func26, Try.ntmps26
   go_wp2_with (first | ((with_reducible refine gate_dst (N := 3) rfl ?_); (try (refine gate_guard (by rfl) ?_; dsimp only)); refine box_event ?hg (N := 3) ?hd (cs := #[.string a0_0, .slice A0_1 l0_1.length c0_1]) (t := 24) ?hr ?_; (case hd => rfl); (case hg => rfl); (case hr => first | (go_simp; done) | (go_simp; rfl)); intro gb293 hg w27 hbox hb; have n0_ := Aside0.mk (below_step (hb_ HB) hb); have n1_ := Aside0.mk (hbox); have n2_ := Aside0.mk ((by rw [hg]; exact (below_size (hb_ HB)) : w.heap.size ≤ gb293)); have n3_ := Aside0.mk ((by rw [hg]; exact (below_size (hb_ HB)) : w.heap.size ≤ gb293)); clear HB; have HB := n0_; have BK293 := n1_; have GW293 := n2_; have GE293 := n3_; clear n0_ n1_ n2_ n3_; clear hb hbox hg) | ((with_reducible refine gate_dst (N := 4) rfl ?_); (try (refine gate_guard (by rfl) ?_; dsimp only)); refine box_event ?hg (N := 4) ?hd (cs := #[.int .i64 a1_0, .slice A1_1 l1_1.length c1_1, .slice A1_2 l1_2.length c1_2]) (t := 30) ?hr ?_; (case hd => rfl); (case hg => rfl); (case hr => first | (go_simp; done) | (go_simp; rfl)); intro gb294 hg w28 hbox hb; have n0_ := (bb_ BK293 hb); have n1_ := Aside0.mk (below_step (hb_ HB) hb); have n2_ := Aside0.mk (hbox); have n3_ := Aside0.mk ((by rw [hg]; exact (below_size (hb_ HB)) : w.heap.size ≤ gb294)); have n4_ := Aside0.mk ((by rw [hg]; exact (below_size (hb_ HB)) : w.heap.size ≤ gb294)); have n5_ := (nlt_ BK293 hg); have n6_ := (ngt_ BK293 hg); clear BK293; clear HB; have BK293 := n0_; have HB := n1_; have BK294 := n2_; have GW294 := n3_; have GE294 := n4_; have NB293_294 := n5_; have NB294_293 := n6_; clear n0_ n1_ n2_ n3_ n4_ n5_ n6_; clear hb hbox hg) | ((with_reducible refine gate_dst (N := 5) rfl ?_); (try (refine gate_guard (by rfl) ?_; dsimp only)); refine box_event ?hg (N := 5) ?hd (cs := #[.int .i64 a2_0, .int .i64 a2_1, .int .i64 a2_2, .slice A2_3 l2_3.length c2_3]) (t := 33) ?hr ?_; (case hd => rfl); (case hg => rfl); (case hr => first | (go_simp; done) | (go_simp; rfl)); intro gb295 hg w29 hbox hb; have n0_ := (bb_ BK293 hb); have n1_ := (bb_ BK294 hb); have n2_ := Aside0.mk (below_step (hb_ HB) hb); have n3_ := Aside0.mk (hbox); have n4_ := Aside0.mk ((by rw [hg]; exact (below_size (hb_ HB)) : w.heap.size ≤ gb295)); have n5_ := Aside0.mk ((by rw [hg]; exact (below_size (hb_ HB)) : w.heap.size ≤ gb295)); have n6_ := (nlt_ BK293 hg); have n7_ := (ngt_ BK293 hg); have n8_ := (nlt_ BK294 hg); have n9_ := (ngt_ BK294 hg); clear BK293; clear BK294; clear HB; have BK293 := n0_; have BK294 := n1_; have HB := n2_; have BK295 := n3_; have GW295 := n4_; have GE295 := n5_; have NB293_295 := n6_; have NB295_293 := n7_; have NB294_295 := n8_; have NB295_294 := n9_; clear n0_ n1_ n2_ n3_ n4_ n5_ n6_ n7_ n8_ n9_; clear hb hbox hg; have hnb30 := NB294_293.out; have hnc30 := NB293_294.out; have hnb31 := NB294_295.out; have hnc31 := NB295_294.out; have hcz32_0 : w29.cell? ⟨gb294, 0, none⟩ = some (.int .i64 a1_0) := bc_ BK294 0; have hcz32_1 : w29.cell? ⟨gb294, 1, none⟩ = some (.slice A1_1 l1_1.length c1_1) := bc_ BK294 1; have hcz32_2 : w29.cell? ⟨gb294, 2, none⟩ = some (.slice A1_2 l1_2.length c1_2) := bc_ BK294 2; have hfz32_0 := blk_frozen BK294.out 0; have hfz32_1 := blk_frozen BK294.out 1; have hfz32_2 := blk_frozen BK294.out 2) | ((with_reducible refine gate_callee (f := 56) rfl ?_); refine goesL_ (some 9) rfl rfl Try.func56 (by kernel_rfl) rfl #[.agg #[.int .i64 a1_0, .slice A1_1 l1_1.length c1_1, .slice A1_2 l1_2.length c1_2]] rfl mp_ ?_; (with_reducible refine (chargeparkref26_Few.calls a1_0 _ _ l1_1 _ _ l1_2 true _ ?side1 ?side2 ?side3 ?side4 A4.out).mono ?_); (case side1 => repeat (first | exact (Kd.C_below HR1_1.out HB.out) | (with_reducible refine Kd.C_alloc ?_ _) | (with_reducible refine Kd.C_drewN ?_ _) | (with_reducible refine Kd.C_drew ?_))); (case side2 => exact HC1_1.out); (case side3 => repeat (first | exact (Kd.C_below HR1_2.out HB.out) | (with_reducible refine Kd.C_alloc ?_ _) | (with_reducible refine Kd.C_drewN ?_ _) | (with_reducible refine Kd.C_drew ?_))); (case side4 => exact HC1_2.out); rintro e w33 ⟨rfl, hb⟩; refine ⟨_, rfl, ?_⟩; have n0_ := (bb_ BK293 hb); have n1_ := (bb_ BK294 hb); have n2_ := (bb_ BK295 hb); have n3_ := Aside0.mk (below_step (hb_ HB) hb); clear BK293; clear BK294; clear BK295; clear HB; have BK293 := n0_; have BK294 := n1_; have BK295 := n2_; have HB := n3_; clear n0_ n1_ n2_ n3_; (try clear hb); (try clear hb2); (try clear hk); (try clear hi); have hnb34 := NB293_295.out; have hnc34 := NB295_293.out; have hcz35_0 : w33.cell? ⟨gb293, 0, none⟩ = some (.string a0_0) := bc_ BK293 0; have hcz35_1 : w33.cell? ⟨gb293, 1, none⟩ = some (.slice A0_1 l0_1.length c0_1) := bc_ BK293 1; have hfz35_0 := blk_frozen BK293.out 0; have hfz35_1 := blk_frozen BK293.out 1))
   go_ret
   exact ⟨by first | rfl | (simp [errW_none, errW_some] <;> rfl) | (simp [*, errW_none, errW_some] <;> rfl), by repeat (first | (with_reducible first | exact HB.out | apply below_alloc | apply pw_below_drewN | apply below_drew1 | refine below_set ?_ GE293.out | refine below_set ?_ GE294.out | refine below_set ?_ GE295.out) | exact HB.out)⟩
 ·replace c5 := Bool.eq_false_iff.mpr c5
  subst c5
  have H1 : (some false) = some r := by rw [if_neg (show ¬ (false = true) by decide)] at H; exact H
  clear H
  have H := H1
  clear H1
  obtain rfl := Option.some.inj H
  go_enter Try.func26, Try.ntmps26
  go_wp2_with (first | ((with_reducible refine gate_dst (N := 3) rfl ?_); (try (refine gate_guard (by rfl) ?_; dsimp only)); refine box_event ?hg (N := 3) ?hd (cs := #[.string a0_0, .slice A0_1 l0_1.length c0_1]) (t := 24) ?hr ?_; (case hd => rfl); (case hg => rfl); (case hr => first | (go_simp; done) | (go_simp; rfl)); intro gb293 hg w36 hbox hb; have n0_ := Aside0.mk (below_step (hb_ HB) hb); have n1_ := Aside0.mk (hbox); have n2_ := Aside0.mk ((by rw [hg]; exact (below_size (hb_ HB)) : w.heap.size ≤ gb293)); have n3_ := Aside0.mk ((by rw [hg]; exact (below_size (hb_ HB)) : w.heap.size ≤ gb293)); clear HB; have HB := n0_; have BK293 := n1_; have GW293 := n2_; have GE293 := n3_; clear n0_ n1_ n2_ n3_; clear hb hbox hg) | ((with_reducible refine gate_dst (N := 4) rfl ?_); (try (refine gate_guard (by rfl) ?_; dsimp only)); refine box_event ?hg (N := 4) ?hd (cs := #[.int .i64 a1_0, .slice A1_1 l1_1.length c1_1, .slice A1_2 l1_2.length c1_2]) (t := 30) ?hr ?_; (case hd => rfl); (case hg => rfl); (case hr => first | (go_simp; done) | (go_simp; rfl)); intro gb294 hg w37 hbox hb; have n0_ := (bb_ BK293 hb); have n1_ := Aside0.mk (below_step (hb_ HB) hb); have n2_ := Aside0.mk (hbox); have n3_ := Aside0.mk ((by rw [hg]; exact (below_size (hb_ HB)) : w.heap.size ≤ gb294)); have n4_ := Aside0.mk ((by rw [hg]; exact (below_size (hb_ HB)) : w.heap.size ≤ gb294)); have n5_ := (nlt_ BK293 hg); have n6_ := (ngt_ BK293 hg); clear BK293; clear HB; have BK293 := n0_; have HB := n1_; have BK294 := n2_; have GW294 := n3_; have GE294 := n4_; have NB293_294 := n5_; have NB294_293 := n6_; clear n0_ n1_ n2_ n3_ n4_ n5_ n6_; clear hb hbox hg) | ((with_reducible refine gate_dst (N := 5) rfl ?_); (try (refine gate_guard (by rfl) ?_; dsimp only)); refine box_event ?hg (N := 5) ?hd (cs := #[.int .i64 a2_0, .int .i64 a2_1, .int .i64 a2_2, .slice A2_3 l2_3.length c2_3]) (t := 33) ?hr ?_; (case hd => rfl); (case hg => rfl); (case hr => first | (go_simp; done) | (go_simp; rfl)); intro gb295 hg w38 hbox hb; have n0_ := (bb_ BK293 hb); have n1_ := (bb_ BK294 hb); have n2_ := Aside0.mk (below_step (hb_ HB) hb); have n3_ := Aside0.mk (hbox); have n4_ := Aside0.mk ((by rw [hg]; exact (below_size (hb_ HB)) : w.heap.size ≤ gb295)); have n5_ := Aside0.mk ((by rw [hg]; exact (below_size (hb_ HB)) : w.heap.size ≤ gb295)); have n6_ := (nlt_ BK293 hg); have n7_ := (ngt_ BK293 hg); have n8_ := (nlt_ BK294 hg); have n9_ := (ngt_ BK294 hg); clear BK293; clear BK294; clear HB; have BK293 := n0_; have BK294 := n1_; have HB := n2_; have BK295 := n3_; have GW295 := n4_; have GE295 := n5_; have NB293_295 := n6_; have NB295_293 := n7_; have NB294_295 := n8_; have NB295_294 := n9_; clear n0_ n1_ n2_ n3_ n4_ n5_ n6_ n7_ n8_ n9_; clear hb hbox hg; have hnb39 := NB294_293.out; have hnc39 := NB293_294.out; have hnb40 := NB294_295.out; have hnc40 := NB295_294.out; have hcz41_0 : w38.cell? ⟨gb294, 0, none⟩ = some (.int .i64 a1_0) := bc_ BK294 0; have hcz41_1 : w38.cell? ⟨gb294, 1, none⟩ = some (.slice A1_1 l1_1.length c1_1) := bc_ BK294 1; have hcz41_2 : w38.cell? ⟨gb294, 2, none⟩ = some (.slice A1_2 l1_2.length c1_2) := bc_ BK294 2; have hfz41_0 := blk_frozen BK294.out 0; have hfz41_1 := blk_frozen BK294.out 1; have hfz41_2 := blk_frozen BK294.out 2) | ((with_reducible refine gate_callee (f := 56) rfl ?_); refine goesL_ (some 9) rfl rfl Try.func56 (by kernel_rfl) rfl #[.agg #[.int .i64 a1_0, .slice A1_1 l1_1.length c1_1, .slice A1_2 l1_2.length c1_2]] rfl mp_ ?_; (with_reducible refine (chargeparkref26_Few.calls a1_0 _ _ l1_1 _ _ l1_2 false _ ?side1 ?side2 ?side3 ?side4 A4.out).mono ?_); (case side1 => repeat (first | exact (Kd.C_below HR1_1.out HB.out) | (with_reducible refine Kd.C_alloc ?_ _) | (with_reducible refine Kd.C_drewN ?_ _) | (with_reducible refine Kd.C_drew ?_))); (case side2 => exact HC1_1.out); (case side3 => repeat (first | exact (Kd.C_below HR1_2.out HB.out) | (with_reducible refine Kd.C_alloc ?_ _) | (with_reducible refine Kd.C_drewN ?_ _) | (with_reducible refine Kd.C_drew ?_))); (case side4 => exact HC1_2.out); rintro e w42 ⟨rfl, hb⟩; refine ⟨_, rfl, ?_⟩; have n0_ := (bb_ BK293 hb); have n1_ := (bb_ BK294 hb); have n2_ := (bb_ BK295 hb); have n3_ := Aside0.mk (below_step (hb_ HB) hb); clear BK293; clear BK294; clear BK295; clear HB; have BK293 := n0_; have BK294 := n1_; have BK295 := n2_; have HB := n3_; clear n0_ n1_ n2_ n3_; (try clear hb); (try clear hb2); (try clear hk); (try clear hi)))
  go_ret
  exact ⟨by first | rfl | (simp [errW_none, errW_some] <;> rfl) | (simp [*, errW_none, errW_some] <;> rfl), by repeat (first | (with_reducible first | exact HB.out | apply below_alloc | apply pw_below_drewN | apply below_drew1 | refine below_set ?_ GE293.out | refine below_set ?_ GE294.out | refine below_set ?_ GE295.out) | exact HB.out)⟩

/-! ### chargeparkref33_Valid: function 33 -/
mutual
def chargeparkref33_Valid.j0 : Nat → Bool → Int → Int → Int → List (S50) → Option (Bool)
 | 0, _, _, _, _, _ => none
 | k + 1, x47, x298000, x298001, x298002, x298003 => if x47 = true then (some false) else (chargeparkref33_Valid.l0 k 0 x298000 x298001 x298002 x298003)
def chargeparkref33_Valid.l0 : Nat → Int → Int → Int → Int → List (S50) → Option (Bool)
 | 0, _, _, _, _, _ => none
 | k + 1, x3, x298000, x298001, x298002, x298003 => if x3 < (x298003.length : Int) then (if 0 ≤ x3 then (if ((rd_T50 x298003 x3).f0) < x298000 then (some false) else (if ((rd_T50 x298003 x3).f0) ≥ x298002 then (some false) else (if ((rd_T50 x298003 x3).f1) < 0 then (some false) else (if ((rd_T50 x298003 x3).f1) > 10000 then (some false) else (if x3 > 0 then (if 0 ≤ (wrap64 (x3 - 1)) then (if (wrap64 (x3 - 1)) < (x298003.length : Int) then (if ((rd_T50 x298003 x3).f0) ≤ ((rd_T50 x298003 (wrap64 (x3 - 1))).f0) then (some false) else (chargeparkref33_Valid.l0 k (wrap64 (x3 + 1)) x298000 x298001 x298002 x298003)) else (none)) else (none)) else (chargeparkref33_Valid.l0 k (wrap64 (x3 + 1)) x298000 x298001 x298002 x298003)))))) else (none)) else (some true)
end
def chargeparkref33_Valid.f (k : Nat) (a0_0 : Int) (a0_1 : Int) (a0_2 : Int) (l0_3 : List (S50)) : Option (Bool) := if a0_0 < 0 then (chargeparkref33_Valid.j0 k true a0_0 a0_1 a0_2 l0_3) else (if a0_1 ≤ a0_0 then (chargeparkref33_Valid.j0 k true a0_0 a0_1 a0_2 l0_3) else (if a0_1 > 52560000 then (chargeparkref33_Valid.j0 k true a0_0 a0_1 a0_2 l0_3) else (if (wrap64 (a0_1 - a0_0)) > 2880 then (chargeparkref33_Valid.j0 k true a0_0 a0_1 a0_2 l0_3) else (if a0_2 < a0_0 then (chargeparkref33_Valid.j0 k true a0_0 a0_1 a0_2 l0_3) else (if a0_2 > a0_1 then (chargeparkref33_Valid.j0 k true a0_0 a0_1 a0_2 l0_3) else (chargeparkref33_Valid.j0 k (decide ((l0_3.length : Int) > 48)) a0_0 a0_1 a0_2 l0_3))))))
theorem chargeparkref33_Valid.mono_l : ∀ k, (∀ y0 y1 y2 y3 y4, LeO (chargeparkref33_Valid.j0 k y0 y1 y2 y3 y4) (chargeparkref33_Valid.j0 (k + 1) y0 y1 y2 y3 y4)) ∧ (∀ y0 y1 y2 y3 y4, LeO (chargeparkref33_Valid.l0 k y0 y1 y2 y3 y4) (chargeparkref33_Valid.l0 (k + 1) y0 y1 y2 y3 y4))
 | 0 => ⟨fun _ _ _ _ _ r h => by simp [chargeparkref33_Valid.j0] at h, fun _ _ _ _ _ r h => by simp [chargeparkref33_Valid.l0] at h⟩
 | k + 1 => by
  obtain ⟨ih0, ih1⟩ := chargeparkref33_Valid.mono_l k
  refine ⟨?_, ?_⟩
  ·intro y0 y1 y2 y3 y4
   unfold chargeparkref33_Valid.j0
   repeat' first
   | (with_reducible exact ih0 _ _ _ _ _)
   | (with_reducible exact ih1 _ _ _ _ _)
   | (with_reducible exact LeO.refl _)
   | (with_reducible exact LeO.none _)
   | (with_reducible refine LeO.ite ?_ ?_)
   | (with_reducible refine LeO.bind ?_ (fun _ => ?_))
   | exact ih0 _ _ _ _ _
   | exact ih1 _ _ _ _ _
   | exact LeO.none _
   | refine LeO.ite ?_ ?_
   | refine LeO.bind ?_ (fun _ => ?_)
  ·intro y0 y1 y2 y3 y4
   unfold chargeparkref33_Valid.l0
   repeat' first
   | (with_reducible exact ih0 _ _ _ _ _)
   | (with_reducible exact ih1 _ _ _ _ _)
   | (with_reducible exact LeO.refl _)
   | (with_reducible exact LeO.none _)
   | (with_reducible refine LeO.ite ?_ ?_)
   | (with_reducible refine LeO.bind ?_ (fun _ => ?_))
   | exact ih0 _ _ _ _ _
   | exact ih1 _ _ _ _ _
   | exact LeO.none _
   | refine LeO.ite ?_ ?_
   | refine LeO.bind ?_ (fun _ => ?_)
theorem chargeparkref33_Valid.mono : ∀ a0 a1 a2 a3 k, LeO (chargeparkref33_Valid.f k a0 a1 a2 a3) (chargeparkref33_Valid.f (k + 1) a0 a1 a2 a3) := by
 intro a0 a1 a2 a3 k
 obtain ⟨ih0, ih1⟩ := chargeparkref33_Valid.mono_l k
 unfold chargeparkref33_Valid.f
 repeat' first
   | (with_reducible exact ih0 _ _ _ _ _)
   | (with_reducible exact ih1 _ _ _ _ _)
   | (with_reducible exact LeO.refl _)
   | (with_reducible exact LeO.none _)
   | (with_reducible refine LeO.ite ?_ ?_)
   | (with_reducible refine LeO.bind ?_ (fun _ => ?_))
   | exact ih0 _ _ _ _ _
   | exact ih1 _ _ _ _ _
   | exact LeO.none _
   | refine LeO.ite ?_ ?_
   | refine LeO.bind ?_ (fun _ => ?_)
set_option maxHeartbeats 8000000 in
set_option maxRecDepth 100000 in
theorem chargeparkref33_Valid.calls (k : Nat) (a0_0 : Int) (a0_1 : Int) (a0_2 : Int) (A0_3 : Option Addr) (c0_3 : Nat) (l0_3 : List (S50)) (r : Bool) (w : World) (hr0_3 : Kd.C k50 w A0_3 l0_3.length l0_3) (hc0_3 : l0_3.length ≤ c0_3) (h : chargeparkref33_Valid.f k a0_0 a0_1 a0_2 l0_3 = some r) :
  Calls Try.prog 33 #[.agg #[.int .i64 a0_0, .int .i64 a0_1, .int .i64 a0_2, .slice A0_3 l0_3.length c0_3]] w fun e w' => e = .returned (.bool r) ∧ Below w.heap.size w w' := by
 have hu33 := Try.underlying33
 have hu50 := Try.underlying50
 have HR0_3 := Aside0.mk hr0_3
 have HC0_3 := Aside0.mk hc0_3
 clear hr0_3 hc0_3
 have HB := Aside0.mk (Below.refl w.heap.size w)
 have H : (if a0_0 < 0 then (chargeparkref33_Valid.j0 k true a0_0 a0_1 a0_2 l0_3) else (if a0_1 ≤ a0_0 then (chargeparkref33_Valid.j0 k true a0_0 a0_1 a0_2 l0_3) else (if a0_1 > 52560000 then (chargeparkref33_Valid.j0 k true a0_0 a0_1 a0_2 l0_3) else (if (wrap64 (a0_1 - a0_0)) > 2880 then (chargeparkref33_Valid.j0 k true a0_0 a0_1 a0_2 l0_3) else (if a0_2 < a0_0 then (chargeparkref33_Valid.j0 k true a0_0 a0_1 a0_2 l0_3) else (if a0_2 > a0_1 then (chargeparkref33_Valid.j0 k true a0_0 a0_1 a0_2 l0_3) else (chargeparkref33_Valid.j0 k (decide ((l0_3.length : Int) > 48)) a0_0 a0_1 a0_2 l0_3))))))) = some r := h
 clear h
 have HC2 := Aside0.mk H
 clear H
 go_enter Try.func33, Try.ntmps33
 go_upto_region 1 with (first | ((with_reducible refine gate_dst (N := 1) rfl ?_); (try (refine gate_guard (by rfl) ?_; dsimp only)); refine box_event ?hg (N := 1) ?hd (cs := #[.int .i64 a0_0, .int .i64 a0_1, .int .i64 a0_2, .slice A0_3 l0_3.length c0_3]) (t := 33) ?hr ?_; (case hd => rfl); (case hg => rfl); (case hr => first | (go_simp; done) | (go_simp; rfl)); intro gb297 hg w3 hbox hb; have n0_ := Aside0.mk (below_step (hb_ HB) hb); have n1_ := Aside0.mk (hbox); have n2_ := Aside0.mk ((by rw [hg]; exact (below_size (hb_ HB)) : w.heap.size ≤ gb297)); have n3_ := Aside0.mk ((by rw [hg]; exact (below_size (hb_ HB)) : w.heap.size ≤ gb297)); clear HB; have HB := n0_; have BK297 := n1_; have GW297 := n2_; have GE297 := n3_; clear n0_ n1_ n2_ n3_; clear hb hbox hg))
 repeat (go_quiet (first | ((with_reducible refine gate_dst (N := 1) rfl ?_); (try (refine gate_guard (by rfl) ?_; dsimp only)); refine box_event ?hg (N := 1) ?hd (cs := #[.int .i64 a0_0, .int .i64 a0_1, .int .i64 a0_2, .slice A0_3 l0_3.length c0_3]) (t := 33) ?hr ?_; (case hd => rfl); (case hg => rfl); (case hr => first | (go_simp; done) | (go_simp; rfl)); intro gb297 hg w3 hbox hb; have n0_ := Aside0.mk (below_step (hb_ HB) hb); have n1_ := Aside0.mk (hbox); have n2_ := Aside0.mk ((by rw [hg]; exact (below_size (hb_ HB)) : w.heap.size ≤ gb297)); have n3_ := Aside0.mk ((by rw [hg]; exact (below_size (hb_ HB)) : w.heap.size ≤ gb297)); clear HB; have HB := n0_; have BK297 := n1_; have GW297 := n2_; have GE297 := n3_; clear n0_ n1_ n2_ n3_; clear hb hbox hg)); go_upto_region 1 with (first | ((with_reducible refine gate_dst (N := 1) rfl ?_); (try (refine gate_guard (by rfl) ?_; dsimp only)); refine box_event ?hg (N := 1) ?hd (cs := #[.int .i64 a0_0, .int .i64 a0_1, .int .i64 a0_2, .slice A0_3 l0_3.length c0_3]) (t := 33) ?hr ?_; (case hd => rfl); (case hg => rfl); (case hr => first | (go_simp; done) | (go_simp; rfl)); intro gb297 hg w3 hbox hb; have n0_ := Aside0.mk (below_step (hb_ HB) hb); have n1_ := Aside0.mk (hbox); have n2_ := Aside0.mk ((by rw [hg]; exact (below_size (hb_ HB)) : w.heap.size ≤ gb297)); have n3_ := Aside0.mk ((by rw [hg]; exact (below_size (hb_ HB)) : w.heap.size ≤ gb297)); clear HB; have HB := n0_; have BK297 := n1_; have GW297 := n2_; have GE297 := n3_; clear n0_ n1_ n2_ n3_; clear hb hbox hg)))
 (try simp only [Act.put, List.setIfInBounds_toArray, List.set_cons_zero, List.set_cons_succ])
 go_cut [47] (fun v47 wc => ∃ (kq : Nat) (x47_1 : Bool), v47 = .bool x47_1 ∧ Aside0 (chargeparkref33_Valid.j0 kq x47_1 a0_0 a0_1 a0_2 l0_3 = some r) ∧ Aside0 (kq ≤ k) ∧ Aside0 (wc.heap[gb297]? = some (.cells #[.int .i64 a0_0, .int .i64 a0_1, .int .i64 a0_2, (.slice A0_3 l0_3.length c0_3)] 33 (0, 0))) ∧ Aside0 (Below w.heap.size w wc))
 case first =>
  have H := HC2.out
  clear HC2
  by_cases c4 : a0_0 < 0
  ·rw [if_pos c4] at H
   have c4b0 : decide (a0_0 < 0) = true := decide_eq_true c4
   clear c4
   (first | rw [c4b0] | (simp only [i64_w, i32_w]; rw [c4b0]) | skip)
   have H' := Aside0.mk H
   clear H
   have hcz5_0 : w3.cell? ⟨gb297, 0, none⟩ = some (.int .i64 a0_0) := bc_ BK297 0
   have hcz5_1 : w3.cell? ⟨gb297, 1, none⟩ = some (.int .i64 a0_1) := bc_ BK297 1
   have hcz5_2 : w3.cell? ⟨gb297, 2, none⟩ = some (.int .i64 a0_2) := bc_ BK297 2
   have hcz5_3 : w3.cell? ⟨gb297, 3, none⟩ = some (.slice A0_3 l0_3.length c0_3) := bc_ BK297 3
   have hfz5_0 := blk_frozen BK297.out 0
   have hfz5_1 := blk_frozen BK297.out 1
   have hfz5_2 := blk_frozen BK297.out 2
   have hfz5_3 := blk_frozen BK297.out 3
   go_wp2
   repeat (go_quiet (fail); try go_wp2)
   go_meet
   case rel => exact ⟨_, (true), (by first | rfl | (simp; done) | (simp [*]; done)), H', ⟨by first | omega | exact Nat.le_refl _⟩, ⟨by (with_reducible repeat (first | refine blk_drewN ?_ _ | refine blk_drew ?_ | refine blk_alloc ?_ _)); exact BK297.out⟩, ⟨by repeat (first | (with_reducible first | exact HB.out | apply below_alloc | apply pw_below_drewN | apply below_drew1 | refine below_set ?_ GE297.out) | exact HB.out)⟩⟩
  ·rw [if_neg c4] at H
   have c4b0 : decide (a0_0 < 0) = false := decide_eq_false c4
   clear c4
   (first | rw [c4b0] | (simp only [i64_w, i32_w]; rw [c4b0]) | skip)
   by_cases c6 : a0_1 ≤ a0_0
   ·rw [if_pos c6] at H
    have c6b0 : decide (a0_1 ≤ a0_0) = true := decide_eq_true c6
    clear c6
    have H' := Aside0.mk H
    clear H
    have hcz7_0 : w3.cell? ⟨gb297, 0, none⟩ = some (.int .i64 a0_0) := bc_ BK297 0
    have hcz7_1 : w3.cell? ⟨gb297, 1, none⟩ = some (.int .i64 a0_1) := bc_ BK297 1
    have hcz7_2 : w3.cell? ⟨gb297, 2, none⟩ = some (.int .i64 a0_2) := bc_ BK297 2
    have hcz7_3 : w3.cell? ⟨gb297, 3, none⟩ = some (.slice A0_3 l0_3.length c0_3) := bc_ BK297 3
    have hfz7_0 := blk_frozen BK297.out 0
    have hfz7_1 := blk_frozen BK297.out 1
    have hfz7_2 := blk_frozen BK297.out 2
    have hfz7_3 := blk_frozen BK297.out 3
    go_wp2
    repeat (go_quiet (fail); try go_wp2)
    go_meet
    case rel => exact ⟨_, (true), (by first | rfl | (simp; done) | (simp [*]; done)), H', ⟨by first | omega | exact Nat.le_refl _⟩, ⟨by (with_reducible repeat (first | refine blk_drewN ?_ _ | refine blk_drew ?_ | refine blk_alloc ?_ _)); exact BK297.out⟩, ⟨by repeat (first | (with_reducible first | exact HB.out | apply below_alloc | apply pw_below_drewN | apply below_drew1 | refine below_set ?_ GE297.out) | exact HB.out)⟩⟩
   ·rw [if_neg c6] at H
    have c6b0 : decide (a0_1 ≤ a0_0) = false := decide_eq_false c6
    clear c6
    by_cases c8 : a0_1 > 52560000
    ·rw [if_pos c8] at H
     have c8b0 : decide (52560000 < a0_1) = true := decide_eq_true c8
     clear c8
     have H' := Aside0.mk H
     clear H
     have hcz9_0 : w3.cell? ⟨gb297, 0, none⟩ = some (.int .i64 a0_0) := bc_ BK297 0
     have hcz9_1 : w3.cell? ⟨gb297, 1, none⟩ = some (.int .i64 a0_1) := bc_ BK297 1
     have hcz9_2 : w3.cell? ⟨gb297, 2, none⟩ = some (.int .i64 a0_2) := bc_ BK297 2
     have hcz9_3 : w3.cell? ⟨gb297, 3, none⟩ = some (.slice A0_3 l0_3.length c0_3) := bc_ BK297 3
     have hfz9_0 := blk_frozen BK297.out 0
     have hfz9_1 := blk_frozen BK297.out 1
     have hfz9_2 := blk_frozen BK297.out 2
     have hfz9_3 := blk_frozen BK297.out 3
     go_wp2
     repeat (go_quiet (fail); try go_wp2)
     go_meet
     case rel => exact ⟨_, (true), (by first | rfl | (simp; done) | (simp [*]; done)), H', ⟨by first | omega | exact Nat.le_refl _⟩, ⟨by (with_reducible repeat (first | refine blk_drewN ?_ _ | refine blk_drew ?_ | refine blk_alloc ?_ _)); exact BK297.out⟩, ⟨by repeat (first | (with_reducible first | exact HB.out | apply below_alloc | apply pw_below_drewN | apply below_drew1 | refine below_set ?_ GE297.out) | exact HB.out)⟩⟩
    ·rw [if_neg c8] at H
     have c8b0 : decide (52560000 < a0_1) = false := decide_eq_false c8
     clear c8
     by_cases c10 : (wrap64 (a0_1 - a0_0)) > 2880
     ·rw [if_pos c10] at H
      have c10b0 : decide (2880 < (wrap64 (a0_1 - a0_0))) = true := decide_eq_true c10
      clear c10
      have H' := Aside0.mk H
      clear H
      have hcz11_0 : w3.cell? ⟨gb297, 0, none⟩ = some (.int .i64 a0_0) := bc_ BK297 0
      have hcz11_1 : w3.cell? ⟨gb297, 1, none⟩ = some (.int .i64 a0_1) := bc_ BK297 1
      have hcz11_2 : w3.cell? ⟨gb297, 2, none⟩ = some (.int .i64 a0_2) := bc_ BK297 2
      have hcz11_3 : w3.cell? ⟨gb297, 3, none⟩ = some (.slice A0_3 l0_3.length c0_3) := bc_ BK297 3
      have hfz11_0 := blk_frozen BK297.out 0
      have hfz11_1 := blk_frozen BK297.out 1
      have hfz11_2 := blk_frozen BK297.out 2
      have hfz11_3 := blk_frozen BK297.out 3
      go_wp2
      repeat (go_quiet (fail); try go_wp2)
      go_meet
      case rel => exact ⟨_, (true), (by first | rfl | (simp; done) | (simp [*]; done)), H', ⟨by first | omega | exact Nat.le_refl _⟩, ⟨by (with_reducible repeat (first | refine blk_drewN ?_ _ | refine blk_drew ?_ | refine blk_alloc ?_ _)); exact BK297.out⟩, ⟨by repeat (first | (with_reducible first | exact HB.out | apply below_alloc | apply pw_below_drewN | apply below_drew1 | refine below_set ?_ GE297.out) | exact HB.out)⟩⟩
     ·rw [if_neg c10] at H
      have c10b0 : decide (2880 < (wrap64 (a0_1 - a0_0))) = false := decide_eq_false c10
      clear c10
      by_cases c12 : a0_2 < a0_0
      ·rw [if_pos c12] at H
       have c12b0 : decide (a0_2 < a0_0) = true := decide_eq_true c12
       clear c12
       have H' := Aside0.mk H
       clear H
       have hcz13_0 : w3.cell? ⟨gb297, 0, none⟩ = some (.int .i64 a0_0) := bc_ BK297 0
       have hcz13_1 : w3.cell? ⟨gb297, 1, none⟩ = some (.int .i64 a0_1) := bc_ BK297 1
       have hcz13_2 : w3.cell? ⟨gb297, 2, none⟩ = some (.int .i64 a0_2) := bc_ BK297 2
       have hcz13_3 : w3.cell? ⟨gb297, 3, none⟩ = some (.slice A0_3 l0_3.length c0_3) := bc_ BK297 3
       have hfz13_0 := blk_frozen BK297.out 0
       have hfz13_1 := blk_frozen BK297.out 1
       have hfz13_2 := blk_frozen BK297.out 2
       have hfz13_3 := blk_frozen BK297.out 3
       go_wp2
       repeat (go_quiet (fail); try go_wp2)
       go_meet
       case rel => exact ⟨_, (true), (by first | rfl | (simp; done) | (simp [*]; done)), H', ⟨by first | omega | exact Nat.le_refl _⟩, ⟨by (with_reducible repeat (first | refine blk_drewN ?_ _ | refine blk_drew ?_ | refine blk_alloc ?_ _)); exact BK297.out⟩, ⟨by repeat (first | (with_reducible first | exact HB.out | apply below_alloc | apply pw_below_drewN | apply below_drew1 | refine below_set ?_ GE297.out) | exact HB.out)⟩⟩
      ·rw [if_neg c12] at H
       have c12b0 : decide (a0_2 < a0_0) = false := decide_eq_false c12
       clear c12
       by_cases c14 : a0_2 > a0_1
       ·rw [if_pos c14] at H
        have c14b0 : decide (a0_1 < a0_2) = true := decide_eq_true c14
        clear c14
        have H' := Aside0.mk H
        clear H
        have hcz15_0 : w3.cell? ⟨gb297, 0, none⟩ = some (.int .i64 a0_0) := bc_ BK297 0
        have hcz15_1 : w3.cell? ⟨gb297, 1, none⟩ = some (.int .i64 a0_1) := bc_ BK297 1
        have hcz15_2 : w3.cell? ⟨gb297, 2, none⟩ = some (.int .i64 a0_2) := bc_ BK297 2
        have hcz15_3 : w3.cell? ⟨gb297, 3, none⟩ = some (.slice A0_3 l0_3.length c0_3) := bc_ BK297 3
        have hfz15_0 := blk_frozen BK297.out 0
        have hfz15_1 := blk_frozen BK297.out 1
        have hfz15_2 := blk_frozen BK297.out 2
        have hfz15_3 := blk_frozen BK297.out 3
        go_wp2
        repeat (go_quiet (fail); try go_wp2)
        go_meet
        case rel => exact ⟨_, (true), (by first | rfl | (simp; done) | (simp [*]; done)), H', ⟨by first | omega | exact Nat.le_refl _⟩, ⟨by (with_reducible repeat (first | refine blk_drewN ?_ _ | refine blk_drew ?_ | refine blk_alloc ?_ _)); exact BK297.out⟩, ⟨by repeat (first | (with_reducible first | exact HB.out | apply below_alloc | apply pw_below_drewN | apply below_drew1 | refine below_set ?_ GE297.out) | exact HB.out)⟩⟩
       ·rw [if_neg c14] at H
        have c14b0 : decide (a0_1 < a0_2) = false := decide_eq_false c14
        clear c14
        have H' := Aside0.mk H
        clear H
        have hcz16_0 : w3.cell? ⟨gb297, 0, none⟩ = some (.int .i64 a0_0) := bc_ BK297 0
        have hcz16_1 : w3.cell? ⟨gb297, 1, none⟩ = some (.int .i64 a0_1) := bc_ BK297 1
        have hcz16_2 : w3.cell? ⟨gb297, 2, none⟩ = some (.int .i64 a0_2) := bc_ BK297 2
        have hcz16_3 : w3.cell? ⟨gb297, 3, none⟩ = some (.slice A0_3 l0_3.length c0_3) := bc_ BK297 3
        have hfz16_0 := blk_frozen BK297.out 0
        have hfz16_1 := blk_frozen BK297.out 1
        have hfz16_2 := blk_frozen BK297.out 2
        have hfz16_3 := blk_frozen BK297.out 3
        go_wp2
        repeat (go_quiet (fail); try go_wp2)
        go_meet
        case rel => exact ⟨_, (decide ((l0_3.length : Int) > 48)), (by first | rfl | (simp; done) | (simp [*]; done)), H', ⟨by first | omega | exact Nat.le_refl _⟩, ⟨by (with_reducible repeat (first | refine blk_drewN ?_ _ | refine blk_drew ?_ | refine blk_alloc ?_ _)); exact BK297.out⟩, ⟨by repeat (first | (with_reducible first | exact HB.out | apply below_alloc | apply pw_below_drewN | apply below_drew1 | refine below_set ?_ GE297.out) | exact HB.out)⟩⟩
 case rest =>
  clear HC2
  try clear c1
  try clear p2
  try clear c3
  try clear c4
  try clear c4b0
  try clear c6
  try clear c6b0
  try clear p6
  try clear c8
  try clear c8b0
  try clear c10
  try clear c10b0
  try clear c12
  try clear c12b0
  try clear c14
  try clear c14b0
  try clear hcz11_0
  try clear hcz11_1
  try clear hcz11_2
  try clear hcz11_3
  try clear hcz13_0
  try clear hcz13_1
  try clear hcz13_2
  try clear hcz13_3
  try clear hcz15_0
  try clear hcz15_1
  try clear hcz15_2
  try clear hcz15_3
  try clear hcz16_0
  try clear hcz16_1
  try clear hcz16_2
  try clear hcz16_3
  try clear hcz5_0
  try clear hcz5_1
  try clear hcz5_2
  try clear hcz5_3
  try clear hcz7_0
  try clear hcz7_1
  try clear hcz7_2
  try clear hcz7_3
  try clear hcz9_0
  try clear hcz9_1
  try clear hcz9_2
  try clear hcz9_3
  try clear hfz11_0
  try clear hfz11_1
  try clear hfz11_2
  try clear hfz11_3
  try clear hfz13_0
  try clear hfz13_1
  try clear hfz13_2
  try clear hfz13_3
  try clear hfz15_0
  try clear hfz15_1
  try clear hfz15_2
  try clear hfz15_3
  try clear hfz16_0
  try clear hfz16_1
  try clear hfz16_2
  try clear hfz16_3
  try clear hfz5_0
  try clear hfz5_1
  try clear hfz5_2
  try clear hfz5_3
  try clear hfz7_0
  try clear hfz7_1
  try clear hfz7_2
  try clear hfz7_3
  try clear hfz9_0
  try clear hfz9_1
  try clear hfz9_2
  try clear hfz9_3
  obtain ⟨kq, x47_1, rfl, HA, HJ1, BK297, HB⟩ := hcut
  cases kq with
  | zero => exact absurd HA.out (by simp [chargeparkref33_Valid.j0])
  | succ kj1 =>
   have H := HA.out
   clear HA
   simp only [chargeparkref33_Valid.j0] at H
   by_cases c17 : x47_1 = true
   ·subst c17
    have H1 : (some false) = some r := by rw [if_pos rfl] at H; exact H
    clear H
    have H := H1
    clear H1
    obtain rfl := Option.some.inj H
    go_wp2
    repeat (go_quiet (fail); try go_wp2)
    go_ret
    exact ⟨by first | rfl | (simp [errW_none, errW_some] <;> rfl) | (simp [*, errW_none, errW_some] <;> rfl), by repeat (first | (with_reducible first | exact HB.out | apply below_alloc | apply pw_below_drewN | apply below_drew1 | refine below_set ?_ GE297.out) | exact HB.out)⟩
   ·replace c17 := Bool.eq_false_iff.mpr c17
    subst c17
    have H1 : (chargeparkref33_Valid.l0 kj1 0 a0_0 a0_1 a0_2 l0_3) = some r := by rw [if_neg (show ¬ (false = true) by decide)] at H; exact H
    clear H
    have H := H1
    clear H1
    have H' := Aside0.mk H
    clear H
    go_wp2
    repeat (go_quiet (fail); try go_wp2)
    go_loopg [3] kj1 (fun kq v3 w' => ∃ (x3_2 : Int), v3 = .int .i64 x3_2 ∧ Aside0 (chargeparkref33_Valid.l0 kq x3_2 a0_0 a0_1 a0_2 l0_3 = some r) ∧ Aside0 (kq ≤ kj1) ∧ Aside0 (w'.heap[gb297]? = some (.cells #[.int .i64 a0_0, .int .i64 a0_1, .int .i64 a0_2, (.slice A0_3 l0_3.length c0_3)] 33 (0, 0))) ∧ Aside0 (Below w.heap.size w w'))
    case atStart => exact ⟨(0), (by first | rfl | (simp; done) | (simp [*]; done)), H', ⟨Nat.le_refl _⟩, ⟨by (with_reducible repeat (first | refine blk_drewN ?_ _ | refine blk_drew ?_ | refine blk_alloc ?_ _)); exact BK297.out⟩, ⟨by repeat (first | (with_reducible first | exact HB.out | apply below_alloc | apply pw_below_drewN | apply below_drew1 | refine below_set ?_ GE297.out) | exact HB.out)⟩⟩
    case round =>
     clear H'
     try clear c1
     try clear p2
     try clear c3
     try clear c4
     try clear c4b0
     try clear c6
     try clear c6b0
     try clear p6
     try clear c8
     try clear c8b0
     try clear c10
     try clear c10b0
     try clear c12
     try clear c12b0
     try clear c14
     try clear c14b0
     try clear c17
     try clear hcz11_0
     try clear hcz11_1
     try clear hcz11_2
     try clear hcz11_3
     try clear hcz13_0
     try clear hcz13_1
     try clear hcz13_2
     try clear hcz13_3
     try clear hcz15_0
     try clear hcz15_1
     try clear hcz15_2
     try clear hcz15_3
     try clear hcz16_0
     try clear hcz16_1
     try clear hcz16_2
     try clear hcz16_3
     try clear hcz5_0
     try clear hcz5_1
     try clear hcz5_2
     try clear hcz5_3
     try clear hcz7_0
     try clear hcz7_1
     try clear hcz7_2
     try clear hcz7_3
     try clear hcz9_0
     try clear hcz9_1
     try clear hcz9_2
     try clear hcz9_3
     try clear hfz11_0
     try clear hfz11_1
     try clear hfz11_2
     try clear hfz11_3
     try clear hfz13_0
     try clear hfz13_1
     try clear hfz13_2
     try clear hfz13_3
     try clear hfz15_0
     try clear hfz15_1
     try clear hfz15_2
     try clear hfz15_3
     try clear hfz16_0
     try clear hfz16_1
     try clear hfz16_2
     try clear hfz16_3
     try clear hfz5_0
     try clear hfz5_1
     try clear hfz5_2
     try clear hfz5_3
     try clear hfz7_0
     try clear hfz7_1
     try clear hfz7_2
     try clear hfz7_3
     try clear hfz9_0
     try clear hfz9_1
     try clear hfz9_2
     try clear hfz9_3
     try clear p2
     try clear p6
     obtain ⟨x3_2, rfl, HA, HK2, BK297, HB⟩ := hrel
     cases gk with
     | zero => exact absurd HA.out (by simp [chargeparkref33_Valid.l0])
     | succ k2 =>
      have H := HA.out
      clear HA
      simp only [chargeparkref33_Valid.l0] at H
      by_cases c18 : x3_2 < (l0_3.length : Int)
      ·rw [if_pos c18] at H
       have c18b0 : decide (x3_2 < (l0_3.length : Int)) = true := decide_eq_true c18
       clear c18
       by_cases c19 : 0 ≤ x3_2
       ·rw [if_pos c19] at H
        have c19b0 : decide (0 ≤ x3_2) = true := decide_eq_true c19
        clear c19
        by_cases c20 : ((rd_T50 l0_3 x3_2).f0) < a0_0
        ·rw [if_pos c20] at H
         have c20b0 : decide (((rd_T50 l0_3 x3_2).f0) < a0_0) = true := decide_eq_true c20
         clear c20
         obtain rfl := Option.some.inj H
         have hcz21_0 : wr.cell? ⟨gb297, 0, none⟩ = some (.int .i64 a0_0) := bc_ BK297 0
         have hcz21_1 : wr.cell? ⟨gb297, 1, none⟩ = some (.int .i64 a0_1) := bc_ BK297 1
         have hcz21_2 : wr.cell? ⟨gb297, 2, none⟩ = some (.int .i64 a0_2) := bc_ BK297 2
         have hcz21_3 : wr.cell? ⟨gb297, 3, none⟩ = some (.slice A0_3 l0_3.length c0_3) := bc_ BK297 3
         have hfz21_0 := blk_frozen BK297.out 0
         have hfz21_1 := blk_frozen BK297.out 1
         have hfz21_2 := blk_frozen BK297.out 2
         have hfz21_3 := blk_frozen BK297.out 3
         have p298 : 0 ≤ (x3_2 : Int) := of_decide_eq_true (by first | (with_reducible assumption) | assumption)
         have q298 : x3_2 < (l0_3.length : Int) := of_decide_eq_true (by first | (with_reducible assumption) | assumption)
         obtain ⟨ad298, e298, hx298_0, hx298_1⟩ := at_T50 HR0_3.out x3_2 p298 q298
         cases e298
         replace hx298_0 := (HB.out.cell (World.block_lt_of_cell? w _ hx298_0)).trans hx298_0
         replace hx298_1 := (HB.out.cell (World.block_lt_of_cell? w _ hx298_1)).trans hx298_1
         replace p298 := eq_true p298
         replace q298 := eq_true q298
         go_wp2_with (first | ((with_reducible refine gate_dst (N := 4) rfl ?_); (try (refine gate_guard (by rfl) ?_; dsimp only)); refine box_event ?hg (N := 4) ?hd (cs := #[.int .i64 0, .int .i64 0]) (t := 50) ?hr ?_; (case hd => rfl); (case hg => rfl); (case hr => first | (go_simp; done) | (go_simp; rfl)); intro gb299 hg w22 hbox hb; have n0_ := (bb_ BK297 hb); have n1_ := Aside0.mk (below_step (hb_ HB) hb); have n2_ := Aside0.mk (hbox); have n3_ := Aside0.mk ((by rw [hg]; exact (below_size (hb_ HB)) : w.heap.size ≤ gb299)); have n4_ := Aside0.mk ((by rw [hg]; exact (below_size (hb_ HB)) : w.heap.size ≤ gb299)); have n5_ := (nlt_ BK297 hg); have n6_ := (ngt_ BK297 hg); clear BK297; clear HB; have BK297 := n0_; have HB := n1_; have BK299 := n2_; have GW299 := n3_; have GE299 := n4_; have NB297_299 := n5_; have NB299_297 := n6_; clear n0_ n1_ n2_ n3_ n4_ n5_ n6_; clear hb hbox hg; have hnb23 := NB299_297.out; have hnc23 := NB297_299.out; have hcz24_0 : w22.cell? ⟨gb299, 0, none⟩ = some (.int .i64 0) := bc_ BK299 0; have hcz24_1 : w22.cell? ⟨gb299, 1, none⟩ = some (.int .i64 0) := bc_ BK299 1; have hfz24_0 := blk_frozen BK299.out 0; have hfz24_1 := blk_frozen BK299.out 1; have hcz25_0 : w22.cell? ⟨gb297, 0, none⟩ = some (.int .i64 a0_0) := bc_ BK297 0; have hcz25_1 : w22.cell? ⟨gb297, 1, none⟩ = some (.int .i64 a0_1) := bc_ BK297 1; have hcz25_2 : w22.cell? ⟨gb297, 2, none⟩ = some (.int .i64 a0_2) := bc_ BK297 2; have hcz25_3 : w22.cell? ⟨gb297, 3, none⟩ = some (.slice (some ad298) l0_3.length c0_3) := bc_ BK297 3; have hfz25_0 := blk_frozen BK297.out 0; have hfz25_1 := blk_frozen BK297.out 1; have hfz25_2 := blk_frozen BK297.out 2; have hfz25_3 := blk_frozen BK297.out 3))
         repeat (go_quiet (first | ((with_reducible refine gate_dst (N := 4) rfl ?_); (try (refine gate_guard (by rfl) ?_; dsimp only)); refine box_event ?hg (N := 4) ?hd (cs := #[.int .i64 0, .int .i64 0]) (t := 50) ?hr ?_; (case hd => rfl); (case hg => rfl); (case hr => first | (go_simp; done) | (go_simp; rfl)); intro gb299 hg w22 hbox hb; have n0_ := (bb_ BK297 hb); have n1_ := Aside0.mk (below_step (hb_ HB) hb); have n2_ := Aside0.mk (hbox); have n3_ := Aside0.mk ((by rw [hg]; exact (below_size (hb_ HB)) : w.heap.size ≤ gb299)); have n4_ := Aside0.mk ((by rw [hg]; exact (below_size (hb_ HB)) : w.heap.size ≤ gb299)); have n5_ := (nlt_ BK297 hg); have n6_ := (ngt_ BK297 hg); clear BK297; clear HB; have BK297 := n0_; have HB := n1_; have BK299 := n2_; have GW299 := n3_; have GE299 := n4_; have NB297_299 := n5_; have NB299_297 := n6_; clear n0_ n1_ n2_ n3_ n4_ n5_ n6_; clear hb hbox hg; have hnb23 := NB299_297.out; have hnc23 := NB297_299.out; have hcz24_0 : w22.cell? ⟨gb299, 0, none⟩ = some (.int .i64 0) := bc_ BK299 0; have hcz24_1 : w22.cell? ⟨gb299, 1, none⟩ = some (.int .i64 0) := bc_ BK299 1; have hfz24_0 := blk_frozen BK299.out 0; have hfz24_1 := blk_frozen BK299.out 1; have hcz25_0 : w22.cell? ⟨gb297, 0, none⟩ = some (.int .i64 a0_0) := bc_ BK297 0; have hcz25_1 : w22.cell? ⟨gb297, 1, none⟩ = some (.int .i64 a0_1) := bc_ BK297 1; have hcz25_2 : w22.cell? ⟨gb297, 2, none⟩ = some (.int .i64 a0_2) := bc_ BK297 2; have hcz25_3 : w22.cell? ⟨gb297, 3, none⟩ = some (.slice (some ad298) l0_3.length c0_3) := bc_ BK297 3; have hfz25_0 := blk_frozen BK297.out 0; have hfz25_1 := blk_frozen BK297.out 1; have hfz25_2 := blk_frozen BK297.out 2; have hfz25_3 := blk_frozen BK297.out 3)); try go_wp2_with (first | ((with_reducible refine gate_dst (N := 4) rfl ?_); (try (refine gate_guard (by rfl) ?_; dsimp only)); refine box_event ?hg (N := 4) ?hd (cs := #[.int .i64 0, .int .i64 0]) (t := 50) ?hr ?_; (case hd => rfl); (case hg => rfl); (case hr => first | (go_simp; done) | (go_simp; rfl)); intro gb299 hg w22 hbox hb; have n0_ := (bb_ BK297 hb); have n1_ := Aside0.mk (below_step (hb_ HB) hb); have n2_ := Aside0.mk (hbox); have n3_ := Aside0.mk ((by rw [hg]; exact (below_size (hb_ HB)) : w.heap.size ≤ gb299)); have n4_ := Aside0.mk ((by rw [hg]; exact (below_size (hb_ HB)) : w.heap.size ≤ gb299)); have n5_ := (nlt_ BK297 hg); have n6_ := (ngt_ BK297 hg); clear BK297; clear HB; have BK297 := n0_; have HB := n1_; have BK299 := n2_; have GW299 := n3_; have GE299 := n4_; have NB297_299 := n5_; have NB299_297 := n6_; clear n0_ n1_ n2_ n3_ n4_ n5_ n6_; clear hb hbox hg; have hnb23 := NB299_297.out; have hnc23 := NB297_299.out; have hcz24_0 : w22.cell? ⟨gb299, 0, none⟩ = some (.int .i64 0) := bc_ BK299 0; have hcz24_1 : w22.cell? ⟨gb299, 1, none⟩ = some (.int .i64 0) := bc_ BK299 1; have hfz24_0 := blk_frozen BK299.out 0; have hfz24_1 := blk_frozen BK299.out 1; have hcz25_0 : w22.cell? ⟨gb297, 0, none⟩ = some (.int .i64 a0_0) := bc_ BK297 0; have hcz25_1 : w22.cell? ⟨gb297, 1, none⟩ = some (.int .i64 a0_1) := bc_ BK297 1; have hcz25_2 : w22.cell? ⟨gb297, 2, none⟩ = some (.int .i64 a0_2) := bc_ BK297 2; have hcz25_3 : w22.cell? ⟨gb297, 3, none⟩ = some (.slice (some ad298) l0_3.length c0_3) := bc_ BK297 3; have hfz25_0 := blk_frozen BK297.out 0; have hfz25_1 := blk_frozen BK297.out 1; have hfz25_2 := blk_frozen BK297.out 2; have hfz25_3 := blk_frozen BK297.out 3)))
         go_ret
         exact ⟨by first | rfl | (simp [errW_none, errW_some] <;> rfl) | (simp [*, errW_none, errW_some] <;> rfl), by repeat (first | (with_reducible first | exact HB.out | apply below_alloc | apply pw_below_drewN | apply below_drew1 | refine below_set ?_ GE297.out | refine below_set ?_ GE299.out) | exact HB.out)⟩
        ·rw [if_neg c20] at H
         have c20b0 : decide (((rd_T50 l0_3 x3_2).f0) < a0_0) = false := decide_eq_false c20
         clear c20
         by_cases c26 : ((rd_T50 l0_3 x3_2).f0) ≥ a0_2
         ·rw [if_pos c26] at H
          have c26b0 : decide (a0_2 ≤ ((rd_T50 l0_3 x3_2).f0)) = true := decide_eq_true c26
          clear c26
          obtain rfl := Option.some.inj H
          have hcz27_0 : wr.cell? ⟨gb297, 0, none⟩ = some (.int .i64 a0_0) := bc_ BK297 0
          have hcz27_1 : wr.cell? ⟨gb297, 1, none⟩ = some (.int .i64 a0_1) := bc_ BK297 1
          have hcz27_2 : wr.cell? ⟨gb297, 2, none⟩ = some (.int .i64 a0_2) := bc_ BK297 2
          have hcz27_3 : wr.cell? ⟨gb297, 3, none⟩ = some (.slice A0_3 l0_3.length c0_3) := bc_ BK297 3
          have hfz27_0 := blk_frozen BK297.out 0
          have hfz27_1 := blk_frozen BK297.out 1
          have hfz27_2 := blk_frozen BK297.out 2
          have hfz27_3 := blk_frozen BK297.out 3
          have p298 : 0 ≤ (x3_2 : Int) := of_decide_eq_true (by first | (with_reducible assumption) | assumption)
          have q298 : x3_2 < (l0_3.length : Int) := of_decide_eq_true (by first | (with_reducible assumption) | assumption)
          obtain ⟨ad298, e298, hx298_0, hx298_1⟩ := at_T50 HR0_3.out x3_2 p298 q298
          cases e298
          replace hx298_0 := (HB.out.cell (World.block_lt_of_cell? w _ hx298_0)).trans hx298_0
          replace hx298_1 := (HB.out.cell (World.block_lt_of_cell? w _ hx298_1)).trans hx298_1
          replace p298 := eq_true p298
          replace q298 := eq_true q298
          go_wp2_with (first | ((with_reducible refine gate_dst (N := 4) rfl ?_); (try (refine gate_guard (by rfl) ?_; dsimp only)); refine box_event ?hg (N := 4) ?hd (cs := #[.int .i64 0, .int .i64 0]) (t := 50) ?hr ?_; (case hd => rfl); (case hg => rfl); (case hr => first | (go_simp; done) | (go_simp; rfl)); intro gb299 hg w28 hbox hb; have n0_ := (bb_ BK297 hb); have n1_ := Aside0.mk (below_step (hb_ HB) hb); have n2_ := Aside0.mk (hbox); have n3_ := Aside0.mk ((by rw [hg]; exact (below_size (hb_ HB)) : w.heap.size ≤ gb299)); have n4_ := Aside0.mk ((by rw [hg]; exact (below_size (hb_ HB)) : w.heap.size ≤ gb299)); have n5_ := (nlt_ BK297 hg); have n6_ := (ngt_ BK297 hg); clear BK297; clear HB; have BK297 := n0_; have HB := n1_; have BK299 := n2_; have GW299 := n3_; have GE299 := n4_; have NB297_299 := n5_; have NB299_297 := n6_; clear n0_ n1_ n2_ n3_ n4_ n5_ n6_; clear hb hbox hg; have hnb29 := NB299_297.out; have hnc29 := NB297_299.out; have hcz30_0 : w28.cell? ⟨gb299, 0, none⟩ = some (.int .i64 0) := bc_ BK299 0; have hcz30_1 : w28.cell? ⟨gb299, 1, none⟩ = some (.int .i64 0) := bc_ BK299 1; have hfz30_0 := blk_frozen BK299.out 0; have hfz30_1 := blk_frozen BK299.out 1; have hcz31_0 : w28.cell? ⟨gb297, 0, none⟩ = some (.int .i64 a0_0) := bc_ BK297 0; have hcz31_1 : w28.cell? ⟨gb297, 1, none⟩ = some (.int .i64 a0_1) := bc_ BK297 1; have hcz31_2 : w28.cell? ⟨gb297, 2, none⟩ = some (.int .i64 a0_2) := bc_ BK297 2; have hcz31_3 : w28.cell? ⟨gb297, 3, none⟩ = some (.slice (some ad298) l0_3.length c0_3) := bc_ BK297 3; have hfz31_0 := blk_frozen BK297.out 0; have hfz31_1 := blk_frozen BK297.out 1; have hfz31_2 := blk_frozen BK297.out 2; have hfz31_3 := blk_frozen BK297.out 3))
          repeat (go_quiet (first | ((with_reducible refine gate_dst (N := 4) rfl ?_); (try (refine gate_guard (by rfl) ?_; dsimp only)); refine box_event ?hg (N := 4) ?hd (cs := #[.int .i64 0, .int .i64 0]) (t := 50) ?hr ?_; (case hd => rfl); (case hg => rfl); (case hr => first | (go_simp; done) | (go_simp; rfl)); intro gb299 hg w28 hbox hb; have n0_ := (bb_ BK297 hb); have n1_ := Aside0.mk (below_step (hb_ HB) hb); have n2_ := Aside0.mk (hbox); have n3_ := Aside0.mk ((by rw [hg]; exact (below_size (hb_ HB)) : w.heap.size ≤ gb299)); have n4_ := Aside0.mk ((by rw [hg]; exact (below_size (hb_ HB)) : w.heap.size ≤ gb299)); have n5_ := (nlt_ BK297 hg); have n6_ := (ngt_ BK297 hg); clear BK297; clear HB; have BK297 := n0_; have HB := n1_; have BK299 := n2_; have GW299 := n3_; have GE299 := n4_; have NB297_299 := n5_; have NB299_297 := n6_; clear n0_ n1_ n2_ n3_ n4_ n5_ n6_; clear hb hbox hg; have hnb29 := NB299_297.out; have hnc29 := NB297_299.out; have hcz30_0 : w28.cell? ⟨gb299, 0, none⟩ = some (.int .i64 0) := bc_ BK299 0; have hcz30_1 : w28.cell? ⟨gb299, 1, none⟩ = some (.int .i64 0) := bc_ BK299 1; have hfz30_0 := blk_frozen BK299.out 0; have hfz30_1 := blk_frozen BK299.out 1; have hcz31_0 : w28.cell? ⟨gb297, 0, none⟩ = some (.int .i64 a0_0) := bc_ BK297 0; have hcz31_1 : w28.cell? ⟨gb297, 1, none⟩ = some (.int .i64 a0_1) := bc_ BK297 1; have hcz31_2 : w28.cell? ⟨gb297, 2, none⟩ = some (.int .i64 a0_2) := bc_ BK297 2; have hcz31_3 : w28.cell? ⟨gb297, 3, none⟩ = some (.slice (some ad298) l0_3.length c0_3) := bc_ BK297 3; have hfz31_0 := blk_frozen BK297.out 0; have hfz31_1 := blk_frozen BK297.out 1; have hfz31_2 := blk_frozen BK297.out 2; have hfz31_3 := blk_frozen BK297.out 3)); try go_wp2_with (first | ((with_reducible refine gate_dst (N := 4) rfl ?_); (try (refine gate_guard (by rfl) ?_; dsimp only)); refine box_event ?hg (N := 4) ?hd (cs := #[.int .i64 0, .int .i64 0]) (t := 50) ?hr ?_; (case hd => rfl); (case hg => rfl); (case hr => first | (go_simp; done) | (go_simp; rfl)); intro gb299 hg w28 hbox hb; have n0_ := (bb_ BK297 hb); have n1_ := Aside0.mk (below_step (hb_ HB) hb); have n2_ := Aside0.mk (hbox); have n3_ := Aside0.mk ((by rw [hg]; exact (below_size (hb_ HB)) : w.heap.size ≤ gb299)); have n4_ := Aside0.mk ((by rw [hg]; exact (below_size (hb_ HB)) : w.heap.size ≤ gb299)); have n5_ := (nlt_ BK297 hg); have n6_ := (ngt_ BK297 hg); clear BK297; clear HB; have BK297 := n0_; have HB := n1_; have BK299 := n2_; have GW299 := n3_; have GE299 := n4_; have NB297_299 := n5_; have NB299_297 := n6_; clear n0_ n1_ n2_ n3_ n4_ n5_ n6_; clear hb hbox hg; have hnb29 := NB299_297.out; have hnc29 := NB297_299.out; have hcz30_0 : w28.cell? ⟨gb299, 0, none⟩ = some (.int .i64 0) := bc_ BK299 0; have hcz30_1 : w28.cell? ⟨gb299, 1, none⟩ = some (.int .i64 0) := bc_ BK299 1; have hfz30_0 := blk_frozen BK299.out 0; have hfz30_1 := blk_frozen BK299.out 1; have hcz31_0 : w28.cell? ⟨gb297, 0, none⟩ = some (.int .i64 a0_0) := bc_ BK297 0; have hcz31_1 : w28.cell? ⟨gb297, 1, none⟩ = some (.int .i64 a0_1) := bc_ BK297 1; have hcz31_2 : w28.cell? ⟨gb297, 2, none⟩ = some (.int .i64 a0_2) := bc_ BK297 2; have hcz31_3 : w28.cell? ⟨gb297, 3, none⟩ = some (.slice (some ad298) l0_3.length c0_3) := bc_ BK297 3; have hfz31_0 := blk_frozen BK297.out 0; have hfz31_1 := blk_frozen BK297.out 1; have hfz31_2 := blk_frozen BK297.out 2; have hfz31_3 := blk_frozen BK297.out 3)))
          go_ret
          exact ⟨by first | rfl | (simp [errW_none, errW_some] <;> rfl) | (simp [*, errW_none, errW_some] <;> rfl), by repeat (first | (with_reducible first | exact HB.out | apply below_alloc | apply pw_below_drewN | apply below_drew1 | refine below_set ?_ GE297.out | refine below_set ?_ GE299.out) | exact HB.out)⟩
         ·rw [if_neg c26] at H
          have c26b0 : decide (a0_2 ≤ ((rd_T50 l0_3 x3_2).f0)) = false := decide_eq_false c26
          clear c26
          by_cases c32 : ((rd_T50 l0_3 x3_2).f1) < 0
          ·rw [if_pos c32] at H
           have c32b0 : decide (((rd_T50 l0_3 x3_2).f1) < 0) = true := decide_eq_true c32
           clear c32
           obtain rfl := Option.some.inj H
           have hcz33_0 : wr.cell? ⟨gb297, 0, none⟩ = some (.int .i64 a0_0) := bc_ BK297 0
           have hcz33_1 : wr.cell? ⟨gb297, 1, none⟩ = some (.int .i64 a0_1) := bc_ BK297 1
           have hcz33_2 : wr.cell? ⟨gb297, 2, none⟩ = some (.int .i64 a0_2) := bc_ BK297 2
           have hcz33_3 : wr.cell? ⟨gb297, 3, none⟩ = some (.slice A0_3 l0_3.length c0_3) := bc_ BK297 3
           have hfz33_0 := blk_frozen BK297.out 0
           have hfz33_1 := blk_frozen BK297.out 1
           have hfz33_2 := blk_frozen BK297.out 2
           have hfz33_3 := blk_frozen BK297.out 3
           have p298 : 0 ≤ (x3_2 : Int) := of_decide_eq_true (by first | (with_reducible assumption) | assumption)
           have q298 : x3_2 < (l0_3.length : Int) := of_decide_eq_true (by first | (with_reducible assumption) | assumption)
           obtain ⟨ad298, e298, hx298_0, hx298_1⟩ := at_T50 HR0_3.out x3_2 p298 q298
           cases e298
           replace hx298_0 := (HB.out.cell (World.block_lt_of_cell? w _ hx298_0)).trans hx298_0
           replace hx298_1 := (HB.out.cell (World.block_lt_of_cell? w _ hx298_1)).trans hx298_1
           replace p298 := eq_true p298
           replace q298 := eq_true q298
           go_wp2_with (first | ((with_reducible refine gate_dst (N := 4) rfl ?_); (try (refine gate_guard (by rfl) ?_; dsimp only)); refine box_event ?hg (N := 4) ?hd (cs := #[.int .i64 0, .int .i64 0]) (t := 50) ?hr ?_; (case hd => rfl); (case hg => rfl); (case hr => first | (go_simp; done) | (go_simp; rfl)); intro gb299 hg w34 hbox hb; have n0_ := (bb_ BK297 hb); have n1_ := Aside0.mk (below_step (hb_ HB) hb); have n2_ := Aside0.mk (hbox); have n3_ := Aside0.mk ((by rw [hg]; exact (below_size (hb_ HB)) : w.heap.size ≤ gb299)); have n4_ := Aside0.mk ((by rw [hg]; exact (below_size (hb_ HB)) : w.heap.size ≤ gb299)); have n5_ := (nlt_ BK297 hg); have n6_ := (ngt_ BK297 hg); clear BK297; clear HB; have BK297 := n0_; have HB := n1_; have BK299 := n2_; have GW299 := n3_; have GE299 := n4_; have NB297_299 := n5_; have NB299_297 := n6_; clear n0_ n1_ n2_ n3_ n4_ n5_ n6_; clear hb hbox hg; have hnb35 := NB299_297.out; have hnc35 := NB297_299.out; have hcz36_0 : w34.cell? ⟨gb299, 0, none⟩ = some (.int .i64 0) := bc_ BK299 0; have hcz36_1 : w34.cell? ⟨gb299, 1, none⟩ = some (.int .i64 0) := bc_ BK299 1; have hfz36_0 := blk_frozen BK299.out 0; have hfz36_1 := blk_frozen BK299.out 1; have hcz37_0 : w34.cell? ⟨gb297, 0, none⟩ = some (.int .i64 a0_0) := bc_ BK297 0; have hcz37_1 : w34.cell? ⟨gb297, 1, none⟩ = some (.int .i64 a0_1) := bc_ BK297 1; have hcz37_2 : w34.cell? ⟨gb297, 2, none⟩ = some (.int .i64 a0_2) := bc_ BK297 2; have hcz37_3 : w34.cell? ⟨gb297, 3, none⟩ = some (.slice (some ad298) l0_3.length c0_3) := bc_ BK297 3; have hfz37_0 := blk_frozen BK297.out 0; have hfz37_1 := blk_frozen BK297.out 1; have hfz37_2 := blk_frozen BK297.out 2; have hfz37_3 := blk_frozen BK297.out 3))
           repeat (go_quiet (first | ((with_reducible refine gate_dst (N := 4) rfl ?_); (try (refine gate_guard (by rfl) ?_; dsimp only)); refine box_event ?hg (N := 4) ?hd (cs := #[.int .i64 0, .int .i64 0]) (t := 50) ?hr ?_; (case hd => rfl); (case hg => rfl); (case hr => first | (go_simp; done) | (go_simp; rfl)); intro gb299 hg w34 hbox hb; have n0_ := (bb_ BK297 hb); have n1_ := Aside0.mk (below_step (hb_ HB) hb); have n2_ := Aside0.mk (hbox); have n3_ := Aside0.mk ((by rw [hg]; exact (below_size (hb_ HB)) : w.heap.size ≤ gb299)); have n4_ := Aside0.mk ((by rw [hg]; exact (below_size (hb_ HB)) : w.heap.size ≤ gb299)); have n5_ := (nlt_ BK297 hg); have n6_ := (ngt_ BK297 hg); clear BK297; clear HB; have BK297 := n0_; have HB := n1_; have BK299 := n2_; have GW299 := n3_; have GE299 := n4_; have NB297_299 := n5_; have NB299_297 := n6_; clear n0_ n1_ n2_ n3_ n4_ n5_ n6_; clear hb hbox hg; have hnb35 := NB299_297.out; have hnc35 := NB297_299.out; have hcz36_0 : w34.cell? ⟨gb299, 0, none⟩ = some (.int .i64 0) := bc_ BK299 0; have hcz36_1 : w34.cell? ⟨gb299, 1, none⟩ = some (.int .i64 0) := bc_ BK299 1; have hfz36_0 := blk_frozen BK299.out 0; have hfz36_1 := blk_frozen BK299.out 1; have hcz37_0 : w34.cell? ⟨gb297, 0, none⟩ = some (.int .i64 a0_0) := bc_ BK297 0; have hcz37_1 : w34.cell? ⟨gb297, 1, none⟩ = some (.int .i64 a0_1) := bc_ BK297 1; have hcz37_2 : w34.cell? ⟨gb297, 2, none⟩ = some (.int .i64 a0_2) := bc_ BK297 2; have hcz37_3 : w34.cell? ⟨gb297, 3, none⟩ = some (.slice (some ad298) l0_3.length c0_3) := bc_ BK297 3; have hfz37_0 := blk_frozen BK297.out 0; have hfz37_1 := blk_frozen BK297.out 1; have hfz37_2 := blk_frozen BK297.out 2; have hfz37_3 := blk_frozen BK297.out 3)); try go_wp2_with (first | ((with_reducible refine gate_dst (N := 4) rfl ?_); (try (refine gate_guard (by rfl) ?_; dsimp only)); refine box_event ?hg (N := 4) ?hd (cs := #[.int .i64 0, .int .i64 0]) (t := 50) ?hr ?_; (case hd => rfl); (case hg => rfl); (case hr => first | (go_simp; done) | (go_simp; rfl)); intro gb299 hg w34 hbox hb; have n0_ := (bb_ BK297 hb); have n1_ := Aside0.mk (below_step (hb_ HB) hb); have n2_ := Aside0.mk (hbox); have n3_ := Aside0.mk ((by rw [hg]; exact (below_size (hb_ HB)) : w.heap.size ≤ gb299)); have n4_ := Aside0.mk ((by rw [hg]; exact (below_size (hb_ HB)) : w.heap.size ≤ gb299)); have n5_ := (nlt_ BK297 hg); have n6_ := (ngt_ BK297 hg); clear BK297; clear HB; have BK297 := n0_; have HB := n1_; have BK299 := n2_; have GW299 := n3_; have GE299 := n4_; have NB297_299 := n5_; have NB299_297 := n6_; clear n0_ n1_ n2_ n3_ n4_ n5_ n6_; clear hb hbox hg; have hnb35 := NB299_297.out; have hnc35 := NB297_299.out; have hcz36_0 : w34.cell? ⟨gb299, 0, none⟩ = some (.int .i64 0) := bc_ BK299 0; have hcz36_1 : w34.cell? ⟨gb299, 1, none⟩ = some (.int .i64 0) := bc_ BK299 1; have hfz36_0 := blk_frozen BK299.out 0; have hfz36_1 := blk_frozen BK299.out 1; have hcz37_0 : w34.cell? ⟨gb297, 0, none⟩ = some (.int .i64 a0_0) := bc_ BK297 0; have hcz37_1 : w34.cell? ⟨gb297, 1, none⟩ = some (.int .i64 a0_1) := bc_ BK297 1; have hcz37_2 : w34.cell? ⟨gb297, 2, none⟩ = some (.int .i64 a0_2) := bc_ BK297 2; have hcz37_3 : w34.cell? ⟨gb297, 3, none⟩ = some (.slice (some ad298) l0_3.length c0_3) := bc_ BK297 3; have hfz37_0 := blk_frozen BK297.out 0; have hfz37_1 := blk_frozen BK297.out 1; have hfz37_2 := blk_frozen BK297.out 2; have hfz37_3 := blk_frozen BK297.out 3)))
           go_ret
           exact ⟨by first | rfl | (simp [errW_none, errW_some] <;> rfl) | (simp [*, errW_none, errW_some] <;> rfl), by repeat (first | (with_reducible first | exact HB.out | apply below_alloc | apply pw_below_drewN | apply below_drew1 | refine below_set ?_ GE297.out | refine below_set ?_ GE299.out) | exact HB.out)⟩
          ·rw [if_neg c32] at H
           have c32b0 : decide (((rd_T50 l0_3 x3_2).f1) < 0) = false := decide_eq_false c32
           clear c32
           by_cases c38 : ((rd_T50 l0_3 x3_2).f1) > 10000
           ·rw [if_pos c38] at H
            have c38b0 : decide (10000 < ((rd_T50 l0_3 x3_2).f1)) = true := decide_eq_true c38
            clear c38
            obtain rfl := Option.some.inj H
            have hcz39_0 : wr.cell? ⟨gb297, 0, none⟩ = some (.int .i64 a0_0) := bc_ BK297 0
            have hcz39_1 : wr.cell? ⟨gb297, 1, none⟩ = some (.int .i64 a0_1) := bc_ BK297 1
            have hcz39_2 : wr.cell? ⟨gb297, 2, none⟩ = some (.int .i64 a0_2) := bc_ BK297 2
            have hcz39_3 : wr.cell? ⟨gb297, 3, none⟩ = some (.slice A0_3 l0_3.length c0_3) := bc_ BK297 3
            have hfz39_0 := blk_frozen BK297.out 0
            have hfz39_1 := blk_frozen BK297.out 1
            have hfz39_2 := blk_frozen BK297.out 2
            have hfz39_3 := blk_frozen BK297.out 3
            have p298 : 0 ≤ (x3_2 : Int) := of_decide_eq_true (by first | (with_reducible assumption) | assumption)
            have q298 : x3_2 < (l0_3.length : Int) := of_decide_eq_true (by first | (with_reducible assumption) | assumption)
            obtain ⟨ad298, e298, hx298_0, hx298_1⟩ := at_T50 HR0_3.out x3_2 p298 q298
            cases e298
            replace hx298_0 := (HB.out.cell (World.block_lt_of_cell? w _ hx298_0)).trans hx298_0
            replace hx298_1 := (HB.out.cell (World.block_lt_of_cell? w _ hx298_1)).trans hx298_1
            replace p298 := eq_true p298
            replace q298 := eq_true q298
            go_wp2_with (first | ((with_reducible refine gate_dst (N := 4) rfl ?_); (try (refine gate_guard (by rfl) ?_; dsimp only)); refine box_event ?hg (N := 4) ?hd (cs := #[.int .i64 0, .int .i64 0]) (t := 50) ?hr ?_; (case hd => rfl); (case hg => rfl); (case hr => first | (go_simp; done) | (go_simp; rfl)); intro gb299 hg w40 hbox hb; have n0_ := (bb_ BK297 hb); have n1_ := Aside0.mk (below_step (hb_ HB) hb); have n2_ := Aside0.mk (hbox); have n3_ := Aside0.mk ((by rw [hg]; exact (below_size (hb_ HB)) : w.heap.size ≤ gb299)); have n4_ := Aside0.mk ((by rw [hg]; exact (below_size (hb_ HB)) : w.heap.size ≤ gb299)); have n5_ := (nlt_ BK297 hg); have n6_ := (ngt_ BK297 hg); clear BK297; clear HB; have BK297 := n0_; have HB := n1_; have BK299 := n2_; have GW299 := n3_; have GE299 := n4_; have NB297_299 := n5_; have NB299_297 := n6_; clear n0_ n1_ n2_ n3_ n4_ n5_ n6_; clear hb hbox hg; have hnb41 := NB299_297.out; have hnc41 := NB297_299.out; have hcz42_0 : w40.cell? ⟨gb299, 0, none⟩ = some (.int .i64 0) := bc_ BK299 0; have hcz42_1 : w40.cell? ⟨gb299, 1, none⟩ = some (.int .i64 0) := bc_ BK299 1; have hfz42_0 := blk_frozen BK299.out 0; have hfz42_1 := blk_frozen BK299.out 1; have hcz43_0 : w40.cell? ⟨gb297, 0, none⟩ = some (.int .i64 a0_0) := bc_ BK297 0; have hcz43_1 : w40.cell? ⟨gb297, 1, none⟩ = some (.int .i64 a0_1) := bc_ BK297 1; have hcz43_2 : w40.cell? ⟨gb297, 2, none⟩ = some (.int .i64 a0_2) := bc_ BK297 2; have hcz43_3 : w40.cell? ⟨gb297, 3, none⟩ = some (.slice (some ad298) l0_3.length c0_3) := bc_ BK297 3; have hfz43_0 := blk_frozen BK297.out 0; have hfz43_1 := blk_frozen BK297.out 1; have hfz43_2 := blk_frozen BK297.out 2; have hfz43_3 := blk_frozen BK297.out 3))
            repeat (go_quiet (first | ((with_reducible refine gate_dst (N := 4) rfl ?_); (try (refine gate_guard (by rfl) ?_; dsimp only)); refine box_event ?hg (N := 4) ?hd (cs := #[.int .i64 0, .int .i64 0]) (t := 50) ?hr ?_; (case hd => rfl); (case hg => rfl); (case hr => first | (go_simp; done) | (go_simp; rfl)); intro gb299 hg w40 hbox hb; have n0_ := (bb_ BK297 hb); have n1_ := Aside0.mk (below_step (hb_ HB) hb); have n2_ := Aside0.mk (hbox); have n3_ := Aside0.mk ((by rw [hg]; exact (below_size (hb_ HB)) : w.heap.size ≤ gb299)); have n4_ := Aside0.mk ((by rw [hg]; exact (below_size (hb_ HB)) : w.heap.size ≤ gb299)); have n5_ := (nlt_ BK297 hg); have n6_ := (ngt_ BK297 hg); clear BK297; clear HB; have BK297 := n0_; have HB := n1_; have BK299 := n2_; have GW299 := n3_; have GE299 := n4_; have NB297_299 := n5_; have NB299_297 := n6_; clear n0_ n1_ n2_ n3_ n4_ n5_ n6_; clear hb hbox hg; have hnb41 := NB299_297.out; have hnc41 := NB297_299.out; have hcz42_0 : w40.cell? ⟨gb299, 0, none⟩ = some (.int .i64 0) := bc_ BK299 0; have hcz42_1 : w40.cell? ⟨gb299, 1, none⟩ = some (.int .i64 0) := bc_ BK299 1; have hfz42_0 := blk_frozen BK299.out 0; have hfz42_1 := blk_frozen BK299.out 1; have hcz43_0 : w40.cell? ⟨gb297, 0, none⟩ = some (.int .i64 a0_0) := bc_ BK297 0; have hcz43_1 : w40.cell? ⟨gb297, 1, none⟩ = some (.int .i64 a0_1) := bc_ BK297 1; have hcz43_2 : w40.cell? ⟨gb297, 2, none⟩ = some (.int .i64 a0_2) := bc_ BK297 2; have hcz43_3 : w40.cell? ⟨gb297, 3, none⟩ = some (.slice (some ad298) l0_3.length c0_3) := bc_ BK297 3; have hfz43_0 := blk_frozen BK297.out 0; have hfz43_1 := blk_frozen BK297.out 1; have hfz43_2 := blk_frozen BK297.out 2; have hfz43_3 := blk_frozen BK297.out 3)); try go_wp2_with (first | ((with_reducible refine gate_dst (N := 4) rfl ?_); (try (refine gate_guard (by rfl) ?_; dsimp only)); refine box_event ?hg (N := 4) ?hd (cs := #[.int .i64 0, .int .i64 0]) (t := 50) ?hr ?_; (case hd => rfl); (case hg => rfl); (case hr => first | (go_simp; done) | (go_simp; rfl)); intro gb299 hg w40 hbox hb; have n0_ := (bb_ BK297 hb); have n1_ := Aside0.mk (below_step (hb_ HB) hb); have n2_ := Aside0.mk (hbox); have n3_ := Aside0.mk ((by rw [hg]; exact (below_size (hb_ HB)) : w.heap.size ≤ gb299)); have n4_ := Aside0.mk ((by rw [hg]; exact (below_size (hb_ HB)) : w.heap.size ≤ gb299)); have n5_ := (nlt_ BK297 hg); have n6_ := (ngt_ BK297 hg); clear BK297; clear HB; have BK297 := n0_; have HB := n1_; have BK299 := n2_; have GW299 := n3_; have GE299 := n4_; have NB297_299 := n5_; have NB299_297 := n6_; clear n0_ n1_ n2_ n3_ n4_ n5_ n6_; clear hb hbox hg; have hnb41 := NB299_297.out; have hnc41 := NB297_299.out; have hcz42_0 : w40.cell? ⟨gb299, 0, none⟩ = some (.int .i64 0) := bc_ BK299 0; have hcz42_1 : w40.cell? ⟨gb299, 1, none⟩ = some (.int .i64 0) := bc_ BK299 1; have hfz42_0 := blk_frozen BK299.out 0; have hfz42_1 := blk_frozen BK299.out 1; have hcz43_0 : w40.cell? ⟨gb297, 0, none⟩ = some (.int .i64 a0_0) := bc_ BK297 0; have hcz43_1 : w40.cell? ⟨gb297, 1, none⟩ = some (.int .i64 a0_1) := bc_ BK297 1; have hcz43_2 : w40.cell? ⟨gb297, 2, none⟩ = some (.int .i64 a0_2) := bc_ BK297 2; have hcz43_3 : w40.cell? ⟨gb297, 3, none⟩ = some (.slice (some ad298) l0_3.length c0_3) := bc_ BK297 3; have hfz43_0 := blk_frozen BK297.out 0; have hfz43_1 := blk_frozen BK297.out 1; have hfz43_2 := blk_frozen BK297.out 2; have hfz43_3 := blk_frozen BK297.out 3)))
            go_ret
            exact ⟨by first | rfl | (simp [errW_none, errW_some] <;> rfl) | (simp [*, errW_none, errW_some] <;> rfl), by repeat (first | (with_reducible first | exact HB.out | apply below_alloc | apply pw_below_drewN | apply below_drew1 | refine below_set ?_ GE297.out | refine below_set ?_ GE299.out) | exact HB.out)⟩
           ·rw [if_neg c38] at H
            have c38b0 : decide (10000 < ((rd_T50 l0_3 x3_2).f1)) = false := decide_eq_false c38
            clear c38
            by_cases c44 : x3_2 > 0
            ·rw [if_pos c44] at H
             have c44b0 : decide (0 < x3_2) = true := decide_eq_true c44
             clear c44
             obtain ⟨ji45, hji45⟩ : ∃ j_ : Int, (wrap64 (x3_2 - 1)) = j_ := ⟨_, rfl⟩
             replace H : (if 0 ≤ (ji45) then (if (ji45) < (l0_3.length : Int) then (if ((rd_T50 l0_3 x3_2).f0) ≤ ((rd_T50 l0_3 (ji45)).f0) then (some false) else (chargeparkref33_Valid.l0 k2 (wrap64 (x3_2 + 1)) a0_0 a0_1 a0_2 l0_3)) else (none)) else (none)) = some r := by first | (rw [hji45] at H; exact H) | (simp only [hji45] at H ⊢; exact H)
             have hji45w : (IntKind.i64.wrap (x3_2 - 1)) = ji45 := (i64_w _).trans hji45
             by_cases c46 : 0 ≤ (ji45)
             ·rw [if_pos c46] at H
              have c46b0 : decide (0 ≤ (ji45)) = true := decide_eq_true c46
              clear c46
              by_cases c47 : (ji45) < (l0_3.length : Int)
              ·rw [if_pos c47] at H
               have c47b0 : decide ((ji45) < (l0_3.length : Int)) = true := decide_eq_true c47
               clear c47
               by_cases c48 : ((rd_T50 l0_3 x3_2).f0) ≤ ((rd_T50 l0_3 (ji45)).f0)
               ·rw [if_pos c48] at H
                have c48b0 : decide (((rd_T50 l0_3 x3_2).f0) ≤ ((rd_T50 l0_3 (ji45)).f0)) = true := decide_eq_true c48
                clear c48
                obtain rfl := Option.some.inj H
                have hcz49_0 : wr.cell? ⟨gb297, 0, none⟩ = some (.int .i64 a0_0) := bc_ BK297 0
                have hcz49_1 : wr.cell? ⟨gb297, 1, none⟩ = some (.int .i64 a0_1) := bc_ BK297 1
                have hcz49_2 : wr.cell? ⟨gb297, 2, none⟩ = some (.int .i64 a0_2) := bc_ BK297 2
                have hcz49_3 : wr.cell? ⟨gb297, 3, none⟩ = some (.slice A0_3 l0_3.length c0_3) := bc_ BK297 3
                have hfz49_0 := blk_frozen BK297.out 0
                have hfz49_1 := blk_frozen BK297.out 1
                have hfz49_2 := blk_frozen BK297.out 2
                have hfz49_3 := blk_frozen BK297.out 3
                have p298 : 0 ≤ (x3_2 : Int) := of_decide_eq_true (by first | (with_reducible assumption) | assumption)
                have q298 : x3_2 < (l0_3.length : Int) := of_decide_eq_true (by first | (with_reducible assumption) | assumption)
                obtain ⟨ad298, e298, hx298_0, hx298_1⟩ := at_T50 HR0_3.out x3_2 p298 q298
                cases e298
                replace hx298_0 := (HB.out.cell (World.block_lt_of_cell? w _ hx298_0)).trans hx298_0
                replace hx298_1 := (HB.out.cell (World.block_lt_of_cell? w _ hx298_1)).trans hx298_1
                replace p298 := eq_true p298
                replace q298 := eq_true q298
                go_wp2_with (first | ((with_reducible refine gate_dst (N := 4) rfl ?_); (try (refine gate_guard (by rfl) ?_; dsimp only)); refine box_event ?hg (N := 4) ?hd (cs := #[.int .i64 0, .int .i64 0]) (t := 50) ?hr ?_; (case hd => rfl); (case hg => rfl); (case hr => first | (go_simp; done) | (go_simp; rfl)); intro gb299 hg w50 hbox hb; have n0_ := (bb_ BK297 hb); have n1_ := Aside0.mk (below_step (hb_ HB) hb); have n2_ := Aside0.mk (hbox); have n3_ := Aside0.mk ((by rw [hg]; exact (below_size (hb_ HB)) : w.heap.size ≤ gb299)); have n4_ := Aside0.mk ((by rw [hg]; exact (below_size (hb_ HB)) : w.heap.size ≤ gb299)); have n5_ := (nlt_ BK297 hg); have n6_ := (ngt_ BK297 hg); clear BK297; clear HB; have BK297 := n0_; have HB := n1_; have BK299 := n2_; have GW299 := n3_; have GE299 := n4_; have NB297_299 := n5_; have NB299_297 := n6_; clear n0_ n1_ n2_ n3_ n4_ n5_ n6_; clear hb hbox hg; have hnb51 := NB299_297.out; have hnc51 := NB297_299.out; have hcz52_0 : w50.cell? ⟨gb299, 0, none⟩ = some (.int .i64 0) := bc_ BK299 0; have hcz52_1 : w50.cell? ⟨gb299, 1, none⟩ = some (.int .i64 0) := bc_ BK299 1; have hfz52_0 := blk_frozen BK299.out 0; have hfz52_1 := blk_frozen BK299.out 1; have hcz53_0 : w50.cell? ⟨gb297, 0, none⟩ = some (.int .i64 a0_0) := bc_ BK297 0; have hcz53_1 : w50.cell? ⟨gb297, 1, none⟩ = some (.int .i64 a0_1) := bc_ BK297 1; have hcz53_2 : w50.cell? ⟨gb297, 2, none⟩ = some (.int .i64 a0_2) := bc_ BK297 2; have hcz53_3 : w50.cell? ⟨gb297, 3, none⟩ = some (.slice (some ad298) l0_3.length c0_3) := bc_ BK297 3; have hfz53_0 := blk_frozen BK297.out 0; have hfz53_1 := blk_frozen BK297.out 1; have hfz53_2 := blk_frozen BK297.out 2; have hfz53_3 := blk_frozen BK297.out 3; have p300 : 0 ≤ ((ji45) : Int) := of_decide_eq_true (by first | (with_reducible assumption) | assumption); have q300 : (ji45) < (l0_3.length : Int) := of_decide_eq_true (by first | (with_reducible assumption) | assumption); obtain ⟨ad300, e300, hx300_0, hx300_1⟩ := at_T50 HR0_3.out (ji45) p300 q300; obtain rfl : ad298 = ad300 := (by injection e300); have hn300_0 : ad298.block ≠ gb299 := Nat.ne_of_lt (Nat.lt_of_lt_of_le (by have := World.block_lt_of_cell? _ _ hx300_0; first | rwa [add_block] at this | exact this) GW299.out); have hn300_1 : ad298.block ≠ gb299 := Nat.ne_of_lt (Nat.lt_of_lt_of_le (by have := World.block_lt_of_cell? _ _ hx300_0; first | rwa [add_block] at this | exact this) GW299.out); replace hx300_0 := (HB.out.cell (World.block_lt_of_cell? w _ hx300_0)).trans hx300_0; replace hx300_1 := (HB.out.cell (World.block_lt_of_cell? w _ hx300_1)).trans hx300_1; replace hx300_0 := (cell_far (p := ⟨gb299, 0, none⟩) (by first | (rw [add_block]; exact hn300_0) | (show (Addr.add _ _).block ≠ _; rw [add_block]; exact hn300_0) | exact hn300_0) (.int .i64 ((rd_T50 l0_3 x3_2).f0))).trans hx300_0; replace hx300_1 := (cell_far (p := ⟨gb299, 0, none⟩) (by first | (rw [add_block]; exact hn300_0) | (show (Addr.add _ _).block ≠ _; rw [add_block]; exact hn300_0) | exact hn300_0) (.int .i64 ((rd_T50 l0_3 x3_2).f0))).trans hx300_1; replace hx300_0 := (cell_far (p := ⟨gb299, 1, none⟩) (by first | (rw [add_block]; exact hn300_1) | (show (Addr.add _ _).block ≠ _; rw [add_block]; exact hn300_1) | exact hn300_1) (.int .i64 ((rd_T50 l0_3 x3_2).f1))).trans hx300_0; replace hx300_1 := (cell_far (p := ⟨gb299, 1, none⟩) (by first | (rw [add_block]; exact hn300_1) | (show (Addr.add _ _).block ≠ _; rw [add_block]; exact hn300_1) | exact hn300_1) (.int .i64 ((rd_T50 l0_3 x3_2).f1))).trans hx300_1; (try have hy300_0 := fun (n_ : Nat) => (show ((((w50.drewN n_).setCell ⟨gb299, 0, none⟩ (.int .i64 ((rd_T50 l0_3 x3_2).f0))).setCell ⟨gb299, 1, none⟩ (.int .i64 ((rd_T50 l0_3 x3_2).f1)))).cell? _ = some _ from hx300_0)); (try have hy300_1 := fun (n_ : Nat) => (show ((((w50.drewN n_).setCell ⟨gb299, 0, none⟩ (.int .i64 ((rd_T50 l0_3 x3_2).f0))).setCell ⟨gb299, 1, none⟩ (.int .i64 ((rd_T50 l0_3 x3_2).f1)))).cell? _ = some _ from hx300_1)); clear hn300_0; clear hn300_1; replace p300 := eq_true p300; replace q300 := eq_true q300))
                repeat (go_quiet (first | ((with_reducible refine gate_dst (N := 4) rfl ?_); (try (refine gate_guard (by rfl) ?_; dsimp only)); refine box_event ?hg (N := 4) ?hd (cs := #[.int .i64 0, .int .i64 0]) (t := 50) ?hr ?_; (case hd => rfl); (case hg => rfl); (case hr => first | (go_simp; done) | (go_simp; rfl)); intro gb299 hg w50 hbox hb; have n0_ := (bb_ BK297 hb); have n1_ := Aside0.mk (below_step (hb_ HB) hb); have n2_ := Aside0.mk (hbox); have n3_ := Aside0.mk ((by rw [hg]; exact (below_size (hb_ HB)) : w.heap.size ≤ gb299)); have n4_ := Aside0.mk ((by rw [hg]; exact (below_size (hb_ HB)) : w.heap.size ≤ gb299)); have n5_ := (nlt_ BK297 hg); have n6_ := (ngt_ BK297 hg); clear BK297; clear HB; have BK297 := n0_; have HB := n1_; have BK299 := n2_; have GW299 := n3_; have GE299 := n4_; have NB297_299 := n5_; have NB299_297 := n6_; clear n0_ n1_ n2_ n3_ n4_ n5_ n6_; clear hb hbox hg; have hnb51 := NB299_297.out; have hnc51 := NB297_299.out; have hcz52_0 : w50.cell? ⟨gb299, 0, none⟩ = some (.int .i64 0) := bc_ BK299 0; have hcz52_1 : w50.cell? ⟨gb299, 1, none⟩ = some (.int .i64 0) := bc_ BK299 1; have hfz52_0 := blk_frozen BK299.out 0; have hfz52_1 := blk_frozen BK299.out 1; have hcz53_0 : w50.cell? ⟨gb297, 0, none⟩ = some (.int .i64 a0_0) := bc_ BK297 0; have hcz53_1 : w50.cell? ⟨gb297, 1, none⟩ = some (.int .i64 a0_1) := bc_ BK297 1; have hcz53_2 : w50.cell? ⟨gb297, 2, none⟩ = some (.int .i64 a0_2) := bc_ BK297 2; have hcz53_3 : w50.cell? ⟨gb297, 3, none⟩ = some (.slice (some ad298) l0_3.length c0_3) := bc_ BK297 3; have hfz53_0 := blk_frozen BK297.out 0; have hfz53_1 := blk_frozen BK297.out 1; have hfz53_2 := blk_frozen BK297.out 2; have hfz53_3 := blk_frozen BK297.out 3; have p300 : 0 ≤ ((ji45) : Int) := of_decide_eq_true (by first | (with_reducible assumption) | assumption); have q300 : (ji45) < (l0_3.length : Int) := of_decide_eq_true (by first | (with_reducible assumption) | assumption); obtain ⟨ad300, e300, hx300_0, hx300_1⟩ := at_T50 HR0_3.out (ji45) p300 q300; obtain rfl : ad298 = ad300 := (by injection e300); have hn300_0 : ad298.block ≠ gb299 := Nat.ne_of_lt (Nat.lt_of_lt_of_le (by have := World.block_lt_of_cell? _ _ hx300_0; first | rwa [add_block] at this | exact this) GW299.out); have hn300_1 : ad298.block ≠ gb299 := Nat.ne_of_lt (Nat.lt_of_lt_of_le (by have := World.block_lt_of_cell? _ _ hx300_0; first | rwa [add_block] at this | exact this) GW299.out); replace hx300_0 := (HB.out.cell (World.block_lt_of_cell? w _ hx300_0)).trans hx300_0; replace hx300_1 := (HB.out.cell (World.block_lt_of_cell? w _ hx300_1)).trans hx300_1; replace hx300_0 := (cell_far (p := ⟨gb299, 0, none⟩) (by first | (rw [add_block]; exact hn300_0) | (show (Addr.add _ _).block ≠ _; rw [add_block]; exact hn300_0) | exact hn300_0) (.int .i64 ((rd_T50 l0_3 x3_2).f0))).trans hx300_0; replace hx300_1 := (cell_far (p := ⟨gb299, 0, none⟩) (by first | (rw [add_block]; exact hn300_0) | (show (Addr.add _ _).block ≠ _; rw [add_block]; exact hn300_0) | exact hn300_0) (.int .i64 ((rd_T50 l0_3 x3_2).f0))).trans hx300_1; replace hx300_0 := (cell_far (p := ⟨gb299, 1, none⟩) (by first | (rw [add_block]; exact hn300_1) | (show (Addr.add _ _).block ≠ _; rw [add_block]; exact hn300_1) | exact hn300_1) (.int .i64 ((rd_T50 l0_3 x3_2).f1))).trans hx300_0; replace hx300_1 := (cell_far (p := ⟨gb299, 1, none⟩) (by first | (rw [add_block]; exact hn300_1) | (show (Addr.add _ _).block ≠ _; rw [add_block]; exact hn300_1) | exact hn300_1) (.int .i64 ((rd_T50 l0_3 x3_2).f1))).trans hx300_1; (try have hy300_0 := fun (n_ : Nat) => (show ((((w50.drewN n_).setCell ⟨gb299, 0, none⟩ (.int .i64 ((rd_T50 l0_3 x3_2).f0))).setCell ⟨gb299, 1, none⟩ (.int .i64 ((rd_T50 l0_3 x3_2).f1)))).cell? _ = some _ from hx300_0)); (try have hy300_1 := fun (n_ : Nat) => (show ((((w50.drewN n_).setCell ⟨gb299, 0, none⟩ (.int .i64 ((rd_T50 l0_3 x3_2).f0))).setCell ⟨gb299, 1, none⟩ (.int .i64 ((rd_T50 l0_3 x3_2).f1)))).cell? _ = some _ from hx300_1)); clear hn300_0; clear hn300_1; replace p300 := eq_true p300; replace q300 := eq_true q300)); try go_wp2_with (first | ((with_reducible refine gate_dst (N := 4) rfl ?_); (try (refine gate_guard (by rfl) ?_; dsimp only)); refine box_event ?hg (N := 4) ?hd (cs := #[.int .i64 0, .int .i64 0]) (t := 50) ?hr ?_; (case hd => rfl); (case hg => rfl); (case hr => first | (go_simp; done) | (go_simp; rfl)); intro gb299 hg w50 hbox hb; have n0_ := (bb_ BK297 hb); have n1_ := Aside0.mk (below_step (hb_ HB) hb); have n2_ := Aside0.mk (hbox); have n3_ := Aside0.mk ((by rw [hg]; exact (below_size (hb_ HB)) : w.heap.size ≤ gb299)); have n4_ := Aside0.mk ((by rw [hg]; exact (below_size (hb_ HB)) : w.heap.size ≤ gb299)); have n5_ := (nlt_ BK297 hg); have n6_ := (ngt_ BK297 hg); clear BK297; clear HB; have BK297 := n0_; have HB := n1_; have BK299 := n2_; have GW299 := n3_; have GE299 := n4_; have NB297_299 := n5_; have NB299_297 := n6_; clear n0_ n1_ n2_ n3_ n4_ n5_ n6_; clear hb hbox hg; have hnb51 := NB299_297.out; have hnc51 := NB297_299.out; have hcz52_0 : w50.cell? ⟨gb299, 0, none⟩ = some (.int .i64 0) := bc_ BK299 0; have hcz52_1 : w50.cell? ⟨gb299, 1, none⟩ = some (.int .i64 0) := bc_ BK299 1; have hfz52_0 := blk_frozen BK299.out 0; have hfz52_1 := blk_frozen BK299.out 1; have hcz53_0 : w50.cell? ⟨gb297, 0, none⟩ = some (.int .i64 a0_0) := bc_ BK297 0; have hcz53_1 : w50.cell? ⟨gb297, 1, none⟩ = some (.int .i64 a0_1) := bc_ BK297 1; have hcz53_2 : w50.cell? ⟨gb297, 2, none⟩ = some (.int .i64 a0_2) := bc_ BK297 2; have hcz53_3 : w50.cell? ⟨gb297, 3, none⟩ = some (.slice (some ad298) l0_3.length c0_3) := bc_ BK297 3; have hfz53_0 := blk_frozen BK297.out 0; have hfz53_1 := blk_frozen BK297.out 1; have hfz53_2 := blk_frozen BK297.out 2; have hfz53_3 := blk_frozen BK297.out 3; have p300 : 0 ≤ ((ji45) : Int) := of_decide_eq_true (by first | (with_reducible assumption) | assumption); have q300 : (ji45) < (l0_3.length : Int) := of_decide_eq_true (by first | (with_reducible assumption) | assumption); obtain ⟨ad300, e300, hx300_0, hx300_1⟩ := at_T50 HR0_3.out (ji45) p300 q300; obtain rfl : ad298 = ad300 := (by injection e300); have hn300_0 : ad298.block ≠ gb299 := Nat.ne_of_lt (Nat.lt_of_lt_of_le (by have := World.block_lt_of_cell? _ _ hx300_0; first | rwa [add_block] at this | exact this) GW299.out); have hn300_1 : ad298.block ≠ gb299 := Nat.ne_of_lt (Nat.lt_of_lt_of_le (by have := World.block_lt_of_cell? _ _ hx300_0; first | rwa [add_block] at this | exact this) GW299.out); replace hx300_0 := (HB.out.cell (World.block_lt_of_cell? w _ hx300_0)).trans hx300_0; replace hx300_1 := (HB.out.cell (World.block_lt_of_cell? w _ hx300_1)).trans hx300_1; replace hx300_0 := (cell_far (p := ⟨gb299, 0, none⟩) (by first | (rw [add_block]; exact hn300_0) | (show (Addr.add _ _).block ≠ _; rw [add_block]; exact hn300_0) | exact hn300_0) (.int .i64 ((rd_T50 l0_3 x3_2).f0))).trans hx300_0; replace hx300_1 := (cell_far (p := ⟨gb299, 0, none⟩) (by first | (rw [add_block]; exact hn300_0) | (show (Addr.add _ _).block ≠ _; rw [add_block]; exact hn300_0) | exact hn300_0) (.int .i64 ((rd_T50 l0_3 x3_2).f0))).trans hx300_1; replace hx300_0 := (cell_far (p := ⟨gb299, 1, none⟩) (by first | (rw [add_block]; exact hn300_1) | (show (Addr.add _ _).block ≠ _; rw [add_block]; exact hn300_1) | exact hn300_1) (.int .i64 ((rd_T50 l0_3 x3_2).f1))).trans hx300_0; replace hx300_1 := (cell_far (p := ⟨gb299, 1, none⟩) (by first | (rw [add_block]; exact hn300_1) | (show (Addr.add _ _).block ≠ _; rw [add_block]; exact hn300_1) | exact hn300_1) (.int .i64 ((rd_T50 l0_3 x3_2).f1))).trans hx300_1; (try have hy300_0 := fun (n_ : Nat) => (show ((((w50.drewN n_).setCell ⟨gb299, 0, none⟩ (.int .i64 ((rd_T50 l0_3 x3_2).f0))).setCell ⟨gb299, 1, none⟩ (.int .i64 ((rd_T50 l0_3 x3_2).f1)))).cell? _ = some _ from hx300_0)); (try have hy300_1 := fun (n_ : Nat) => (show ((((w50.drewN n_).setCell ⟨gb299, 0, none⟩ (.int .i64 ((rd_T50 l0_3 x3_2).f0))).setCell ⟨gb299, 1, none⟩ (.int .i64 ((rd_T50 l0_3 x3_2).f1)))).cell? _ = some _ from hx300_1)); clear hn300_0; clear hn300_1; replace p300 := eq_true p300; replace q300 := eq_true q300)))
                go_ret
                exact ⟨by first | rfl | (simp [errW_none, errW_some] <;> rfl) | (simp only [← hji45]; first | rfl | (simp [errW_none, errW_some] <;> rfl)) | (simp [*, errW_none, errW_some] <;> rfl), by repeat (first | (with_reducible first | exact HB.out | apply below_alloc | apply pw_below_drewN | apply below_drew1 | refine below_set ?_ GE297.out | refine below_set ?_ GE299.out) | exact HB.out)⟩
               ·rw [if_neg c48] at H
                have c48b0 : decide (((rd_T50 l0_3 x3_2).f0) ≤ ((rd_T50 l0_3 (ji45)).f0)) = false := decide_eq_false c48
                clear c48
                have H' := Aside0.mk H
                clear H
                have hcz54_0 : wr.cell? ⟨gb297, 0, none⟩ = some (.int .i64 a0_0) := bc_ BK297 0
                have hcz54_1 : wr.cell? ⟨gb297, 1, none⟩ = some (.int .i64 a0_1) := bc_ BK297 1
                have hcz54_2 : wr.cell? ⟨gb297, 2, none⟩ = some (.int .i64 a0_2) := bc_ BK297 2
                have hcz54_3 : wr.cell? ⟨gb297, 3, none⟩ = some (.slice A0_3 l0_3.length c0_3) := bc_ BK297 3
                have hfz54_0 := blk_frozen BK297.out 0
                have hfz54_1 := blk_frozen BK297.out 1
                have hfz54_2 := blk_frozen BK297.out 2
                have hfz54_3 := blk_frozen BK297.out 3
                have p298 : 0 ≤ (x3_2 : Int) := of_decide_eq_true (by first | (with_reducible assumption) | assumption)
                have q298 : x3_2 < (l0_3.length : Int) := of_decide_eq_true (by first | (with_reducible assumption) | assumption)
                obtain ⟨ad298, e298, hx298_0, hx298_1⟩ := at_T50 HR0_3.out x3_2 p298 q298
                cases e298
                replace hx298_0 := (HB.out.cell (World.block_lt_of_cell? w _ hx298_0)).trans hx298_0
                replace hx298_1 := (HB.out.cell (World.block_lt_of_cell? w _ hx298_1)).trans hx298_1
                replace p298 := eq_true p298
                replace q298 := eq_true q298
                go_wp2_with (first | ((with_reducible refine gate_dst (N := 4) rfl ?_); (try (refine gate_guard (by rfl) ?_; dsimp only)); refine box_event ?hg (N := 4) ?hd (cs := #[.int .i64 0, .int .i64 0]) (t := 50) ?hr ?_; (case hd => rfl); (case hg => rfl); (case hr => first | (go_simp; done) | (go_simp; rfl)); intro gb299 hg w55 hbox hb; have n0_ := (bb_ BK297 hb); have n1_ := Aside0.mk (below_step (hb_ HB) hb); have n2_ := Aside0.mk (hbox); have n3_ := Aside0.mk ((by rw [hg]; exact (below_size (hb_ HB)) : w.heap.size ≤ gb299)); have n4_ := Aside0.mk ((by rw [hg]; exact (below_size (hb_ HB)) : w.heap.size ≤ gb299)); have n5_ := (nlt_ BK297 hg); have n6_ := (ngt_ BK297 hg); clear BK297; clear HB; have BK297 := n0_; have HB := n1_; have BK299 := n2_; have GW299 := n3_; have GE299 := n4_; have NB297_299 := n5_; have NB299_297 := n6_; clear n0_ n1_ n2_ n3_ n4_ n5_ n6_; clear hb hbox hg; have hnb56 := NB299_297.out; have hnc56 := NB297_299.out; have hcz57_0 : w55.cell? ⟨gb299, 0, none⟩ = some (.int .i64 0) := bc_ BK299 0; have hcz57_1 : w55.cell? ⟨gb299, 1, none⟩ = some (.int .i64 0) := bc_ BK299 1; have hfz57_0 := blk_frozen BK299.out 0; have hfz57_1 := blk_frozen BK299.out 1; have hcz58_0 : w55.cell? ⟨gb297, 0, none⟩ = some (.int .i64 a0_0) := bc_ BK297 0; have hcz58_1 : w55.cell? ⟨gb297, 1, none⟩ = some (.int .i64 a0_1) := bc_ BK297 1; have hcz58_2 : w55.cell? ⟨gb297, 2, none⟩ = some (.int .i64 a0_2) := bc_ BK297 2; have hcz58_3 : w55.cell? ⟨gb297, 3, none⟩ = some (.slice (some ad298) l0_3.length c0_3) := bc_ BK297 3; have hfz58_0 := blk_frozen BK297.out 0; have hfz58_1 := blk_frozen BK297.out 1; have hfz58_2 := blk_frozen BK297.out 2; have hfz58_3 := blk_frozen BK297.out 3; have p300 : 0 ≤ ((ji45) : Int) := of_decide_eq_true (by first | (with_reducible assumption) | assumption); have q300 : (ji45) < (l0_3.length : Int) := of_decide_eq_true (by first | (with_reducible assumption) | assumption); obtain ⟨ad300, e300, hx300_0, hx300_1⟩ := at_T50 HR0_3.out (ji45) p300 q300; obtain rfl : ad298 = ad300 := (by injection e300); have hn300_0 : ad298.block ≠ gb299 := Nat.ne_of_lt (Nat.lt_of_lt_of_le (by have := World.block_lt_of_cell? _ _ hx300_0; first | rwa [add_block] at this | exact this) GW299.out); have hn300_1 : ad298.block ≠ gb299 := Nat.ne_of_lt (Nat.lt_of_lt_of_le (by have := World.block_lt_of_cell? _ _ hx300_0; first | rwa [add_block] at this | exact this) GW299.out); replace hx300_0 := (HB.out.cell (World.block_lt_of_cell? w _ hx300_0)).trans hx300_0; replace hx300_1 := (HB.out.cell (World.block_lt_of_cell? w _ hx300_1)).trans hx300_1; replace hx300_0 := (cell_far (p := ⟨gb299, 0, none⟩) (by first | (rw [add_block]; exact hn300_0) | (show (Addr.add _ _).block ≠ _; rw [add_block]; exact hn300_0) | exact hn300_0) (.int .i64 ((rd_T50 l0_3 x3_2).f0))).trans hx300_0; replace hx300_1 := (cell_far (p := ⟨gb299, 0, none⟩) (by first | (rw [add_block]; exact hn300_0) | (show (Addr.add _ _).block ≠ _; rw [add_block]; exact hn300_0) | exact hn300_0) (.int .i64 ((rd_T50 l0_3 x3_2).f0))).trans hx300_1; replace hx300_0 := (cell_far (p := ⟨gb299, 1, none⟩) (by first | (rw [add_block]; exact hn300_1) | (show (Addr.add _ _).block ≠ _; rw [add_block]; exact hn300_1) | exact hn300_1) (.int .i64 ((rd_T50 l0_3 x3_2).f1))).trans hx300_0; replace hx300_1 := (cell_far (p := ⟨gb299, 1, none⟩) (by first | (rw [add_block]; exact hn300_1) | (show (Addr.add _ _).block ≠ _; rw [add_block]; exact hn300_1) | exact hn300_1) (.int .i64 ((rd_T50 l0_3 x3_2).f1))).trans hx300_1; (try have hy300_0 := fun (n_ : Nat) => (show ((((w55.drewN n_).setCell ⟨gb299, 0, none⟩ (.int .i64 ((rd_T50 l0_3 x3_2).f0))).setCell ⟨gb299, 1, none⟩ (.int .i64 ((rd_T50 l0_3 x3_2).f1)))).cell? _ = some _ from hx300_0)); (try have hy300_1 := fun (n_ : Nat) => (show ((((w55.drewN n_).setCell ⟨gb299, 0, none⟩ (.int .i64 ((rd_T50 l0_3 x3_2).f0))).setCell ⟨gb299, 1, none⟩ (.int .i64 ((rd_T50 l0_3 x3_2).f1)))).cell? _ = some _ from hx300_1)); clear hn300_0; clear hn300_1; replace p300 := eq_true p300; replace q300 := eq_true q300))
                repeat (go_quiet (first | ((with_reducible refine gate_dst (N := 4) rfl ?_); (try (refine gate_guard (by rfl) ?_; dsimp only)); refine box_event ?hg (N := 4) ?hd (cs := #[.int .i64 0, .int .i64 0]) (t := 50) ?hr ?_; (case hd => rfl); (case hg => rfl); (case hr => first | (go_simp; done) | (go_simp; rfl)); intro gb299 hg w55 hbox hb; have n0_ := (bb_ BK297 hb); have n1_ := Aside0.mk (below_step (hb_ HB) hb); have n2_ := Aside0.mk (hbox); have n3_ := Aside0.mk ((by rw [hg]; exact (below_size (hb_ HB)) : w.heap.size ≤ gb299)); have n4_ := Aside0.mk ((by rw [hg]; exact (below_size (hb_ HB)) : w.heap.size ≤ gb299)); have n5_ := (nlt_ BK297 hg); have n6_ := (ngt_ BK297 hg); clear BK297; clear HB; have BK297 := n0_; have HB := n1_; have BK299 := n2_; have GW299 := n3_; have GE299 := n4_; have NB297_299 := n5_; have NB299_297 := n6_; clear n0_ n1_ n2_ n3_ n4_ n5_ n6_; clear hb hbox hg; have hnb56 := NB299_297.out; have hnc56 := NB297_299.out; have hcz57_0 : w55.cell? ⟨gb299, 0, none⟩ = some (.int .i64 0) := bc_ BK299 0; have hcz57_1 : w55.cell? ⟨gb299, 1, none⟩ = some (.int .i64 0) := bc_ BK299 1; have hfz57_0 := blk_frozen BK299.out 0; have hfz57_1 := blk_frozen BK299.out 1; have hcz58_0 : w55.cell? ⟨gb297, 0, none⟩ = some (.int .i64 a0_0) := bc_ BK297 0; have hcz58_1 : w55.cell? ⟨gb297, 1, none⟩ = some (.int .i64 a0_1) := bc_ BK297 1; have hcz58_2 : w55.cell? ⟨gb297, 2, none⟩ = some (.int .i64 a0_2) := bc_ BK297 2; have hcz58_3 : w55.cell? ⟨gb297, 3, none⟩ = some (.slice (some ad298) l0_3.length c0_3) := bc_ BK297 3; have hfz58_0 := blk_frozen BK297.out 0; have hfz58_1 := blk_frozen BK297.out 1; have hfz58_2 := blk_frozen BK297.out 2; have hfz58_3 := blk_frozen BK297.out 3; have p300 : 0 ≤ ((ji45) : Int) := of_decide_eq_true (by first | (with_reducible assumption) | assumption); have q300 : (ji45) < (l0_3.length : Int) := of_decide_eq_true (by first | (with_reducible assumption) | assumption); obtain ⟨ad300, e300, hx300_0, hx300_1⟩ := at_T50 HR0_3.out (ji45) p300 q300; obtain rfl : ad298 = ad300 := (by injection e300); have hn300_0 : ad298.block ≠ gb299 := Nat.ne_of_lt (Nat.lt_of_lt_of_le (by have := World.block_lt_of_cell? _ _ hx300_0; first | rwa [add_block] at this | exact this) GW299.out); have hn300_1 : ad298.block ≠ gb299 := Nat.ne_of_lt (Nat.lt_of_lt_of_le (by have := World.block_lt_of_cell? _ _ hx300_0; first | rwa [add_block] at this | exact this) GW299.out); replace hx300_0 := (HB.out.cell (World.block_lt_of_cell? w _ hx300_0)).trans hx300_0; replace hx300_1 := (HB.out.cell (World.block_lt_of_cell? w _ hx300_1)).trans hx300_1; replace hx300_0 := (cell_far (p := ⟨gb299, 0, none⟩) (by first | (rw [add_block]; exact hn300_0) | (show (Addr.add _ _).block ≠ _; rw [add_block]; exact hn300_0) | exact hn300_0) (.int .i64 ((rd_T50 l0_3 x3_2).f0))).trans hx300_0; replace hx300_1 := (cell_far (p := ⟨gb299, 0, none⟩) (by first | (rw [add_block]; exact hn300_0) | (show (Addr.add _ _).block ≠ _; rw [add_block]; exact hn300_0) | exact hn300_0) (.int .i64 ((rd_T50 l0_3 x3_2).f0))).trans hx300_1; replace hx300_0 := (cell_far (p := ⟨gb299, 1, none⟩) (by first | (rw [add_block]; exact hn300_1) | (show (Addr.add _ _).block ≠ _; rw [add_block]; exact hn300_1) | exact hn300_1) (.int .i64 ((rd_T50 l0_3 x3_2).f1))).trans hx300_0; replace hx300_1 := (cell_far (p := ⟨gb299, 1, none⟩) (by first | (rw [add_block]; exact hn300_1) | (show (Addr.add _ _).block ≠ _; rw [add_block]; exact hn300_1) | exact hn300_1) (.int .i64 ((rd_T50 l0_3 x3_2).f1))).trans hx300_1; (try have hy300_0 := fun (n_ : Nat) => (show ((((w55.drewN n_).setCell ⟨gb299, 0, none⟩ (.int .i64 ((rd_T50 l0_3 x3_2).f0))).setCell ⟨gb299, 1, none⟩ (.int .i64 ((rd_T50 l0_3 x3_2).f1)))).cell? _ = some _ from hx300_0)); (try have hy300_1 := fun (n_ : Nat) => (show ((((w55.drewN n_).setCell ⟨gb299, 0, none⟩ (.int .i64 ((rd_T50 l0_3 x3_2).f0))).setCell ⟨gb299, 1, none⟩ (.int .i64 ((rd_T50 l0_3 x3_2).f1)))).cell? _ = some _ from hx300_1)); clear hn300_0; clear hn300_1; replace p300 := eq_true p300; replace q300 := eq_true q300)); try go_wp2_with (first | ((with_reducible refine gate_dst (N := 4) rfl ?_); (try (refine gate_guard (by rfl) ?_; dsimp only)); refine box_event ?hg (N := 4) ?hd (cs := #[.int .i64 0, .int .i64 0]) (t := 50) ?hr ?_; (case hd => rfl); (case hg => rfl); (case hr => first | (go_simp; done) | (go_simp; rfl)); intro gb299 hg w55 hbox hb; have n0_ := (bb_ BK297 hb); have n1_ := Aside0.mk (below_step (hb_ HB) hb); have n2_ := Aside0.mk (hbox); have n3_ := Aside0.mk ((by rw [hg]; exact (below_size (hb_ HB)) : w.heap.size ≤ gb299)); have n4_ := Aside0.mk ((by rw [hg]; exact (below_size (hb_ HB)) : w.heap.size ≤ gb299)); have n5_ := (nlt_ BK297 hg); have n6_ := (ngt_ BK297 hg); clear BK297; clear HB; have BK297 := n0_; have HB := n1_; have BK299 := n2_; have GW299 := n3_; have GE299 := n4_; have NB297_299 := n5_; have NB299_297 := n6_; clear n0_ n1_ n2_ n3_ n4_ n5_ n6_; clear hb hbox hg; have hnb56 := NB299_297.out; have hnc56 := NB297_299.out; have hcz57_0 : w55.cell? ⟨gb299, 0, none⟩ = some (.int .i64 0) := bc_ BK299 0; have hcz57_1 : w55.cell? ⟨gb299, 1, none⟩ = some (.int .i64 0) := bc_ BK299 1; have hfz57_0 := blk_frozen BK299.out 0; have hfz57_1 := blk_frozen BK299.out 1; have hcz58_0 : w55.cell? ⟨gb297, 0, none⟩ = some (.int .i64 a0_0) := bc_ BK297 0; have hcz58_1 : w55.cell? ⟨gb297, 1, none⟩ = some (.int .i64 a0_1) := bc_ BK297 1; have hcz58_2 : w55.cell? ⟨gb297, 2, none⟩ = some (.int .i64 a0_2) := bc_ BK297 2; have hcz58_3 : w55.cell? ⟨gb297, 3, none⟩ = some (.slice (some ad298) l0_3.length c0_3) := bc_ BK297 3; have hfz58_0 := blk_frozen BK297.out 0; have hfz58_1 := blk_frozen BK297.out 1; have hfz58_2 := blk_frozen BK297.out 2; have hfz58_3 := blk_frozen BK297.out 3; have p300 : 0 ≤ ((ji45) : Int) := of_decide_eq_true (by first | (with_reducible assumption) | assumption); have q300 : (ji45) < (l0_3.length : Int) := of_decide_eq_true (by first | (with_reducible assumption) | assumption); obtain ⟨ad300, e300, hx300_0, hx300_1⟩ := at_T50 HR0_3.out (ji45) p300 q300; obtain rfl : ad298 = ad300 := (by injection e300); have hn300_0 : ad298.block ≠ gb299 := Nat.ne_of_lt (Nat.lt_of_lt_of_le (by have := World.block_lt_of_cell? _ _ hx300_0; first | rwa [add_block] at this | exact this) GW299.out); have hn300_1 : ad298.block ≠ gb299 := Nat.ne_of_lt (Nat.lt_of_lt_of_le (by have := World.block_lt_of_cell? _ _ hx300_0; first | rwa [add_block] at this | exact this) GW299.out); replace hx300_0 := (HB.out.cell (World.block_lt_of_cell? w _ hx300_0)).trans hx300_0; replace hx300_1 := (HB.out.cell (World.block_lt_of_cell? w _ hx300_1)).trans hx300_1; replace hx300_0 := (cell_far (p := ⟨gb299, 0, none⟩) (by first | (rw [add_block]; exact hn300_0) | (show (Addr.add _ _).block ≠ _; rw [add_block]; exact hn300_0) | exact hn300_0) (.int .i64 ((rd_T50 l0_3 x3_2).f0))).trans hx300_0; replace hx300_1 := (cell_far (p := ⟨gb299, 0, none⟩) (by first | (rw [add_block]; exact hn300_0) | (show (Addr.add _ _).block ≠ _; rw [add_block]; exact hn300_0) | exact hn300_0) (.int .i64 ((rd_T50 l0_3 x3_2).f0))).trans hx300_1; replace hx300_0 := (cell_far (p := ⟨gb299, 1, none⟩) (by first | (rw [add_block]; exact hn300_1) | (show (Addr.add _ _).block ≠ _; rw [add_block]; exact hn300_1) | exact hn300_1) (.int .i64 ((rd_T50 l0_3 x3_2).f1))).trans hx300_0; replace hx300_1 := (cell_far (p := ⟨gb299, 1, none⟩) (by first | (rw [add_block]; exact hn300_1) | (show (Addr.add _ _).block ≠ _; rw [add_block]; exact hn300_1) | exact hn300_1) (.int .i64 ((rd_T50 l0_3 x3_2).f1))).trans hx300_1; (try have hy300_0 := fun (n_ : Nat) => (show ((((w55.drewN n_).setCell ⟨gb299, 0, none⟩ (.int .i64 ((rd_T50 l0_3 x3_2).f0))).setCell ⟨gb299, 1, none⟩ (.int .i64 ((rd_T50 l0_3 x3_2).f1)))).cell? _ = some _ from hx300_0)); (try have hy300_1 := fun (n_ : Nat) => (show ((((w55.drewN n_).setCell ⟨gb299, 0, none⟩ (.int .i64 ((rd_T50 l0_3 x3_2).f0))).setCell ⟨gb299, 1, none⟩ (.int .i64 ((rd_T50 l0_3 x3_2).f1)))).cell? _ = some _ from hx300_1)); clear hn300_0; clear hn300_1; replace p300 := eq_true p300; replace q300 := eq_true q300)))
                go_roundg k2
                case measure => have := HJ1.out; have := HK2.out; omega
                case rel => exact ⟨(wrap64 (x3_2 + 1)), (by first | rfl | (simp; done) | (simp [*]; done)), H', ⟨by have := HJ1.out; have := HK2.out; omega⟩, ⟨by (with_reducible repeat (first | refine blk_drewN ?_ _ | refine blk_drew ?_ | refine blk_alloc ?_ _)); refine blk_far ?_ NB297_299.out _; (with_reducible repeat (first | refine blk_drewN ?_ _ | refine blk_drew ?_ | refine blk_alloc ?_ _)); refine blk_far ?_ NB297_299.out _; (with_reducible repeat (first | refine blk_drewN ?_ _ | refine blk_drew ?_ | refine blk_alloc ?_ _)); exact BK297.out⟩, ⟨by repeat (first | (with_reducible first | exact HB.out | apply below_alloc | apply pw_below_drewN | apply below_drew1 | refine below_set ?_ GE297.out | refine below_set ?_ GE299.out) | exact HB.out)⟩⟩
              ·rw [if_neg c47] at H
               exact absurd H (by simp)
             ·rw [if_neg c46] at H
              exact absurd H (by simp)
            ·rw [if_neg c44] at H
             have c44b0 : decide (0 < x3_2) = false := decide_eq_false c44
             clear c44
             have H' := Aside0.mk H
             clear H
             have hcz59_0 : wr.cell? ⟨gb297, 0, none⟩ = some (.int .i64 a0_0) := bc_ BK297 0
             have hcz59_1 : wr.cell? ⟨gb297, 1, none⟩ = some (.int .i64 a0_1) := bc_ BK297 1
             have hcz59_2 : wr.cell? ⟨gb297, 2, none⟩ = some (.int .i64 a0_2) := bc_ BK297 2
             have hcz59_3 : wr.cell? ⟨gb297, 3, none⟩ = some (.slice A0_3 l0_3.length c0_3) := bc_ BK297 3
             have hfz59_0 := blk_frozen BK297.out 0
             have hfz59_1 := blk_frozen BK297.out 1
             have hfz59_2 := blk_frozen BK297.out 2
             have hfz59_3 := blk_frozen BK297.out 3
             have p298 : 0 ≤ (x3_2 : Int) := of_decide_eq_true (by first | (with_reducible assumption) | assumption)
             have q298 : x3_2 < (l0_3.length : Int) := of_decide_eq_true (by first | (with_reducible assumption) | assumption)
             obtain ⟨ad298, e298, hx298_0, hx298_1⟩ := at_T50 HR0_3.out x3_2 p298 q298
             cases e298
             replace hx298_0 := (HB.out.cell (World.block_lt_of_cell? w _ hx298_0)).trans hx298_0
             replace hx298_1 := (HB.out.cell (World.block_lt_of_cell? w _ hx298_1)).trans hx298_1
             replace p298 := eq_true p298
             replace q298 := eq_true q298
             go_wp2_with (first | ((with_reducible refine gate_dst (N := 4) rfl ?_); (try (refine gate_guard (by rfl) ?_; dsimp only)); refine box_event ?hg (N := 4) ?hd (cs := #[.int .i64 0, .int .i64 0]) (t := 50) ?hr ?_; (case hd => rfl); (case hg => rfl); (case hr => first | (go_simp; done) | (go_simp; rfl)); intro gb299 hg w60 hbox hb; have n0_ := (bb_ BK297 hb); have n1_ := Aside0.mk (below_step (hb_ HB) hb); have n2_ := Aside0.mk (hbox); have n3_ := Aside0.mk ((by rw [hg]; exact (below_size (hb_ HB)) : w.heap.size ≤ gb299)); have n4_ := Aside0.mk ((by rw [hg]; exact (below_size (hb_ HB)) : w.heap.size ≤ gb299)); have n5_ := (nlt_ BK297 hg); have n6_ := (ngt_ BK297 hg); clear BK297; clear HB; have BK297 := n0_; have HB := n1_; have BK299 := n2_; have GW299 := n3_; have GE299 := n4_; have NB297_299 := n5_; have NB299_297 := n6_; clear n0_ n1_ n2_ n3_ n4_ n5_ n6_; clear hb hbox hg; have hnb61 := NB299_297.out; have hnc61 := NB297_299.out; have hcz62_0 : w60.cell? ⟨gb299, 0, none⟩ = some (.int .i64 0) := bc_ BK299 0; have hcz62_1 : w60.cell? ⟨gb299, 1, none⟩ = some (.int .i64 0) := bc_ BK299 1; have hfz62_0 := blk_frozen BK299.out 0; have hfz62_1 := blk_frozen BK299.out 1; have hcz63_0 : w60.cell? ⟨gb297, 0, none⟩ = some (.int .i64 a0_0) := bc_ BK297 0; have hcz63_1 : w60.cell? ⟨gb297, 1, none⟩ = some (.int .i64 a0_1) := bc_ BK297 1; have hcz63_2 : w60.cell? ⟨gb297, 2, none⟩ = some (.int .i64 a0_2) := bc_ BK297 2; have hcz63_3 : w60.cell? ⟨gb297, 3, none⟩ = some (.slice (some ad298) l0_3.length c0_3) := bc_ BK297 3; have hfz63_0 := blk_frozen BK297.out 0; have hfz63_1 := blk_frozen BK297.out 1; have hfz63_2 := blk_frozen BK297.out 2; have hfz63_3 := blk_frozen BK297.out 3))
             repeat (go_quiet (first | ((with_reducible refine gate_dst (N := 4) rfl ?_); (try (refine gate_guard (by rfl) ?_; dsimp only)); refine box_event ?hg (N := 4) ?hd (cs := #[.int .i64 0, .int .i64 0]) (t := 50) ?hr ?_; (case hd => rfl); (case hg => rfl); (case hr => first | (go_simp; done) | (go_simp; rfl)); intro gb299 hg w60 hbox hb; have n0_ := (bb_ BK297 hb); have n1_ := Aside0.mk (below_step (hb_ HB) hb); have n2_ := Aside0.mk (hbox); have n3_ := Aside0.mk ((by rw [hg]; exact (below_size (hb_ HB)) : w.heap.size ≤ gb299)); have n4_ := Aside0.mk ((by rw [hg]; exact (below_size (hb_ HB)) : w.heap.size ≤ gb299)); have n5_ := (nlt_ BK297 hg); have n6_ := (ngt_ BK297 hg); clear BK297; clear HB; have BK297 := n0_; have HB := n1_; have BK299 := n2_; have GW299 := n3_; have GE299 := n4_; have NB297_299 := n5_; have NB299_297 := n6_; clear n0_ n1_ n2_ n3_ n4_ n5_ n6_; clear hb hbox hg; have hnb61 := NB299_297.out; have hnc61 := NB297_299.out; have hcz62_0 : w60.cell? ⟨gb299, 0, none⟩ = some (.int .i64 0) := bc_ BK299 0; have hcz62_1 : w60.cell? ⟨gb299, 1, none⟩ = some (.int .i64 0) := bc_ BK299 1; have hfz62_0 := blk_frozen BK299.out 0; have hfz62_1 := blk_frozen BK299.out 1; have hcz63_0 : w60.cell? ⟨gb297, 0, none⟩ = some (.int .i64 a0_0) := bc_ BK297 0; have hcz63_1 : w60.cell? ⟨gb297, 1, none⟩ = some (.int .i64 a0_1) := bc_ BK297 1; have hcz63_2 : w60.cell? ⟨gb297, 2, none⟩ = some (.int .i64 a0_2) := bc_ BK297 2; have hcz63_3 : w60.cell? ⟨gb297, 3, none⟩ = some (.slice (some ad298) l0_3.length c0_3) := bc_ BK297 3; have hfz63_0 := blk_frozen BK297.out 0; have hfz63_1 := blk_frozen BK297.out 1; have hfz63_2 := blk_frozen BK297.out 2; have hfz63_3 := blk_frozen BK297.out 3)); try go_wp2_with (first | ((with_reducible refine gate_dst (N := 4) rfl ?_); (try (refine gate_guard (by rfl) ?_; dsimp only)); refine box_event ?hg (N := 4) ?hd (cs := #[.int .i64 0, .int .i64 0]) (t := 50) ?hr ?_; (case hd => rfl); (case hg => rfl); (case hr => first | (go_simp; done) | (go_simp; rfl)); intro gb299 hg w60 hbox hb; have n0_ := (bb_ BK297 hb); have n1_ := Aside0.mk (below_step (hb_ HB) hb); have n2_ := Aside0.mk (hbox); have n3_ := Aside0.mk ((by rw [hg]; exact (below_size (hb_ HB)) : w.heap.size ≤ gb299)); have n4_ := Aside0.mk ((by rw [hg]; exact (below_size (hb_ HB)) : w.heap.size ≤ gb299)); have n5_ := (nlt_ BK297 hg); have n6_ := (ngt_ BK297 hg); clear BK297; clear HB; have BK297 := n0_; have HB := n1_; have BK299 := n2_; have GW299 := n3_; have GE299 := n4_; have NB297_299 := n5_; have NB299_297 := n6_; clear n0_ n1_ n2_ n3_ n4_ n5_ n6_; clear hb hbox hg; have hnb61 := NB299_297.out; have hnc61 := NB297_299.out; have hcz62_0 : w60.cell? ⟨gb299, 0, none⟩ = some (.int .i64 0) := bc_ BK299 0; have hcz62_1 : w60.cell? ⟨gb299, 1, none⟩ = some (.int .i64 0) := bc_ BK299 1; have hfz62_0 := blk_frozen BK299.out 0; have hfz62_1 := blk_frozen BK299.out 1; have hcz63_0 : w60.cell? ⟨gb297, 0, none⟩ = some (.int .i64 a0_0) := bc_ BK297 0; have hcz63_1 : w60.cell? ⟨gb297, 1, none⟩ = some (.int .i64 a0_1) := bc_ BK297 1; have hcz63_2 : w60.cell? ⟨gb297, 2, none⟩ = some (.int .i64 a0_2) := bc_ BK297 2; have hcz63_3 : w60.cell? ⟨gb297, 3, none⟩ = some (.slice (some ad298) l0_3.length c0_3) := bc_ BK297 3; have hfz63_0 := blk_frozen BK297.out 0; have hfz63_1 := blk_frozen BK297.out 1; have hfz63_2 := blk_frozen BK297.out 2; have hfz63_3 := blk_frozen BK297.out 3)))
             go_roundg k2
             case measure => have := HJ1.out; have := HK2.out; omega
             case rel => exact ⟨(wrap64 (x3_2 + 1)), (by first | rfl | (simp; done) | (simp [*]; done)), H', ⟨by have := HJ1.out; have := HK2.out; omega⟩, ⟨by (with_reducible repeat (first | refine blk_drewN ?_ _ | refine blk_drew ?_ | refine blk_alloc ?_ _)); refine blk_far ?_ NB297_299.out _; (with_reducible repeat (first | refine blk_drewN ?_ _ | refine blk_drew ?_ | refine blk_alloc ?_ _)); refine blk_far ?_ NB297_299.out _; (with_reducible repeat (first | refine blk_drewN ?_ _ | refine blk_drew ?_ | refine blk_alloc ?_ _)); exact BK297.out⟩, ⟨by repeat (first | (with_reducible first | exact HB.out | apply below_alloc | apply pw_below_drewN | apply below_drew1 | refine below_set ?_ GE297.out | refine below_set ?_ GE299.out) | exact HB.out)⟩⟩
       ·rw [if_neg c19] at H
        exact absurd H (by simp)
      ·rw [if_neg c18] at H
       have c18b0 : decide (x3_2 < (l0_3.length : Int)) = false := decide_eq_false c18
       clear c18
       obtain rfl := Option.some.inj H
       have hcz64_0 : wr.cell? ⟨gb297, 0, none⟩ = some (.int .i64 a0_0) := bc_ BK297 0
       have hcz64_1 : wr.cell? ⟨gb297, 1, none⟩ = some (.int .i64 a0_1) := bc_ BK297 1
       have hcz64_2 : wr.cell? ⟨gb297, 2, none⟩ = some (.int .i64 a0_2) := bc_ BK297 2
       have hcz64_3 : wr.cell? ⟨gb297, 3, none⟩ = some (.slice A0_3 l0_3.length c0_3) := bc_ BK297 3
       have hfz64_0 := blk_frozen BK297.out 0
       have hfz64_1 := blk_frozen BK297.out 1
       have hfz64_2 := blk_frozen BK297.out 2
       have hfz64_3 := blk_frozen BK297.out 3
       go_wp2
       repeat (go_quiet (fail); try go_wp2)
       go_ret
       exact ⟨by first | rfl | (simp [errW_none, errW_some] <;> rfl) | (simp [*, errW_none, errW_some] <;> rfl), by repeat (first | (with_reducible first | exact HB.out | apply below_alloc | apply pw_below_drewN | apply below_drew1 | refine below_set ?_ GE297.out) | exact HB.out)⟩

end Go.Proofs.Ytbkkgaiokmnmgaa.Pr
