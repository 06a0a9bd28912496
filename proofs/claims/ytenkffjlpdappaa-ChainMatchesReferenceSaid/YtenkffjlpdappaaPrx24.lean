-- Printed by hprint.py (a program of this claim's session over the kit's printer).
import Derived.Test.YtenkffjlpdappaaPrx0
import Derived.Test.YtenkffjlpdappaaPrx2
import Derived.Test.YtenkffjlpdappaaPrx5
import Derived.Test.YtenkffjlpdappaaPrx7
import Derived.Test.YtenkffjlpdappaaPrx23
namespace Go.Proofs.Ytenkffjlpdappaa.Pr
open Go.RowKit Go.Proofs.YtenkffjlpdappaaW.PrintWords Go.Proofs.YtenkffjlpdappaaW.PrintLast
set_option linter.unusedVariables false
set_option linter.unusedSimpArgs false

attribute [local go_sem high] eqA44
/-! ### chargeparkref40_Append: function 30 -/
mutual
def chargeparkref40_Append.l0 : Nat → Int → List (S44) → Int → Int → Int → Int → List (S44) → Int → Int → Int → Int → Int → Int → Option ((List (S44)) × Int)
 | 0, _, _, _, _, _, _, _, _, _, _, _, _, _ => none
 | k + 1, x0, x1, x2, x3, x4, x12, x14, x15, x438000, x438001, x438002, x438003, x438004 => if x15 < x12 then (if 0 ≤ x15 then (if x15 < (x1.length : Int) then (if x14.length < 3518437208883 then (chargeparkref40_Append.l0 k x0 x1 x2 x3 x4 x12 (x14 ++ [(⟨(rd_T44 x1 x15).f0, (rd_T44 x1 x15).f1, (rd_T44 x1 x15).f2, (rd_T44 x1 x15).f3, (rd_T44 x1 x15).f4⟩ : S44)]) (wrap64 (x15 + 1)) x438000 x438001 x438002 x438003 x438004) else (none)) else (none)) else (none)) else (if x12 > 0 then (if 0 ≤ (wrap64 (x12 - 1)) then (if (wrap64 (x12 - 1)) < (x1.length : Int) then (if x3 < ((rd_T44 x1 (wrap64 (x12 - 1))).f2) then (chargeparkref40_Append.j1 k ((rd_T44 x1 (wrap64 (x12 - 1))).f4) x2 x3 x14 true x438000 x438001 x438002 x438003 x438004 ((rd_T44 x1 (wrap64 (x12 - 1))).f0) ((rd_T44 x1 (wrap64 (x12 - 1))).f1) ((rd_T44 x1 (wrap64 (x12 - 1))).f2) ((rd_T44 x1 (wrap64 (x12 - 1))).f3) ((rd_T44 x1 (wrap64 (x12 - 1))).f4)) else (if x2 = ((rd_T44 x1 (wrap64 (x12 - 1))).f0) then (chargeparkref40_Append.j1 k ((rd_T44 x1 (wrap64 (x12 - 1))).f4) x2 x3 x14 (decide (x4 < ((rd_T44 x1 (wrap64 (x12 - 1))).f3))) x438000 x438001 x438002 x438003 x438004 ((rd_T44 x1 (wrap64 (x12 - 1))).f0) ((rd_T44 x1 (wrap64 (x12 - 1))).f1) ((rd_T44 x1 (wrap64 (x12 - 1))).f2) ((rd_T44 x1 (wrap64 (x12 - 1))).f3) ((rd_T44 x1 (wrap64 (x12 - 1))).f4)) else (chargeparkref40_Append.j1 k ((rd_T44 x1 (wrap64 (x12 - 1))).f4) x2 x3 x14 false x438000 x438001 x438002 x438003 x438004 ((rd_T44 x1 (wrap64 (x12 - 1))).f0) ((rd_T44 x1 (wrap64 (x12 - 1))).f1) ((rd_T44 x1 (wrap64 (x12 - 1))).f2) ((rd_T44 x1 (wrap64 (x12 - 1))).f3) ((rd_T44 x1 (wrap64 (x12 - 1))).f4)))) else (none)) else (none)) else ((chargeparkref40_Link.f k x0 x438000 x438001 x438002 x438003 x438004).bind fun t453 => (if x14.length < 3518437208883 then (some ((x14 ++ [(⟨x438000, x438001, x438002, x438003, t453⟩ : S44)]), 0)) else (none))))
def chargeparkref40_Append.j1 : Nat → Int → Int → Int → List (S44) → Bool → Int → Int → Int → Int → Int → Int → Int → Int → Int → Int → Option ((List (S44)) × Int)
 | 0, _, _, _, _, _, _, _, _, _, _, _, _, _, _, _ => none
 | k + 1, x0, x2, x3, x14, x70, x438000, x438001, x438002, x438003, x438004, x445000, x445001, x445002, x445003, x445004 => if x70 = true then (some (([] : List (S44)), 12)) else (if x2 = x445000 then ((chargeparkref40_Link.f k x0 x438000 x438001 x438002 x438003 x438004).bind fun t445 => (if x14.length < 3518437208883 then (some ((x14 ++ [(⟨x438000, x438001, x438002, x438003, t445⟩ : S44)]), 0)) else (none))) else (if x3 = x445002 then ((chargeparkref40_Link.f k x0 x438000 x438001 x438002 x438003 x438004).bind fun t449 => (if x14.length < 3518437208883 then (some ((x14 ++ [(⟨x438000, x438001, x438002, x438003, t449⟩ : S44)]), 0)) else (none))) else (some (([] : List (S44)), 6))))
end
def chargeparkref40_Append.f (k : Nat) (a0 : Int) (l1 : List (S44)) (a2 : Int) (a3 : Int) (a4 : Int) : Option ((List (S44)) × Int) := (chargeparkref40_Check.f k a0 l1).bind fun t436 => (if t436 = (-1) then (if (l1.length : Int) = 64 then (some (([] : List (S44)), 10)) else ((chargeparkref40_Valid.f a2 (wrap64 ((l1.length : Int) + 1)) a3 a4 0).bind fun t438 => (if t438 = true then (chargeparkref40_Append.l0 k a0 l1 a2 a3 a4 (l1.length : Int) ([] : List (S44)) 0 a2 (wrap64 ((l1.length : Int) + 1)) a3 a4 0) else (some (([] : List (S44)), 1))))) else (some (([] : List (S44)), 11)))
theorem chargeparkref40_Append.mono_l : ∀ k, (∀ y0 y1 y2 y3 y4 y5 y6 y7 y8 y9 y10 y11 y12, LeO (chargeparkref40_Append.l0 k y0 y1 y2 y3 y4 y5 y6 y7 y8 y9 y10 y11 y12) (chargeparkref40_Append.l0 (k + 1) y0 y1 y2 y3 y4 y5 y6 y7 y8 y9 y10 y11 y12)) ∧ (∀ y0 y1 y2 y3 y4 y5 y6 y7 y8 y9 y10 y11 y12 y13 y14, LeO (chargeparkref40_Append.j1 k y0 y1 y2 y3 y4 y5 y6 y7 y8 y9 y10 y11 y12 y13 y14) (chargeparkref40_Append.j1 (k + 1) y0 y1 y2 y3 y4 y5 y6 y7 y8 y9 y10 y11 y12 y13 y14))
 | 0 => ⟨fun _ _ _ _ _ _ _ _ _ _ _ _ _ r h => by simp [chargeparkref40_Append.l0] at h, fun _ _ _ _ _ _ _ _ _ _ _ _ _ _ _ r h => by simp [chargeparkref40_Append.j1] at h⟩
 | k + 1 => by
  obtain ⟨ih0, ih1⟩ := chargeparkref40_Append.mono_l k
  refine ⟨?_, ?_⟩
  ·intro y0 y1 y2 y3 y4 y5 y6 y7 y8 y9 y10 y11 y12
   unfold chargeparkref40_Append.l0
   repeat' first
   | (with_reducible exact ih0 _ _ _ _ _ _ _ _ _ _ _ _ _)
   | (with_reducible exact ih1 _ _ _ _ _ _ _ _ _ _ _ _ _ _ _)
   | (with_reducible exact chargeparkref40_Check.mono _ _ _)
   | (with_reducible exact chargeparkref40_Link.mono _ _ _ _ _ _ _)
   | (with_reducible exact LeO.refl _)
   | (with_reducible exact LeO.none _)
   | (with_reducible refine LeO.ite ?_ ?_)
   | (with_reducible refine LeO.bind ?_ (fun _ => ?_))
   | exact ih0 _ _ _ _ _ _ _ _ _ _ _ _ _
   | exact ih1 _ _ _ _ _ _ _ _ _ _ _ _ _ _ _
   | exact chargeparkref40_Check.mono _ _ _
   | exact chargeparkref40_Link.mono _ _ _ _ _ _ _
   | exact LeO.none _
   | refine LeO.ite ?_ ?_
   | refine LeO.bind ?_ (fun _ => ?_)
  ·intro y0 y1 y2 y3 y4 y5 y6 y7 y8 y9 y10 y11 y12 y13 y14
   unfold chargeparkref40_Append.j1
   repeat' first
   | (with_reducible exact ih0 _ _ _ _ _ _ _ _ _ _ _ _ _)
   | (with_reducible exact ih1 _ _ _ _ _ _ _ _ _ _ _ _ _ _ _)
   | (with_reducible exact chargeparkref40_Check.mono _ _ _)
   | (with_reducible exact chargeparkref40_Link.mono _ _ _ _ _ _ _)
   | (with_reducible exact LeO.refl _)
   | (with_reducible exact LeO.none _)
   | (with_reducible refine LeO.ite ?_ ?_)
   | (with_reducible refine LeO.bind ?_ (fun _ => ?_))
   | exact ih0 _ _ _ _ _ _ _ _ _ _ _ _ _
   | exact ih1 _ _ _ _ _ _ _ _ _ _ _ _ _ _ _
   | exact chargeparkref40_Check.mono _ _ _
   | exact chargeparkref40_Link.mono _ _ _ _ _ _ _
   | exact LeO.none _
   | refine LeO.ite ?_ ?_
   | refine LeO.bind ?_ (fun _ => ?_)
theorem chargeparkref40_Append.mono : ∀ a0 a1 a2 a3 a4 k, LeO (chargeparkref40_Append.f k a0 a1 a2 a3 a4) (chargeparkref40_Append.f (k + 1) a0 a1 a2 a3 a4) := by
 intro a0 a1 a2 a3 a4 k
 obtain ⟨ih0, ih1⟩ := chargeparkref40_Append.mono_l k
 unfold chargeparkref40_Append.f
 repeat' first
   | (with_reducible exact ih0 _ _ _ _ _ _ _ _ _ _ _ _ _)
   | (with_reducible exact ih1 _ _ _ _ _ _ _ _ _ _ _ _ _ _ _)
   | (with_reducible exact chargeparkref40_Check.mono _ _ _)
   | (with_reducible exact chargeparkref40_Link.mono _ _ _ _ _ _ _)
   | (with_reducible exact LeO.refl _)
   | (with_reducible exact LeO.none _)
   | (with_reducible refine LeO.ite ?_ ?_)
   | (with_reducible refine LeO.bind ?_ (fun _ => ?_))
   | exact ih0 _ _ _ _ _ _ _ _ _ _ _ _ _
   | exact ih1 _ _ _ _ _ _ _ _ _ _ _ _ _ _ _
   | exact chargeparkref40_Check.mono _ _ _
   | exact chargeparkref40_Link.mono _ _ _ _ _ _ _
   | exact LeO.none _
   | refine LeO.ite ?_ ?_
   | refine LeO.bind ?_ (fun _ => ?_)
set_option maxHeartbeats 8000000 in
set_option maxRecDepth 100000 in
theorem chargeparkref40_Append.calls (k : Nat) (a0 : Int) (A1 : Option Addr) (c1 : Nat) (l1 : List (S44)) (a2 : Int) (a3 : Int) (a4 : Int) (r1 : List (S44)) (r2 : Int) (w : World) (hr1 : Kd.C k44 w A1 l1.length l1) (hc1 : l1.length ≤ c1) (h : chargeparkref40_Append.f k a0 l1 a2 a3 a4 = some (r1, r2)) :
  Calls Try.prog 30 #[.int .u64 a0, .slice A1 l1.length c1, .int .i64 a2, .int .i64 a3, .int .i64 a4] w fun e w' => ∃ v0_ : Value, e = .returned (.tuple #[v0_, .int .i64 r2]) ∧ Kd.R k44 44 w' w.heap.size (fun _ => True) v0_ r1 ∧ Below w.heap.size w w' := by
 have hu44 := Try.underlying44
 have HR1 := Aside0.mk hr1
 have HC1 := Aside0.mk hc1
 clear hr1 hc1
 have HB := Aside0.mk (Below.refl w.heap.size w)
 have H : ((chargeparkref40_Check.f k a0 l1).bind fun t436 => (if t436 = (-1) then (if (l1.length : Int) = 64 then (some (([] : List (S44)), 10)) else ((chargeparkref40_Valid.f a2 (wrap64 ((l1.length : Int) + 1)) a3 a4 0).bind fun t438 => (if t438 = true then (chargeparkref40_Append.l0 k a0 l1 a2 a3 a4 (l1.length : Int) ([] : List (S44)) 0 a2 (wrap64 ((l1.length : Int) + 1)) a3 a4 0) else (some (([] : List (S44)), 1))))) else (some (([] : List (S44)), 11)))) = some (r1, r2) := h
 clear h
 replace H := Option.bind_eq_some_iff.mp H
 obtain ⟨t436, A60, H⟩ := H
 replace H : (if t436 = (-1) then (if (l1.length : Int) = 64 then (some (([] : List (S44)), 10)) else ((chargeparkref40_Valid.f a2 (wrap64 ((l1.length : Int) + 1)) a3 a4 0).bind fun t438 => (if t438 = true then (chargeparkref40_Append.l0 k a0 l1 a2 a3 a4 (l1.length : Int) ([] : List (S44)) 0 a2 (wrap64 ((l1.length : Int) + 1)) a3 a4 0) else (some (([] : List (S44)), 1))))) else (some (([] : List (S44)), 11))) = some (r1, r2) := H
 have A6 := Aside0.mk A60
 clear A60
 by_cases c7 : t436 = (-1)
 ·rw [if_pos c7] at H
  have c7b0 : (t436 == (-1)) = true := beq_iff_eq.mpr c7
  have c7b1 : (t436 != (-1)) = false := bne_eq_false_iff_eq.mpr c7
  clear c7
  by_cases c8 : (l1.length : Int) = 64
  ·rw [if_pos c8] at H
   have c8b0 : ((l1.length : Int) == 64) = true := beq_iff_eq.mpr c8
   have c8b1 : ((l1.length : Int) != 64) = false := bne_eq_false_iff_eq.mpr c8
   clear c8
   simp only [Option.some.injEq, Prod.mk.injEq] at H
   obtain ⟨rfl, rfl⟩ := H
   go_enter Try.func30, Try.ntmps30
   go_wp2_with (first | ((with_reducible refine gate_callee (f := 36) rfl ?_); refine goesL_ (some 19) rfl rfl Try.func36 (by kernel_rfl) rfl #[.int .u64 a0, .slice A1 l1.length c1] rfl (by (try simp only [List.map_toArray, List.map_cons, List.map_nil]); first | done | rfl | (simp only [List.length_drop, List.length_take]; rfl)) ?_; (with_reducible refine (chargeparkref40_Check.calls k a0 _ _ l1 t436 _ ?side1 ?side2 A6.out).mono ?_); (case side1 => repeat (first | exact HR1.out | (with_reducible refine Kd.C_alloc ?_ _) | (with_reducible refine Kd.C_drewN ?_ _) | (with_reducible refine Kd.C_drew ?_))); (case side2 => exact HC1.out); rintro e w9 ⟨rfl, hb⟩; refine ⟨_, rfl, ?_⟩; have n0_ := Aside0.mk (below_step (by repeat (first | (with_reducible first | exact HB.out | apply below_alloc | apply pw_below_drewN | apply below_drew1) | exact HB.out)) hb); clear HB; have HB := n0_; clear n0_; (try clear hb); (try clear hb2); (try clear hk); (try clear hi)))
   go_ret2
   exact ⟨_, by first | rfl | (simp [errW_none, errW_some] <;> rfl) | (simp [*, errW_none, errW_some] <;> rfl), by first | exact Kd.R_nil _ _ _ _ _ | exact Kd.N_nil _ _ _ _ _ | exact Kd.V_nil _ _ _ _ _ | exact Kd.Q_nil _ _ _ _ _ | exact Kd.S_nil _ _ _ _ _, by repeat (first | (with_reducible first | exact HB.out | apply below_alloc | apply pw_below_drewN | apply below_drew1) | exact HB.out)⟩
  ·rw [if_neg c8] at H
   have c8b0 : ((l1.length : Int) == 64) = false := beq_eq_false_iff_ne.mpr c8
   have c8b1 : ((l1.length : Int) != 64) = true := bne_iff_ne.mpr c8
   replace H := Option.bind_eq_some_iff.mp H
   obtain ⟨t438, A100, H⟩ := H
   replace H : (if t438 = true then (chargeparkref40_Append.l0 k a0 l1 a2 a3 a4 (l1.length : Int) ([] : List (S44)) 0 a2 (wrap64 ((l1.length : Int) + 1)) a3 a4 0) else (some (([] : List (S44)), 1))) = some (r1, r2) := H
   have A10 := Aside0.mk A100
   clear A100
   by_cases c11 : t438 = true
   ·subst c11
    have H1 : (chargeparkref40_Append.l0 k a0 l1 a2 a3 a4 (l1.length : Int) ([] : List (S44)) 0 a2 (wrap64 ((l1.length : Int) + 1)) a3 a4 0) = some (r1, r2) := by rw [if_pos rfl] at H; exact H
    clear H
    have H := H1
    clear H1
    have H' := Aside0.mk H
    clear H
    go_enter Try.func30, Try.ntmps30
    go_wp2_with (first | ((with_reducible refine gate_callee (f := 36) rfl ?_); refine goesL_ (some 19) rfl rfl Try.func36 (by kernel_rfl) rfl #[.int .u64 a0, .slice A1 l1.length c1] rfl (by (try simp only [List.map_toArray, List.map_cons, List.map_nil]); first | done | rfl | (simp only [List.length_drop, List.length_take]; rfl)) ?_; (with_reducible refine (chargeparkref40_Check.calls k a0 _ _ l1 t436 _ ?side1 ?side2 A6.out).mono ?_); (case side1 => repeat (first | exact HR1.out | (with_reducible refine Kd.C_alloc ?_ _) | (with_reducible refine Kd.C_drewN ?_ _) | (with_reducible refine Kd.C_drew ?_))); (case side2 => exact HC1.out); rintro e w12 ⟨rfl, hb⟩; refine ⟨_, rfl, ?_⟩; have n0_ := Aside0.mk (below_step (by repeat (first | (with_reducible first | exact HB.out | apply below_alloc | apply pw_below_drewN | apply below_drew1) | exact HB.out)) hb); clear HB; have HB := n0_; clear n0_; (try clear hb); (try clear hb2); (try clear hk); (try clear hi)) | ((with_reducible refine gate_dst (N := 13) rfl ?_); refine box_event ?hg (N := 13) ?hd (cs := #[.int .i64 0, .int .i64 0, .int .i64 0, .int .i64 0, .int .u64 0]) (t := 44) ?hr ?_; (case hd => rfl); (case hg => rfl); (case hr => first | (go_simp; done) | (go_simp; rfl)); intro gb437 hg w13 hbox hb; have n0_ := Aside0.mk (below_step (by repeat (first | (with_reducible first | exact HB.out | apply below_alloc | apply pw_below_drewN | apply below_drew1) | exact HB.out)) hb); have n1_ := Aside0.mk (hbox); have n2_ := Aside0.mk ((by rw [hg]; exact (below_size (by repeat (first | (with_reducible first | exact HB.out | apply below_alloc | apply pw_below_drewN | apply below_drew1) | exact HB.out))) : w.heap.size ≤ gb437)); have n3_ := Aside0.mk ((by rw [hg]; exact (below_size (by repeat (first | (with_reducible first | exact HB.out | apply below_alloc | apply pw_below_drewN | apply below_drew1) | exact HB.out))) : w.heap.size ≤ gb437)); clear HB; have HB := n0_; have BK437 := n1_; have GW437 := n2_; have GE437 := n3_; clear n0_ n1_ n2_ n3_; clear hb hbox hg; have hcz14_0 : w13.cell? ⟨gb437, 0, none⟩ = some (.int .i64 0) := (blk_cell BK437.out 0).trans rfl; have hcz14_1 : w13.cell? ⟨gb437, 1, none⟩ = some (.int .i64 0) := (blk_cell BK437.out 1).trans rfl; have hcz14_2 : w13.cell? ⟨gb437, 2, none⟩ = some (.int .i64 0) := (blk_cell BK437.out 2).trans rfl; have hcz14_3 : w13.cell? ⟨gb437, 3, none⟩ = some (.int .i64 0) := (blk_cell BK437.out 3).trans rfl; have hcz14_4 : w13.cell? ⟨gb437, 4, none⟩ = some (.int .u64 0) := (blk_cell BK437.out 4).trans rfl; have hfz14_0 := blk_frozen BK437.out 0; have hfz14_1 := blk_frozen BK437.out 1; have hfz14_2 := blk_frozen BK437.out 2; have hfz14_3 := blk_frozen BK437.out 3; have hfz14_4 := blk_frozen BK437.out 4) | ((with_reducible refine gate_callee (f := 48) rfl ?_); refine goesL_ (some 32) rfl rfl Try.func48 (by kernel_rfl) rfl #[.agg #[.int .i64 a2, .int .i64 (wrap64 ((l1.length : Int) + 1)), .int .i64 a3, .int .i64 a4, .int .u64 0]] rfl (by (try simp only [List.map_toArray, List.map_cons, List.map_nil]); first | done | rfl | (simp only [List.length_drop, List.length_take]; rfl)) ?_; (with_reducible refine (chargeparkref40_Valid.calls a2 (wrap64 ((l1.length : Int) + 1)) a3 a4 0 true _ A10.out).mono ?_); rintro e w15 ⟨rfl, hb⟩; refine ⟨_, rfl, ?_⟩; have n0_ := Aside0.mk (blk_below (g := gb437) (o := .cells #[.int .i64 a2, .int .i64 (wrap64 ((l1.length : Int) + 1)), .int .i64 a3, .int .i64 a4, .int .u64 0] 44 (0, 0)) (by (with_reducible repeat (first | refine blk_drewN ?_ _ | refine blk_drew ?_ | refine blk_alloc ?_ _)); refine blk_put (cs := #[.int .i64 a2, .int .i64 (wrap64 ((l1.length : Int) + 1)), .int .i64 a3, .int .i64 a4, .int .u64 0]) ?_ 4 _ rfl; (with_reducible repeat (first | refine blk_drewN ?_ _ | refine blk_drew ?_ | refine blk_alloc ?_ _)); refine blk_put (cs := #[.int .i64 a2, .int .i64 (wrap64 ((l1.length : Int) + 1)), .int .i64 a3, .int .i64 0, .int .u64 0]) ?_ 3 _ rfl; (with_reducible repeat (first | refine blk_drewN ?_ _ | refine blk_drew ?_ | refine blk_alloc ?_ _)); refine blk_put (cs := #[.int .i64 a2, .int .i64 (wrap64 ((l1.length : Int) + 1)), .int .i64 0, .int .i64 0, .int .u64 0]) ?_ 2 _ rfl; (with_reducible repeat (first | refine blk_drewN ?_ _ | refine blk_drew ?_ | refine blk_alloc ?_ _)); refine blk_put (cs := #[.int .i64 a2, .int .i64 0, .int .i64 0, .int .i64 0, .int .u64 0]) ?_ 1 _ rfl; (with_reducible repeat (first | refine blk_drewN ?_ _ | refine blk_drew ?_ | refine blk_alloc ?_ _)); refine blk_put (cs := #[.int .i64 0, .int .i64 0, .int .i64 0, .int .i64 0, .int .u64 0]) ?_ 0 _ rfl; (with_reducible repeat (first | refine blk_drewN ?_ _ | refine blk_drew ?_ | refine blk_alloc ?_ _)); exact BK437.out) hb); have n1_ := Aside0.mk (below_step (by repeat (first | (with_reducible first | exact HB.out | apply below_alloc | apply pw_below_drewN | apply below_drew1 | refine below_set ?_ GE437.out) | exact HB.out)) hb); clear BK437; clear HB; have BK437 := n0_; have HB := n1_; clear n0_ n1_; (try clear hb); (try clear hb2); (try clear hk); (try clear hi)))
    go_loopg [14, 15] k (fun kq v14 v15 w' => ∃ (x14_1 : List (S44)) (x15_1 : Int), v15 = .int .i64 x15_1 ∧ Aside0 (chargeparkref40_Append.l0 kq a0 l1 a2 a3 a4 (l1.length : Int) x14_1 x15_1 a2 (wrap64 ((l1.length : Int) + 1)) a3 a4 0 = some (r1, r2)) ∧ Aside0 (kq ≤ k) ∧ Aside0 (Kd.R k44 44 w' w.heap.size (fun k_ => k_ ≠ gb437) v14 x14_1) ∧ Aside0 (w'.heap[gb437]? = some (.cells #[.int .i64 a2, .int .i64 (wrap64 ((l1.length : Int) + 1)), .int .i64 a3, .int .i64 a4, .int .u64 0] 44 (0, 0))) ∧ Aside0 (Below w.heap.size w w'))
    case atStart => exact ⟨(([] : List (S44))), (0), (by first | rfl | (simp; done) | (simp [*]; done) | kernel_rfl), H', ⟨Nat.le_refl _⟩, ⟨by first | exact Kd.R_nil _ _ _ _ _ | exact Kd.N_nil _ _ _ _ _ | exact Kd.V_nil _ _ _ _ _ | exact Kd.Q_nil _ _ _ _ _ | exact Kd.S_nil _ _ _ _ _⟩, ⟨by (with_reducible repeat (first | refine blk_drewN ?_ _ | refine blk_drew ?_ | refine blk_alloc ?_ _)); exact BK437.out⟩, ⟨by repeat (first | (with_reducible first | exact HB.out | apply below_alloc | apply pw_below_drewN | apply below_drew1 | refine below_set ?_ GE437.out) | exact HB.out)⟩⟩
    case round =>
     clear H'
     try clear c1
     try clear p2
     try clear c3
     try clear c4
     try clear p6
     try clear c7
     try clear c7b0
     try clear c7b1
     try clear c8
     try clear c8b0
     try clear c8b1
     try clear c11
     try clear hcz14_0
     try clear hcz14_1
     try clear hcz14_2
     try clear hcz14_3
     try clear hcz14_4
     try clear hfz14_0
     try clear hfz14_1
     try clear hfz14_2
     try clear hfz14_3
     try clear hfz14_4
     obtain ⟨x14_1, x15_1, rfl, HA, HK1, HO_14, BK437, HB⟩ := hrel
     cases gk with
     | zero => exact absurd HA.out (by simp [chargeparkref40_Append.l0])
     | succ k1 =>
      have H := HA.out
      clear HA
      simp only [chargeparkref40_Append.l0] at H
      by_cases c16 : x15_1 < (l1.length : Int)
      ·rw [if_pos c16] at H
       have c16b0 : decide (x15_1 < (l1.length : Int)) = true := decide_eq_true c16
       clear c16
       by_cases c17 : 0 ≤ x15_1
       ·rw [if_pos c17] at H
        have c17b0 : decide (0 ≤ x15_1) = true := decide_eq_true c17
        clear c17
        by_cases c18 : x15_1 < (l1.length : Int)
        ·rw [if_pos c18] at H
         have c18b0 : decide (x15_1 < (l1.length : Int)) = true := decide_eq_true c18
         clear c18
         by_cases c19 : x14_1.length < 3518437208883
         ·rw [if_pos c19] at H
          have LMc19 := Aside0.mk c19
          clear c19
          obtain ⟨y440, hy440⟩ : ∃ y_ : List (S44), y_ = (x14_1 ++ [(⟨(rd_T44 l1 x15_1).f0, (rd_T44 l1 x15_1).f1, (rd_T44 l1 x15_1).f2, (rd_T44 l1 x15_1).f3, (rd_T44 l1 x15_1).f4⟩ : S44)]) := ⟨_, rfl⟩
          replace H : (chargeparkref40_Append.l0 k1 a0 l1 a2 a3 a4 (l1.length : Int) y440 (wrap64 (x15_1 + 1)) a2 (wrap64 ((l1.length : Int) + 1)) a3 a4 0) = some (r1, r2) := by first | (rw [hy440]; with_reducible exact H) | (have H2_ := (Option.bind_some _ _).symm.trans H; rw [hy440]; with_reducible exact H2_) | (have H2_ := (Option.bind_some _ _).symm.trans H; with_reducible exact H2_) | with_reducible exact H | (rw [hy440]; exact H) | exact H
          have Ny440 := Aside0.mk hy440
          clear hy440
          have H' := Aside0.mk H
          clear H
          have p439 : 0 ≤ (x15_1 : Int) := of_decide_eq_true (by first | (with_reducible assumption) | assumption)
          have q439 : x15_1 < (l1.length : Int) := of_decide_eq_true (by first | (with_reducible assumption) | assumption)
          obtain ⟨ad439, e439, hx439_0, hx439_1, hx439_2, hx439_3, hx439_4⟩ := at_T44 HR1.out x15_1 p439 q439
          cases e439
          replace hx439_0 := (HB.out.cell (World.block_lt_of_cell? w _ hx439_0)).trans hx439_0
          replace hx439_1 := (HB.out.cell (World.block_lt_of_cell? w _ hx439_1)).trans hx439_1
          replace hx439_2 := (HB.out.cell (World.block_lt_of_cell? w _ hx439_2)).trans hx439_2
          replace hx439_3 := (HB.out.cell (World.block_lt_of_cell? w _ hx439_3)).trans hx439_3
          replace hx439_4 := (HB.out.cell (World.block_lt_of_cell? w _ hx439_4)).trans hx439_4
          replace p439 := eq_true p439
          replace q439 := eq_true q439
          go_wp2_with (first | ((with_reducible refine gate_builtin (b := .append) (xs := #[.tmp 39, .tmp 44]) rfl ?_); at_builtin; refine Kd.R_append k44 (w0 := w) w.heap.size rfl (.tmp 39) (.tmp 44) 26 44 (.agg #[(.int .i64 0), (.int .i64 0), (.int .i64 0), (.int .i64 0), (.int .u64 0)]) 40 rfl Try.underlying26 info44 rfl (by decide) (by omega) u14 x14_1 (⟨(rd_T44 l1 x15_1).f0, (rd_T44 l1 x15_1).f1, (rd_T44 l1 x15_1).f2, (rd_T44 l1 x15_1).f3, (rd_T44 l1 x15_1).f4⟩ : S44) [.int .i64 ((rd_T44 l1 x15_1).f0), .int .i64 ((rd_T44 l1 x15_1).f1), .int .i64 ((rd_T44 l1 x15_1).f2), .int .i64 ((rd_T44 l1 x15_1).f3), .int .u64 ((rd_T44 l1 x15_1).f4)] (fun k_ => k_ ≠ gb437) (fun _ => False) rfl rfl ?aP (fun _ hk => hk.elim) ?aF ?aO ?aB ?aS ?aL ?_; (case aP => exact k44_mkM _ _ _ (⟨(rd_T44 l1 x15_1).f0, (rd_T44 l1 x15_1).f1, (rd_T44 l1 x15_1).f2, (rd_T44 l1 x15_1).f3, (rd_T44 l1 x15_1).f4⟩ : S44)); (case aB => exact (by repeat (first | (with_reducible first | exact HB.out | apply below_alloc | apply pw_below_drewN | apply below_drew1 | refine below_set ?_ GE437.out) | exact HB.out))); (case aF => exact (fun k_ hk => Kd.freshB (g := gb437) (o := .cells #[.int .i64 a2, .int .i64 (wrap64 ((l1.length : Int) + 1)), .int .i64 a3, .int .i64 a4, .int .u64 0] 44 (0, 0)) (by (with_reducible repeat (first | refine blk_drewN ?_ _ | refine blk_drew ?_ | refine blk_alloc ?_ _)); exact BK437.out) k_ hk)); (case aO => exact (by (with_reducible repeat (first | apply Kd.R_alloc | apply Kd.R_drewN | apply Kd.R_drew)); exact HO_14.out)); (case aS => exact (below_size (by repeat (first | (with_reducible first | exact HB.out | apply below_alloc | apply pw_below_drewN | apply below_drew1 | refine below_set ?_ GE437.out) | exact HB.out)))); (case aL => have := LMc19.out; omega); intro v441 w20 ho hb hg hat; rw [← Ny440.out] at ho; have n0_ := Aside0.mk (blk_grown (g := gb437) (o := .cells #[.int .i64 a2, .int .i64 (wrap64 ((l1.length : Int) + 1)), .int .i64 a3, .int .i64 a4, .int .u64 0] 44 (0, 0)) (by (with_reducible repeat (first | refine blk_drewN ?_ _ | refine blk_drew ?_ | refine blk_alloc ?_ _)); exact BK437.out) hg (Kd.R_away HO_14.out (fun _ hk => hk))); have n1_ := Aside0.mk (hb); have n2_ := Aside0.mk (ho); clear BK437; clear HB; clear HO_14; have BK437 := n0_; have HB := n1_; have HO442 := n2_; clear n0_ n1_ n2_; clear ho hb hg hat))
          go_roundg k1
          case measure => have := HK1.out; omega
          case rel => exact ⟨(y440), (wrap64 (x15_1 + 1)), (by first | rfl | (simp; done) | (simp [*]; done) | kernel_rfl), H', ⟨by have := HK1.out; omega⟩, ⟨by (with_reducible repeat (first | apply Kd.R_alloc | apply Kd.R_drewN | apply Kd.R_drew)); exact HO442.out⟩, ⟨by (with_reducible repeat (first | refine blk_drewN ?_ _ | refine blk_drew ?_ | refine blk_alloc ?_ _)); exact BK437.out⟩, ⟨by repeat (first | (with_reducible first | exact HB.out | apply below_alloc | apply pw_below_drewN | apply below_drew1 | refine below_set ?_ GE437.out) | exact HB.out)⟩⟩
         ·rw [if_neg c19] at H
          exact absurd H (by simp)
        ·rw [if_neg c18] at H
         exact absurd H (by simp)
       ·rw [if_neg c17] at H
        exact absurd H (by simp)
      ·rw [if_neg c16] at H
       have c16b0 : decide (x15_1 < (l1.length : Int)) = false := decide_eq_false c16
       clear c16
       by_cases c21 : (l1.length : Int) > 0
       ·rw [if_pos c21] at H
        have c21b0 : decide (0 < (l1.length : Int)) = true := decide_eq_true c21
        have c21b1 : decide (0 < l1.length) = true := decide_eq_true (by omega)
        clear c21
        obtain ⟨ji22, hji22⟩ : ∃ j_ : Int, (wrap64 ((l1.length : Int) - 1)) = j_ := ⟨_, rfl⟩
        replace H : (if 0 ≤ (ji22) then (if (ji22) < (l1.length : Int) then (if a3 < ((rd_T44 l1 (ji22)).f2) then (chargeparkref40_Append.j1 k1 ((rd_T44 l1 (ji22)).f4) a2 a3 x14_1 true a2 (wrap64 ((l1.length : Int) + 1)) a3 a4 0 ((rd_T44 l1 (ji22)).f0) ((rd_T44 l1 (ji22)).f1) ((rd_T44 l1 (ji22)).f2) ((rd_T44 l1 (ji22)).f3) ((rd_T44 l1 (ji22)).f4)) else (if a2 = ((rd_T44 l1 (ji22)).f0) then (chargeparkref40_Append.j1 k1 ((rd_T44 l1 (ji22)).f4) a2 a3 x14_1 (decide (a4 < ((rd_T44 l1 (ji22)).f3))) a2 (wrap64 ((l1.length : Int) + 1)) a3 a4 0 ((rd_T44 l1 (ji22)).f0) ((rd_T44 l1 (ji22)).f1) ((rd_T44 l1 (ji22)).f2) ((rd_T44 l1 (ji22)).f3) ((rd_T44 l1 (ji22)).f4)) else (chargeparkref40_Append.j1 k1 ((rd_T44 l1 (ji22)).f4) a2 a3 x14_1 false a2 (wrap64 ((l1.length : Int) + 1)) a3 a4 0 ((rd_T44 l1 (ji22)).f0) ((rd_T44 l1 (ji22)).f1) ((rd_T44 l1 (ji22)).f2) ((rd_T44 l1 (ji22)).f3) ((rd_T44 l1 (ji22)).f4)))) else (none)) else (none)) = some (r1, r2) := by first | (rw [hji22] at H; exact H) | (simp only [hji22] at H ⊢; exact H)
        have hji22w : (IntKind.i64.wrap ((l1.length : Int) - 1)) = ji22 := (i64_w _).trans hji22
        by_cases c23 : 0 ≤ (ji22)
        ·rw [if_pos c23] at H
         have c23b0 : decide (0 ≤ (ji22)) = true := decide_eq_true c23
         clear c23
         by_cases c24 : (ji22) < (l1.length : Int)
         ·rw [if_pos c24] at H
          have c24b0 : decide ((ji22) < (l1.length : Int)) = true := decide_eq_true c24
          clear c24
          have HC25 := Aside0.mk H
          clear H
          have p443 : 0 ≤ ((ji22) : Int) := of_decide_eq_true (by first | (with_reducible assumption) | assumption)
          have q443 : (ji22) < (l1.length : Int) := of_decide_eq_true (by first | (with_reducible assumption) | assumption)
          obtain ⟨ad443, e443, hx443_0, hx443_1, hx443_2, hx443_3, hx443_4⟩ := at_T44 HR1.out (ji22) p443 q443
          cases e443
          replace hx443_0 := (HB.out.cell (World.block_lt_of_cell? w _ hx443_0)).trans hx443_0
          replace hx443_1 := (HB.out.cell (World.block_lt_of_cell? w _ hx443_1)).trans hx443_1
          replace hx443_2 := (HB.out.cell (World.block_lt_of_cell? w _ hx443_2)).trans hx443_2
          replace hx443_3 := (HB.out.cell (World.block_lt_of_cell? w _ hx443_3)).trans hx443_3
          replace hx443_4 := (HB.out.cell (World.block_lt_of_cell? w _ hx443_4)).trans hx443_4
          replace p443 := eq_true p443
          replace q443 := eq_true q443
          go_upto_region 17 with (first | ((with_reducible refine gate_dst (N := 16) rfl ?_); refine box_event ?hg (N := 16) ?hd (cs := #[.int .i64 0, .int .i64 0, .int .i64 0, .int .i64 0, .int .u64 0]) (t := 44) ?hr ?_; (case hd => rfl); (case hg => rfl); (case hr => first | (go_simp; done) | (go_simp; rfl)); intro gb444 hg w26 hbox hb; have n0_ := Aside0.mk (Kd.R_below (Kd.R_elderB (by (with_reducible repeat (first | apply Kd.R_alloc | apply Kd.R_drewN | apply Kd.R_drew)); exact HO_14.out) gb444 (Nat.le_of_eq hg.symm)) hb); have n1_ := Aside0.mk (blk_below (g := gb437) (o := .cells #[.int .i64 a2, .int .i64 (wrap64 ((l1.length : Int) + 1)), .int .i64 a3, .int .i64 a4, .int .u64 0] 44 (0, 0)) (by (with_reducible repeat (first | refine blk_drewN ?_ _ | refine blk_drew ?_ | refine blk_alloc ?_ _)); exact BK437.out) hb); have n2_ := Aside0.mk (below_step (by repeat (first | (with_reducible first | exact HB.out | apply below_alloc | apply pw_below_drewN | apply below_drew1 | refine below_set ?_ GE437.out) | exact HB.out)) hb); have n3_ := Aside0.mk (hbox); have n4_ := Aside0.mk ((by rw [hg]; exact (below_size (by repeat (first | (with_reducible first | exact HB.out | apply below_alloc | apply pw_below_drewN | apply below_drew1 | refine below_set ?_ GE437.out) | exact HB.out))) : w.heap.size ≤ gb444)); have n5_ := Aside0.mk ((by rw [hg]; exact (below_size (by repeat (first | (with_reducible first | exact HB.out | apply below_alloc | apply pw_below_drewN | apply below_drew1 | refine below_set ?_ GE437.out) | exact HB.out))) : w.heap.size ≤ gb444)); have n6_ := Aside0.mk ((by rw [hg]; exact Nat.ne_of_lt (blk_lt (g := gb437) (o := .cells #[.int .i64 a2, .int .i64 (wrap64 ((l1.length : Int) + 1)), .int .i64 a3, .int .i64 a4, .int .u64 0] 44 (0, 0)) (by (with_reducible repeat (first | refine blk_drewN ?_ _ | refine blk_drew ?_ | refine blk_alloc ?_ _)); exact BK437.out)) : gb437 ≠ gb444)); have n7_ := Aside0.mk ((by rw [hg]; exact Nat.ne_of_gt (blk_lt (g := gb437) (o := .cells #[.int .i64 a2, .int .i64 (wrap64 ((l1.length : Int) + 1)), .int .i64 a3, .int .i64 a4, .int .u64 0] 44 (0, 0)) (by (with_reducible repeat (first | refine blk_drewN ?_ _ | refine blk_drew ?_ | refine blk_alloc ?_ _)); exact BK437.out)) : gb444 ≠ gb437)); clear HO_14; clear BK437; clear HB; have HO_14 := n0_; have BK437 := n1_; have HB := n2_; have BK444 := n3_; have GW444 := n4_; have GE444 := n5_; have NB437_444 := n6_; have NB444_437 := n7_; clear n0_ n1_ n2_ n3_ n4_ n5_ n6_ n7_; clear hb hbox hg; have hnb27 := NB444_437.out; have hnc27 := NB437_444.out; have hcz28_0 : w26.cell? ⟨gb444, 0, none⟩ = some (.int .i64 0) := (blk_cell BK444.out 0).trans rfl; have hcz28_1 : w26.cell? ⟨gb444, 1, none⟩ = some (.int .i64 0) := (blk_cell BK444.out 1).trans rfl; have hcz28_2 : w26.cell? ⟨gb444, 2, none⟩ = some (.int .i64 0) := (blk_cell BK444.out 2).trans rfl; have hcz28_3 : w26.cell? ⟨gb444, 3, none⟩ = some (.int .i64 0) := (blk_cell BK444.out 3).trans rfl; have hcz28_4 : w26.cell? ⟨gb444, 4, none⟩ = some (.int .u64 0) := (blk_cell BK444.out 4).trans rfl; have hfz28_0 := blk_frozen BK444.out 0; have hfz28_1 := blk_frozen BK444.out 1; have hfz28_2 := blk_frozen BK444.out 2; have hfz28_3 := blk_frozen BK444.out 3; have hfz28_4 := blk_frozen BK444.out 4))
          (try simp only [Act.put, List.setIfInBounds_toArray, List.set_cons_zero, List.set_cons_succ])
          go_cut [70] (fun v70 wc => ∃ (kq : Nat) (x70_24 : Bool), v70 = .bool x70_24 ∧ Aside0 (chargeparkref40_Append.j1 kq ((rd_T44 l1 (ji22)).f4) a2 a3 x14_1 x70_24 a2 (wrap64 ((l1.length : Int) + 1)) a3 a4 0 ((rd_T44 l1 (ji22)).f0) ((rd_T44 l1 (ji22)).f1) ((rd_T44 l1 (ji22)).f2) ((rd_T44 l1 (ji22)).f3) ((rd_T44 l1 (ji22)).f4) = some (r1, r2)) ∧ Aside0 (kq ≤ k1) ∧ Aside0 (Kd.R k44 44 wc w.heap.size (fun k_ => k_ ≠ gb437 ∧ k_ ≠ gb444) u14 x14_1) ∧ Aside0 (wc.heap[gb437]? = some (.cells #[.int .i64 a2, .int .i64 (wrap64 ((l1.length : Int) + 1)), .int .i64 a3, .int .i64 a4, .int .u64 0] 44 (0, 0))) ∧ Aside0 (wc.heap[gb444]? = some (.cells #[.int .i64 ((rd_T44 l1 (ji22)).f0), .int .i64 ((rd_T44 l1 (ji22)).f1), .int .i64 ((rd_T44 l1 (ji22)).f2), .int .i64 ((rd_T44 l1 (ji22)).f3), .int .u64 ((rd_T44 l1 (ji22)).f4)] 44 (0, 0))) ∧ Aside0 (Below w.heap.size w wc))
          case first =>
           have H := HC25.out
           clear HC25
           by_cases c29 : a3 < ((rd_T44 l1 (ji22)).f2)
           ·rw [if_pos c29] at H
            have c29b0 : decide (a3 < ((rd_T44 l1 (ji22)).f2)) = true := decide_eq_true c29
            clear c29
            (first | rw [c29b0] | (simp only [i64_w, i32_w]; rw [c29b0]) | skip)
            have H' := Aside0.mk H
            clear H
            have hnb30 := NB444_437.out
            have hnc30 := NB437_444.out
            have hcz31_0 : w26.cell? ⟨gb444, 0, none⟩ = some (.int .i64 0) := (blk_cell BK444.out 0).trans rfl
            have hcz31_1 : w26.cell? ⟨gb444, 1, none⟩ = some (.int .i64 0) := (blk_cell BK444.out 1).trans rfl
            have hcz31_2 : w26.cell? ⟨gb444, 2, none⟩ = some (.int .i64 0) := (blk_cell BK444.out 2).trans rfl
            have hcz31_3 : w26.cell? ⟨gb444, 3, none⟩ = some (.int .i64 0) := (blk_cell BK444.out 3).trans rfl
            have hcz31_4 : w26.cell? ⟨gb444, 4, none⟩ = some (.int .u64 0) := (blk_cell BK444.out 4).trans rfl
            have hfz31_0 := blk_frozen BK444.out 0
            have hfz31_1 := blk_frozen BK444.out 1
            have hfz31_2 := blk_frozen BK444.out 2
            have hfz31_3 := blk_frozen BK444.out 3
            have hfz31_4 := blk_frozen BK444.out 4
            go_wp2
            go_meet
            case rel => exact ⟨_, (true), (by first | rfl | (simp; done) | (simp [*]; done) | kernel_rfl), H', ⟨by have := HK1.out; first | omega | exact Nat.le_refl _⟩, ⟨by (with_reducible repeat (first | apply Kd.R_alloc | apply Kd.R_drewN | apply Kd.R_drew)); exact Kd.R_mono (Kd.R_far (p := ⟨gb444, 4, none⟩) (Kd.R_far (p := ⟨gb444, 3, none⟩) (Kd.R_far (p := ⟨gb444, 2, none⟩) (Kd.R_far (p := ⟨gb444, 1, none⟩) (Kd.R_far (p := ⟨gb444, 0, none⟩) (Kd.R_mono HO_14.out (fun k_ hk => (⟨hk, hk.2⟩ : _ ∧ k_ ≠ gb444))) (fun _ hk => hk.2) (.int .i64 ((rd_T44 l1 (ji22)).f0))) (fun _ hk => hk.2) (.int .i64 ((rd_T44 l1 (ji22)).f1))) (fun _ hk => hk.2) (.int .i64 ((rd_T44 l1 (ji22)).f2))) (fun _ hk => hk.2) (.int .i64 ((rd_T44 l1 (ji22)).f3))) (fun _ hk => hk.2) (.int .u64 ((rd_T44 l1 (ji22)).f4))) (fun _ hk => ⟨hk.1.1, hk.1.2⟩)⟩, ⟨by (with_reducible repeat (first | refine blk_drewN ?_ _ | refine blk_drew ?_ | refine blk_alloc ?_ _)); refine blk_far ?_ NB437_444.out _; (with_reducible repeat (first | refine blk_drewN ?_ _ | refine blk_drew ?_ | refine blk_alloc ?_ _)); refine blk_far ?_ NB437_444.out _; (with_reducible repeat (first | refine blk_drewN ?_ _ | refine blk_drew ?_ | refine blk_alloc ?_ _)); refine blk_far ?_ NB437_444.out _; (with_reducible repeat (first | refine blk_drewN ?_ _ | refine blk_drew ?_ | refine blk_alloc ?_ _)); refine blk_far ?_ NB437_444.out _; (with_reducible repeat (first | refine blk_drewN ?_ _ | refine blk_drew ?_ | refine blk_alloc ?_ _)); refine blk_far ?_ NB437_444.out _; (with_reducible repeat (first | refine blk_drewN ?_ _ | refine blk_drew ?_ | refine blk_alloc ?_ _)); exact BK437.out⟩, ⟨by (with_reducible repeat (first | refine blk_drewN ?_ _ | refine blk_drew ?_ | refine blk_alloc ?_ _)); refine blk_put (cs := #[.int .i64 ((rd_T44 l1 (ji22)).f0), .int .i64 ((rd_T44 l1 (ji22)).f1), .int .i64 ((rd_T44 l1 (ji22)).f2), .int .i64 ((rd_T44 l1 (ji22)).f3), .int .u64 0]) ?_ 4 _ rfl; (with_reducible repeat (first | refine blk_drewN ?_ _ | refine blk_drew ?_ | refine blk_alloc ?_ _)); refine blk_put (cs := #[.int .i64 ((rd_T44 l1 (ji22)).f0), .int .i64 ((rd_T44 l1 (ji22)).f1), .int .i64 ((rd_T44 l1 (ji22)).f2), .int .i64 0, .int .u64 0]) ?_ 3 _ rfl; (with_reducible repeat (first | refine blk_drewN ?_ _ | refine blk_drew ?_ | refine blk_alloc ?_ _)); refine blk_put (cs := #[.int .i64 ((rd_T44 l1 (ji22)).f0), .int .i64 ((rd_T44 l1 (ji22)).f1), .int .i64 0, .int .i64 0, .int .u64 0]) ?_ 2 _ rfl; (with_reducible repeat (first | refine blk_drewN ?_ _ | refine blk_drew ?_ | refine blk_alloc ?_ _)); refine blk_put (cs := #[.int .i64 ((rd_T44 l1 (ji22)).f0), .int .i64 0, .int .i64 0, .int .i64 0, .int .u64 0]) ?_ 1 _ rfl; (with_reducible repeat (first | refine blk_drewN ?_ _ | refine blk_drew ?_ | refine blk_alloc ?_ _)); refine blk_put (cs := #[.int .i64 0, .int .i64 0, .int .i64 0, .int .i64 0, .int .u64 0]) ?_ 0 _ rfl; (with_reducible repeat (first | refine blk_drewN ?_ _ | refine blk_drew ?_ | refine blk_alloc ?_ _)); exact BK444.out⟩, ⟨by repeat (first | (with_reducible first | exact HB.out | apply below_alloc | apply pw_below_drewN | apply below_drew1 | refine below_set ?_ GE437.out | refine below_set ?_ GE444.out) | exact HB.out)⟩⟩
           ·rw [if_neg c29] at H
            have c29b0 : decide (a3 < ((rd_T44 l1 (ji22)).f2)) = false := decide_eq_false c29
            clear c29
            (first | rw [c29b0] | (simp only [i64_w, i32_w]; rw [c29b0]) | skip)
            by_cases c32 : a2 = ((rd_T44 l1 (ji22)).f0)
            ·rw [if_pos c32] at H
             have c32b0 : (a2 == ((rd_T44 l1 (ji22)).f0)) = true := beq_iff_eq.mpr c32
             have c32b1 : (a2 != ((rd_T44 l1 (ji22)).f0)) = false := bne_eq_false_iff_eq.mpr c32
             clear c32
             have H' := Aside0.mk H
             clear H
             have hnb33 := NB444_437.out
             have hnc33 := NB437_444.out
             have hcz34_0 : w26.cell? ⟨gb444, 0, none⟩ = some (.int .i64 0) := (blk_cell BK444.out 0).trans rfl
             have hcz34_1 : w26.cell? ⟨gb444, 1, none⟩ = some (.int .i64 0) := (blk_cell BK444.out 1).trans rfl
             have hcz34_2 : w26.cell? ⟨gb444, 2, none⟩ = some (.int .i64 0) := (blk_cell BK444.out 2).trans rfl
             have hcz34_3 : w26.cell? ⟨gb444, 3, none⟩ = some (.int .i64 0) := (blk_cell BK444.out 3).trans rfl
             have hcz34_4 : w26.cell? ⟨gb444, 4, none⟩ = some (.int .u64 0) := (blk_cell BK444.out 4).trans rfl
             have hfz34_0 := blk_frozen BK444.out 0
             have hfz34_1 := blk_frozen BK444.out 1
             have hfz34_2 := blk_frozen BK444.out 2
             have hfz34_3 := blk_frozen BK444.out 3
             have hfz34_4 := blk_frozen BK444.out 4
             go_wp2
             go_meet
             case rel => exact ⟨_, (decide (a4 < ((rd_T44 l1 (ji22)).f3))), (by first | rfl | (simp; done) | (simp only [← hji22] <;> (first | rfl | simp)) | (simp [*]; done) | kernel_rfl), H', ⟨by have := HK1.out; first | omega | exact Nat.le_refl _⟩, ⟨by (with_reducible repeat (first | apply Kd.R_alloc | apply Kd.R_drewN | apply Kd.R_drew)); exact Kd.R_mono (Kd.R_far (p := ⟨gb444, 4, none⟩) (Kd.R_far (p := ⟨gb444, 3, none⟩) (Kd.R_far (p := ⟨gb444, 2, none⟩) (Kd.R_far (p := ⟨gb444, 1, none⟩) (Kd.R_far (p := ⟨gb444, 0, none⟩) (Kd.R_mono HO_14.out (fun k_ hk => (⟨hk, hk.2⟩ : _ ∧ k_ ≠ gb444))) (fun _ hk => hk.2) (.int .i64 ((rd_T44 l1 (ji22)).f0))) (fun _ hk => hk.2) (.int .i64 ((rd_T44 l1 (ji22)).f1))) (fun _ hk => hk.2) (.int .i64 ((rd_T44 l1 (ji22)).f2))) (fun _ hk => hk.2) (.int .i64 ((rd_T44 l1 (ji22)).f3))) (fun _ hk => hk.2) (.int .u64 ((rd_T44 l1 (ji22)).f4))) (fun _ hk => ⟨hk.1.1, hk.1.2⟩)⟩, ⟨by (with_reducible repeat (first | refine blk_drewN ?_ _ | refine blk_drew ?_ | refine blk_alloc ?_ _)); refine blk_far ?_ NB437_444.out _; (with_reducible repeat (first | refine blk_drewN ?_ _ | refine blk_drew ?_ | refine blk_alloc ?_ _)); refine blk_far ?_ NB437_444.out _; (with_reducible repeat (first | refine blk_drewN ?_ _ | refine blk_drew ?_ | refine blk_alloc ?_ _)); refine blk_far ?_ NB437_444.out _; (with_reducible repeat (first | refine blk_drewN ?_ _ | refine blk_drew ?_ | refine blk_alloc ?_ _)); refine blk_far ?_ NB437_444.out _; (with_reducible repeat (first | refine blk_drewN ?_ _ | refine blk_drew ?_ | refine blk_alloc ?_ _)); refine blk_far ?_ NB437_444.out _; (with_reducible repeat (first | refine blk_drewN ?_ _ | refine blk_drew ?_ | refine blk_alloc ?_ _)); exact BK437.out⟩, ⟨by (with_reducible repeat (first | refine blk_drewN ?_ _ | refine blk_drew ?_ | refine blk_alloc ?_ _)); refine blk_put (cs := #[.int .i64 ((rd_T44 l1 (ji22)).f0), .int .i64 ((rd_T44 l1 (ji22)).f1), .int .i64 ((rd_T44 l1 (ji22)).f2), .int .i64 ((rd_T44 l1 (ji22)).f3), .int .u64 0]) ?_ 4 _ rfl; (with_reducible repeat (first | refine blk_drewN ?_ _ | refine blk_drew ?_ | refine blk_alloc ?_ _)); refine blk_put (cs := #[.int .i64 ((rd_T44 l1 (ji22)).f0), .int .i64 ((rd_T44 l1 (ji22)).f1), .int .i64 ((rd_T44 l1 (ji22)).f2), .int .i64 0, .int .u64 0]) ?_ 3 _ rfl; (with_reducible repeat (first | refine blk_drewN ?_ _ | refine blk_drew ?_ | refine blk_alloc ?_ _)); refine blk_put (cs := #[.int .i64 ((rd_T44 l1 (ji22)).f0), .int .i64 ((rd_T44 l1 (ji22)).f1), .int .i64 0, .int .i64 0, .int .u64 0]) ?_ 2 _ rfl; (with_reducible repeat (first | refine blk_drewN ?_ _ | refine blk_drew ?_ | refine blk_alloc ?_ _)); refine blk_put (cs := #[.int .i64 ((rd_T44 l1 (ji22)).f0), .int .i64 0, .int .i64 0, .int .i64 0, .int .u64 0]) ?_ 1 _ rfl; (with_reducible repeat (first | refine blk_drewN ?_ _ | refine blk_drew ?_ | refine blk_alloc ?_ _)); refine blk_put (cs := #[.int .i64 0, .int .i64 0, .int .i64 0, .int .i64 0, .int .u64 0]) ?_ 0 _ rfl; (with_reducible repeat (first | refine blk_drewN ?_ _ | refine blk_drew ?_ | refine blk_alloc ?_ _)); exact BK444.out⟩, ⟨by repeat (first | (with_reducible first | exact HB.out | apply below_alloc | apply pw_below_drewN | apply below_drew1 | refine below_set ?_ GE437.out | refine below_set ?_ GE444.out) | exact HB.out)⟩⟩
            ·rw [if_neg c32] at H
             have c32b0 : (a2 == ((rd_T44 l1 (ji22)).f0)) = false := beq_eq_false_iff_ne.mpr c32
             have c32b1 : (a2 != ((rd_T44 l1 (ji22)).f0)) = true := bne_iff_ne.mpr c32
             have H' := Aside0.mk H
             clear H
             have hnb35 := NB444_437.out
             have hnc35 := NB437_444.out
             have hcz36_0 : w26.cell? ⟨gb444, 0, none⟩ = some (.int .i64 0) := (blk_cell BK444.out 0).trans rfl
             have hcz36_1 : w26.cell? ⟨gb444, 1, none⟩ = some (.int .i64 0) := (blk_cell BK444.out 1).trans rfl
             have hcz36_2 : w26.cell? ⟨gb444, 2, none⟩ = some (.int .i64 0) := (blk_cell BK444.out 2).trans rfl
             have hcz36_3 : w26.cell? ⟨gb444, 3, none⟩ = some (.int .i64 0) := (blk_cell BK444.out 3).trans rfl
             have hcz36_4 : w26.cell? ⟨gb444, 4, none⟩ = some (.int .u64 0) := (blk_cell BK444.out 4).trans rfl
             have hfz36_0 := blk_frozen BK444.out 0
             have hfz36_1 := blk_frozen BK444.out 1
             have hfz36_2 := blk_frozen BK444.out 2
             have hfz36_3 := blk_frozen BK444.out 3
             have hfz36_4 := blk_frozen BK444.out 4
             go_wp2
             go_meet
             case rel => exact ⟨_, (false), (by first | rfl | (simp; done) | (simp [*]; done) | kernel_rfl), H', ⟨by have := HK1.out; first | omega | exact Nat.le_refl _⟩, ⟨by (with_reducible repeat (first | apply Kd.R_alloc | apply Kd.R_drewN | apply Kd.R_drew)); exact Kd.R_mono (Kd.R_far (p := ⟨gb444, 4, none⟩) (Kd.R_far (p := ⟨gb444, 3, none⟩) (Kd.R_far (p := ⟨gb444, 2, none⟩) (Kd.R_far (p := ⟨gb444, 1, none⟩) (Kd.R_far (p := ⟨gb444, 0, none⟩) (Kd.R_mono HO_14.out (fun k_ hk => (⟨hk, hk.2⟩ : _ ∧ k_ ≠ gb444))) (fun _ hk => hk.2) (.int .i64 ((rd_T44 l1 (ji22)).f0))) (fun _ hk => hk.2) (.int .i64 ((rd_T44 l1 (ji22)).f1))) (fun _ hk => hk.2) (.int .i64 ((rd_T44 l1 (ji22)).f2))) (fun _ hk => hk.2) (.int .i64 ((rd_T44 l1 (ji22)).f3))) (fun _ hk => hk.2) (.int .u64 ((rd_T44 l1 (ji22)).f4))) (fun _ hk => ⟨hk.1.1, hk.1.2⟩)⟩, ⟨by (with_reducible repeat (first | refine blk_drewN ?_ _ | refine blk_drew ?_ | refine blk_alloc ?_ _)); refine blk_far ?_ NB437_444.out _; (with_reducible repeat (first | refine blk_drewN ?_ _ | refine blk_drew ?_ | refine blk_alloc ?_ _)); refine blk_far ?_ NB437_444.out _; (with_reducible repeat (first | refine blk_drewN ?_ _ | refine blk_drew ?_ | refine blk_alloc ?_ _)); refine blk_far ?_ NB437_444.out _; (with_reducible repeat (first | refine blk_drewN ?_ _ | refine blk_drew ?_ | refine blk_alloc ?_ _)); refine blk_far ?_ NB437_444.out _; (with_reducible repeat (first | refine blk_drewN ?_ _ | refine blk_drew ?_ | refine blk_alloc ?_ _)); refine blk_far ?_ NB437_444.out _; (with_reducible repeat (first | refine blk_drewN ?_ _ | refine blk_drew ?_ | refine blk_alloc ?_ _)); exact BK437.out⟩, ⟨by (with_reducible repeat (first | refine blk_drewN ?_ _ | refine blk_drew ?_ | refine blk_alloc ?_ _)); refine blk_put (cs := #[.int .i64 ((rd_T44 l1 (ji22)).f0), .int .i64 ((rd_T44 l1 (ji22)).f1), .int .i64 ((rd_T44 l1 (ji22)).f2), .int .i64 ((rd_T44 l1 (ji22)).f3), .int .u64 0]) ?_ 4 _ rfl; (with_reducible repeat (first | refine blk_drewN ?_ _ | refine blk_drew ?_ | refine blk_alloc ?_ _)); refine blk_put (cs := #[.int .i64 ((rd_T44 l1 (ji22)).f0), .int .i64 ((rd_T44 l1 (ji22)).f1), .int .i64 ((rd_T44 l1 (ji22)).f2), .int .i64 0, .int .u64 0]) ?_ 3 _ rfl; (with_reducible repeat (first | refine blk_drewN ?_ _ | refine blk_drew ?_ | refine blk_alloc ?_ _)); refine blk_put (cs := #[.int .i64 ((rd_T44 l1 (ji22)).f0), .int .i64 ((rd_T44 l1 (ji22)).f1), .int .i64 0, .int .i64 0, .int .u64 0]) ?_ 2 _ rfl; (with_reducible repeat (first | refine blk_drewN ?_ _ | refine blk_drew ?_ | refine blk_alloc ?_ _)); refine blk_put (cs := #[.int .i64 ((rd_T44 l1 (ji22)).f0), .int .i64 0, .int .i64 0, .int .i64 0, .int .u64 0]) ?_ 1 _ rfl; (with_reducible repeat (first | refine blk_drewN ?_ _ | refine blk_drew ?_ | refine blk_alloc ?_ _)); refine blk_put (cs := #[.int .i64 0, .int .i64 0, .int .i64 0, .int .i64 0, .int .u64 0]) ?_ 0 _ rfl; (with_reducible repeat (first | refine blk_drewN ?_ _ | refine blk_drew ?_ | refine blk_alloc ?_ _)); exact BK444.out⟩, ⟨by repeat (first | (with_reducible first | exact HB.out | apply below_alloc | apply pw_below_drewN | apply below_drew1 | refine below_set ?_ GE437.out | refine below_set ?_ GE444.out) | exact HB.out)⟩⟩
          case rest =>
           clear HC25
           try clear c1
           try clear c2
           try clear p2
           try clear c3
           try clear c4
           try clear p4
           try clear q4
           try clear hx4
           try clear p6
           try clear c7
           try clear c7b0
           try clear c7b1
           try clear c8
           try clear c8b0
           try clear c8b1
           try clear c11
           try clear c16
           try clear c16b0
           try clear c17
           try clear c17b0
           try clear c18
           try clear c18b0
           try clear c19
           try clear c21
           try clear c21b0
           try clear c21b1
           try clear c23
           try clear c23b0
           try clear c24
           try clear c24b0
           try clear c27
           try clear c29
           try clear c29b0
           try clear c30
           try clear c32
           try clear c32b0
           try clear c32b1
           try clear c33
           try clear c35
           try clear c36
           try clear hcz14_0
           try clear hcz14_1
           try clear hcz14_2
           try clear hcz14_3
           try clear hcz14_4
           try clear hcz28_0
           try clear hcz28_1
           try clear hcz28_2
           try clear hcz28_3
           try clear hcz28_4
           try clear hcz31_0
           try clear hcz31_1
           try clear hcz31_2
           try clear hcz31_3
           try clear hcz31_4
           try clear hcz34_0
           try clear hcz34_1
           try clear hcz34_2
           try clear hcz34_3
           try clear hcz34_4
           try clear hcz36_0
           try clear hcz36_1
           try clear hcz36_2
           try clear hcz36_3
           try clear hcz36_4
           try clear hfz14_0
           try clear hfz14_1
           try clear hfz14_2
           try clear hfz14_3
           try clear hfz14_4
           try clear hfz28_0
           try clear hfz28_1
           try clear hfz28_2
           try clear hfz28_3
           try clear hfz28_4
           try clear hfz31_0
           try clear hfz31_1
           try clear hfz31_2
           try clear hfz31_3
           try clear hfz31_4
           try clear hfz34_0
           try clear hfz34_1
           try clear hfz34_2
           try clear hfz34_3
           try clear hfz34_4
           try clear hfz36_0
           try clear hfz36_1
           try clear hfz36_2
           try clear hfz36_3
           try clear hfz36_4
           try clear hx439_0
           try clear hx439_1
           try clear hx439_2
           try clear hx439_3
           try clear hx439_4
           try clear hx443_0
           try clear hx443_1
           try clear hx443_2
           try clear hx443_3
           try clear hx443_4
           try clear p2
           try clear p439
           try clear p443
           try clear p6
           try clear q439
           try clear q443
           obtain ⟨kq, x70_24, rfl, HA, HJ24, HO_14, BK437, BK444, HB⟩ := hcut
           cases kq with
           | zero => exact absurd HA.out (by simp [chargeparkref40_Append.j1])
           | succ kj24 =>
            have H := HA.out
            clear HA
            simp only [chargeparkref40_Append.j1] at H
            by_cases c37 : x70_24 = true
            ·subst c37
             have H1 : (some (([] : List (S44)), 12)) = some (r1, r2) := by rw [if_pos rfl] at H; exact H
             clear H
             have H := H1
             clear H1
             simp only [Option.some.injEq, Prod.mk.injEq] at H
             obtain ⟨rfl, rfl⟩ := H
             go_wp2
             go_ret2
             exact ⟨_, by first | rfl | (simp [errW_none, errW_some] <;> rfl) | (simp only [← hji22]; first | rfl | (simp [errW_none, errW_some] <;> rfl)) | (simp [*, errW_none, errW_some] <;> rfl), by first | exact Kd.R_nil _ _ _ _ _ | exact Kd.N_nil _ _ _ _ _ | exact Kd.V_nil _ _ _ _ _ | exact Kd.Q_nil _ _ _ _ _ | exact Kd.S_nil _ _ _ _ _, by repeat (first | (with_reducible first | exact HB.out | apply below_alloc | apply pw_below_drewN | apply below_drew1 | refine below_set ?_ GE437.out | refine below_set ?_ GE444.out) | exact HB.out)⟩
            ·replace c37 := Bool.eq_false_iff.mpr c37
             subst c37
             have H1 : (if a2 = ((rd_T44 l1 (ji22)).f0) then ((chargeparkref40_Link.f kj24 ((rd_T44 l1 (ji22)).f4) a2 (wrap64 ((l1.length : Int) + 1)) a3 a4 0).bind fun t445 => (if x14_1.length < 3518437208883 then (some ((x14_1 ++ [(⟨a2, (wrap64 ((l1.length : Int) + 1)), a3, a4, t445⟩ : S44)]), 0)) else (none))) else (if a3 = ((rd_T44 l1 (ji22)).f2) then ((chargeparkref40_Link.f kj24 ((rd_T44 l1 (ji22)).f4) a2 (wrap64 ((l1.length : Int) + 1)) a3 a4 0).bind fun t449 => (if x14_1.length < 3518437208883 then (some ((x14_1 ++ [(⟨a2, (wrap64 ((l1.length : Int) + 1)), a3, a4, t449⟩ : S44)]), 0)) else (none))) else (some (([] : List (S44)), 6)))) = some (r1, r2) := by rw [if_neg (show ¬ (false = true) by decide)] at H; exact H
             clear H
             have H := H1
             clear H1
             by_cases c38 : a2 = ((rd_T44 l1 (ji22)).f0)
             ·rw [if_pos c38] at H
              have c38b0 : (a2 == ((rd_T44 l1 (ji22)).f0)) = true := beq_iff_eq.mpr c38
              have c38b1 : (a2 != ((rd_T44 l1 (ji22)).f0)) = false := bne_eq_false_iff_eq.mpr c38
              clear c38
              replace H := Option.bind_eq_some_iff.mp H
              obtain ⟨t445, A390, H⟩ := H
              replace H : (if x14_1.length < 3518437208883 then (some ((x14_1 ++ [(⟨a2, (wrap64 ((l1.length : Int) + 1)), a3, a4, t445⟩ : S44)]), 0)) else (none)) = some (r1, r2) := H
              have A39 := Aside0.mk A390
              clear A390
              by_cases c40 : x14_1.length < 3518437208883
              ·rw [if_pos c40] at H
               have LMc40 := Aside0.mk c40
               clear c40
               obtain ⟨y446, hy446⟩ : ∃ y_ : List (S44), y_ = (x14_1 ++ [(⟨a2, (wrap64 ((l1.length : Int) + 1)), a3, a4, t445⟩ : S44)]) := ⟨_, rfl⟩
               replace H : (some (y446, 0)) = some (r1, r2) := by first | (rw [hy446]; with_reducible exact H) | (have H2_ := (Option.bind_some _ _).symm.trans H; rw [hy446]; with_reducible exact H2_) | (have H2_ := (Option.bind_some _ _).symm.trans H; with_reducible exact H2_) | with_reducible exact H | (rw [hy446]; exact H) | exact H
               have Ny446 := Aside0.mk hy446
               clear hy446
               simp only [Option.some.injEq, Prod.mk.injEq] at H
               obtain ⟨rfl, rfl⟩ := H
               have hnb41 := NB444_437.out
               have hnc41 := NB437_444.out
               have hcz42_0 : wc.cell? ⟨gb444, 0, none⟩ = some (.int .i64 ((rd_T44 l1 (ji22)).f0)) := (blk_cell BK444.out 0).trans rfl
               have hcz42_1 : wc.cell? ⟨gb444, 1, none⟩ = some (.int .i64 ((rd_T44 l1 (ji22)).f1)) := (blk_cell BK444.out 1).trans rfl
               have hcz42_2 : wc.cell? ⟨gb444, 2, none⟩ = some (.int .i64 ((rd_T44 l1 (ji22)).f2)) := (blk_cell BK444.out 2).trans rfl
               have hcz42_3 : wc.cell? ⟨gb444, 3, none⟩ = some (.int .i64 ((rd_T44 l1 (ji22)).f3)) := (blk_cell BK444.out 3).trans rfl
               have hcz42_4 : wc.cell? ⟨gb444, 4, none⟩ = some (.int .u64 ((rd_T44 l1 (ji22)).f4)) := (blk_cell BK444.out 4).trans rfl
               have hfz42_0 := blk_frozen BK444.out 0
               have hfz42_1 := blk_frozen BK444.out 1
               have hfz42_2 := blk_frozen BK444.out 2
               have hfz42_3 := blk_frozen BK444.out 3
               have hfz42_4 := blk_frozen BK444.out 4
               have hcz43_0 : wc.cell? ⟨gb437, 0, none⟩ = some (.int .i64 a2) := (blk_cell BK437.out 0).trans rfl
               have hcz43_1 : wc.cell? ⟨gb437, 1, none⟩ = some (.int .i64 (wrap64 ((l1.length : Int) + 1))) := (blk_cell BK437.out 1).trans rfl
               have hcz43_2 : wc.cell? ⟨gb437, 2, none⟩ = some (.int .i64 a3) := (blk_cell BK437.out 2).trans rfl
               have hcz43_3 : wc.cell? ⟨gb437, 3, none⟩ = some (.int .i64 a4) := (blk_cell BK437.out 3).trans rfl
               have hcz43_4 : wc.cell? ⟨gb437, 4, none⟩ = some (.int .u64 0) := (blk_cell BK437.out 4).trans rfl
               have hfz43_0 := blk_frozen BK437.out 0
               have hfz43_1 := blk_frozen BK437.out 1
               have hfz43_2 := blk_frozen BK437.out 2
               have hfz43_3 := blk_frozen BK437.out 3
               have hfz43_4 := blk_frozen BK437.out 4
               go_wp2_with (first | ((with_reducible refine gate_callee (f := 33) rfl ?_); refine goesL_ (some 83) rfl rfl Try.func33 (by kernel_rfl) rfl #[.int .u64 ((rd_T44 l1 (ji22)).f4), .agg #[.int .i64 a2, .int .i64 (wrap64 ((l1.length : Int) + 1)), .int .i64 a3, .int .i64 a4, .int .u64 0]] rfl (by (try simp only [List.map_toArray, List.map_cons, List.map_nil]); first | done | (simp only [hji22]; rfl) | rfl | (simp only [List.length_drop, List.length_take]; rfl)) ?_; (with_reducible refine (chargeparkref40_Link.calls kj24 ((rd_T44 l1 (ji22)).f4) a2 (wrap64 ((l1.length : Int) + 1)) a3 a4 0 t445 _ A39.out).mono ?_); rintro e w44 ⟨rfl, hb⟩; refine ⟨_, rfl, ?_⟩; have n0_ := Aside0.mk (Kd.R_below (by (with_reducible repeat (first | apply Kd.R_alloc | apply Kd.R_drewN | apply Kd.R_drew)); exact HO_14.out) hb); have n1_ := Aside0.mk (blk_below (g := gb437) (o := .cells #[.int .i64 a2, .int .i64 (wrap64 ((l1.length : Int) + 1)), .int .i64 a3, .int .i64 a4, .int .u64 0] 44 (0, 0)) (by (with_reducible repeat (first | refine blk_drewN ?_ _ | refine blk_drew ?_ | refine blk_alloc ?_ _)); exact BK437.out) hb); have n2_ := Aside0.mk (blk_below (g := gb444) (o := .cells #[.int .i64 ((rd_T44 l1 (ji22)).f0), .int .i64 ((rd_T44 l1 (ji22)).f1), .int .i64 ((rd_T44 l1 (ji22)).f2), .int .i64 ((rd_T44 l1 (ji22)).f3), .int .u64 ((rd_T44 l1 (ji22)).f4)] 44 (0, 0)) (by (with_reducible repeat (first | refine blk_drewN ?_ _ | refine blk_drew ?_ | refine blk_alloc ?_ _)); exact BK444.out) hb); have n3_ := Aside0.mk (below_step (by repeat (first | (with_reducible first | exact HB.out | apply below_alloc | apply pw_below_drewN | apply below_drew1 | refine below_set ?_ GE437.out | refine below_set ?_ GE444.out) | exact HB.out)) hb); clear HO_14; clear BK437; clear BK444; clear HB; have HO_14 := n0_; have BK437 := n1_; have BK444 := n2_; have HB := n3_; clear n0_ n1_ n2_ n3_; (try clear hb); (try clear hb2); (try clear hk); (try clear hi); have hcz45_0 : w44.cell? ⟨gb437, 0, none⟩ = some (.int .i64 a2) := (blk_cell BK437.out 0).trans rfl; have hcz45_1 : w44.cell? ⟨gb437, 1, none⟩ = some (.int .i64 (wrap64 ((l1.length : Int) + 1))) := (blk_cell BK437.out 1).trans rfl; have hcz45_2 : w44.cell? ⟨gb437, 2, none⟩ = some (.int .i64 a3) := (blk_cell BK437.out 2).trans rfl; have hcz45_3 : w44.cell? ⟨gb437, 3, none⟩ = some (.int .i64 a4) := (blk_cell BK437.out 3).trans rfl; have hcz45_4 : w44.cell? ⟨gb437, 4, none⟩ = some (.int .u64 0) := (blk_cell BK437.out 4).trans rfl; have hfz45_0 := blk_frozen BK437.out 0; have hfz45_1 := blk_frozen BK437.out 1; have hfz45_2 := blk_frozen BK437.out 2; have hfz45_3 := blk_frozen BK437.out 3; have hfz45_4 := blk_frozen BK437.out 4) | ((with_reducible refine gate_builtin (b := .append) (xs := #[.tmp 85, .tmp 87]) rfl ?_); at_builtin; refine Kd.R_append k44 (w0 := w) w.heap.size rfl (.tmp 85) (.tmp 87) 26 44 (.agg #[(.int .i64 0), (.int .i64 0), (.int .i64 0), (.int .i64 0), (.int .u64 0)]) 40 rfl Try.underlying26 info44 rfl (by decide) (by omega) u14 x14_1 (⟨a2, (wrap64 ((l1.length : Int) + 1)), a3, a4, t445⟩ : S44) [.int .i64 a2, .int .i64 (wrap64 ((l1.length : Int) + 1)), .int .i64 a3, .int .i64 a4, .int .u64 t445] (fun k_ => k_ ≠ gb437 ∧ k_ ≠ gb444) (fun _ => False) rfl (by first | (go_simp; done) | (go_simp; rfl)) ?aP (fun _ hk => hk.elim) ?aF ?aO ?aB ?aS ?aL ?_; (case aP => exact k44_mkM _ _ _ (⟨a2, (wrap64 ((l1.length : Int) + 1)), a3, a4, t445⟩ : S44)); (case aB => exact (by repeat (first | (with_reducible first | exact HB.out | apply below_alloc | apply pw_below_drewN | apply below_drew1 | refine below_set ?_ GE437.out | refine below_set ?_ GE444.out) | exact HB.out))); (case aF => exact (fun k_ hk => ⟨Kd.freshB (g := gb437) (o := .cells #[.int .i64 a2, .int .i64 (wrap64 ((l1.length : Int) + 1)), .int .i64 a3, .int .i64 a4, .int .u64 t445] 44 (0, 0)) (by (with_reducible repeat (first | refine blk_drewN ?_ _ | refine blk_drew ?_ | refine blk_alloc ?_ _)); refine blk_put (cs := #[.int .i64 a2, .int .i64 (wrap64 ((l1.length : Int) + 1)), .int .i64 a3, .int .i64 a4, .int .u64 0]) ?_ 4 _ rfl; (with_reducible repeat (first | refine blk_drewN ?_ _ | refine blk_drew ?_ | refine blk_alloc ?_ _)); exact BK437.out) k_ hk, Kd.freshB (g := gb444) (o := .cells #[.int .i64 ((rd_T44 l1 (ji22)).f0), .int .i64 ((rd_T44 l1 (ji22)).f1), .int .i64 ((rd_T44 l1 (ji22)).f2), .int .i64 ((rd_T44 l1 (ji22)).f3), .int .u64 ((rd_T44 l1 (ji22)).f4)] 44 (0, 0)) (by (with_reducible repeat (first | refine blk_drewN ?_ _ | refine blk_drew ?_ | refine blk_alloc ?_ _)); refine blk_far ?_ NB444_437.out _; (with_reducible repeat (first | refine blk_drewN ?_ _ | refine blk_drew ?_ | refine blk_alloc ?_ _)); exact BK444.out) k_ hk⟩)); (case aO => exact (by (with_reducible repeat (first | apply Kd.R_alloc | apply Kd.R_drewN | apply Kd.R_drew)); exact Kd.R_mono (Kd.R_far (p := ⟨gb437, 4, none⟩) (Kd.R_mono HO_14.out (fun k_ hk => (⟨hk, hk.1⟩ : _ ∧ k_ ≠ gb437))) (fun _ hk => hk.2) (.int .u64 t445)) (fun _ hk => ⟨hk.1.1, hk.1.2⟩))); (case aS => exact (below_size (by repeat (first | (with_reducible first | exact HB.out | apply below_alloc | apply pw_below_drewN | apply below_drew1 | refine below_set ?_ GE437.out | refine below_set ?_ GE444.out) | exact HB.out)))); (case aL => have := LMc40.out; omega); intro v447 w46 ho hb hg hat; rw [← Ny446.out] at ho; have n0_ := Aside0.mk (blk_grown (g := gb437) (o := .cells #[.int .i64 a2, .int .i64 (wrap64 ((l1.length : Int) + 1)), .int .i64 a3, .int .i64 a4, .int .u64 t445] 44 (0, 0)) (by (with_reducible repeat (first | refine blk_drewN ?_ _ | refine blk_drew ?_ | refine blk_alloc ?_ _)); refine blk_put (cs := #[.int .i64 a2, .int .i64 (wrap64 ((l1.length : Int) + 1)), .int .i64 a3, .int .i64 a4, .int .u64 0]) ?_ 4 _ rfl; (with_reducible repeat (first | refine blk_drewN ?_ _ | refine blk_drew ?_ | refine blk_alloc ?_ _)); exact BK437.out) hg (Kd.R_away HO_14.out (fun _ hk => hk.1))); have n1_ := Aside0.mk (blk_grown (g := gb444) (o := .cells #[.int .i64 ((rd_T44 l1 (ji22)).f0), .int .i64 ((rd_T44 l1 (ji22)).f1), .int .i64 ((rd_T44 l1 (ji22)).f2), .int .i64 ((rd_T44 l1 (ji22)).f3), .int .u64 ((rd_T44 l1 (ji22)).f4)] 44 (0, 0)) (by (with_reducible repeat (first | refine blk_drewN ?_ _ | refine blk_drew ?_ | refine blk_alloc ?_ _)); refine blk_far ?_ NB444_437.out _; (with_reducible repeat (first | refine blk_drewN ?_ _ | refine blk_drew ?_ | refine blk_alloc ?_ _)); exact BK444.out) hg (Kd.R_away HO_14.out (fun _ hk => hk.2))); have n2_ := Aside0.mk (hb); have n3_ := Aside0.mk (ho); clear BK437; clear BK444; clear HB; clear HO_14; have BK437 := n0_; have BK444 := n1_; have HB := n2_; have HO448 := n3_; clear n0_ n1_ n2_ n3_; clear ho hb hg hat))
               go_ret2
               exact ⟨_, by first | rfl | (simp [errW_none, errW_some] <;> rfl) | (simp only [← hji22]; first | rfl | (simp [errW_none, errW_some] <;> rfl)) | (simp [*, errW_none, errW_some] <;> rfl), by (with_reducible repeat (first | apply Kd.R_alloc | apply Kd.R_drewN | apply Kd.R_drew)); exact Kd.R_mono HO448.out (fun _ hk => trivial), by repeat (first | (with_reducible first | exact HB.out | apply below_alloc | apply pw_below_drewN | apply below_drew1 | refine below_set ?_ GE437.out | refine below_set ?_ GE444.out) | exact HB.out)⟩
              ·rw [if_neg c40] at H
               exact absurd H (by simp)
             ·rw [if_neg c38] at H
              have c38b0 : (a2 == ((rd_T44 l1 (ji22)).f0)) = false := beq_eq_false_iff_ne.mpr c38
              have c38b1 : (a2 != ((rd_T44 l1 (ji22)).f0)) = true := bne_iff_ne.mpr c38
              by_cases c47 : a3 = ((rd_T44 l1 (ji22)).f2)
              ·rw [if_pos c47] at H
               have c47b0 : (a3 == ((rd_T44 l1 (ji22)).f2)) = true := beq_iff_eq.mpr c47
               have c47b1 : (a3 != ((rd_T44 l1 (ji22)).f2)) = false := bne_eq_false_iff_eq.mpr c47
               clear c47
               replace H := Option.bind_eq_some_iff.mp H
               obtain ⟨t449, A480, H⟩ := H
               replace H : (if x14_1.length < 3518437208883 then (some ((x14_1 ++ [(⟨a2, (wrap64 ((l1.length : Int) + 1)), a3, a4, t449⟩ : S44)]), 0)) else (none)) = some (r1, r2) := H
               have A48 := Aside0.mk A480
               clear A480
               by_cases c49 : x14_1.length < 3518437208883
               ·rw [if_pos c49] at H
                have LMc49 := Aside0.mk c49
                clear c49
                obtain ⟨y450, hy450⟩ : ∃ y_ : List (S44), y_ = (x14_1 ++ [(⟨a2, (wrap64 ((l1.length : Int) + 1)), a3, a4, t449⟩ : S44)]) := ⟨_, rfl⟩
                replace H : (some (y450, 0)) = some (r1, r2) := by first | (rw [hy450]; with_reducible exact H) | (have H2_ := (Option.bind_some _ _).symm.trans H; rw [hy450]; with_reducible exact H2_) | (have H2_ := (Option.bind_some _ _).symm.trans H; with_reducible exact H2_) | with_reducible exact H | (rw [hy450]; exact H) | exact H
                have Ny450 := Aside0.mk hy450
                clear hy450
                simp only [Option.some.injEq, Prod.mk.injEq] at H
                obtain ⟨rfl, rfl⟩ := H
                have hnb50 := NB444_437.out
                have hnc50 := NB437_444.out
                have hcz51_0 : wc.cell? ⟨gb444, 0, none⟩ = some (.int .i64 ((rd_T44 l1 (ji22)).f0)) := (blk_cell BK444.out 0).trans rfl
                have hcz51_1 : wc.cell? ⟨gb444, 1, none⟩ = some (.int .i64 ((rd_T44 l1 (ji22)).f1)) := (blk_cell BK444.out 1).trans rfl
                have hcz51_2 : wc.cell? ⟨gb444, 2, none⟩ = some (.int .i64 ((rd_T44 l1 (ji22)).f2)) := (blk_cell BK444.out 2).trans rfl
                have hcz51_3 : wc.cell? ⟨gb444, 3, none⟩ = some (.int .i64 ((rd_T44 l1 (ji22)).f3)) := (blk_cell BK444.out 3).trans rfl
                have hcz51_4 : wc.cell? ⟨gb444, 4, none⟩ = some (.int .u64 ((rd_T44 l1 (ji22)).f4)) := (blk_cell BK444.out 4).trans rfl
                have hfz51_0 := blk_frozen BK444.out 0
                have hfz51_1 := blk_frozen BK444.out 1
                have hfz51_2 := blk_frozen BK444.out 2
                have hfz51_3 := blk_frozen BK444.out 3
                have hfz51_4 := blk_frozen BK444.out 4
                have hcz52_0 : wc.cell? ⟨gb437, 0, none⟩ = some (.int .i64 a2) := (blk_cell BK437.out 0).trans rfl
                have hcz52_1 : wc.cell? ⟨gb437, 1, none⟩ = some (.int .i64 (wrap64 ((l1.length : Int) + 1))) := (blk_cell BK437.out 1).trans rfl
                have hcz52_2 : wc.cell? ⟨gb437, 2, none⟩ = some (.int .i64 a3) := (blk_cell BK437.out 2).trans rfl
                have hcz52_3 : wc.cell? ⟨gb437, 3, none⟩ = some (.int .i64 a4) := (blk_cell BK437.out 3).trans rfl
                have hcz52_4 : wc.cell? ⟨gb437, 4, none⟩ = some (.int .u64 0) := (blk_cell BK437.out 4).trans rfl
                have hfz52_0 := blk_frozen BK437.out 0
                have hfz52_1 := blk_frozen BK437.out 1
                have hfz52_2 := blk_frozen BK437.out 2
                have hfz52_3 := blk_frozen BK437.out 3
                have hfz52_4 := blk_frozen BK437.out 4
                go_wp2_with (first | ((with_reducible refine gate_callee (f := 33) rfl ?_); refine goesL_ (some 83) rfl rfl Try.func33 (by kernel_rfl) rfl #[.int .u64 ((rd_T44 l1 (ji22)).f4), .agg #[.int .i64 a2, .int .i64 (wrap64 ((l1.length : Int) + 1)), .int .i64 a3, .int .i64 a4, .int .u64 0]] rfl (by (try simp only [List.map_toArray, List.map_cons, List.map_nil]); first | done | (simp only [hji22]; rfl) | rfl | (simp only [List.length_drop, List.length_take]; rfl)) ?_; (with_reducible refine (chargeparkref40_Link.calls kj24 ((rd_T44 l1 (ji22)).f4) a2 (wrap64 ((l1.length : Int) + 1)) a3 a4 0 t449 _ A48.out).mono ?_); rintro e w53 ⟨rfl, hb⟩; refine ⟨_, rfl, ?_⟩; have n0_ := Aside0.mk (Kd.R_below (by (with_reducible repeat (first | apply Kd.R_alloc | apply Kd.R_drewN | apply Kd.R_drew)); exact HO_14.out) hb); have n1_ := Aside0.mk (blk_below (g := gb437) (o := .cells #[.int .i64 a2, .int .i64 (wrap64 ((l1.length : Int) + 1)), .int .i64 a3, .int .i64 a4, .int .u64 0] 44 (0, 0)) (by (with_reducible repeat (first | refine blk_drewN ?_ _ | refine blk_drew ?_ | refine blk_alloc ?_ _)); exact BK437.out) hb); have n2_ := Aside0.mk (blk_below (g := gb444) (o := .cells #[.int .i64 ((rd_T44 l1 (ji22)).f0), .int .i64 ((rd_T44 l1 (ji22)).f1), .int .i64 ((rd_T44 l1 (ji22)).f2), .int .i64 ((rd_T44 l1 (ji22)).f3), .int .u64 ((rd_T44 l1 (ji22)).f4)] 44 (0, 0)) (by (with_reducible repeat (first | refine blk_drewN ?_ _ | refine blk_drew ?_ | refine blk_alloc ?_ _)); exact BK444.out) hb); have n3_ := Aside0.mk (below_step (by repeat (first | (with_reducible first | exact HB.out | apply below_alloc | apply pw_below_drewN | apply below_drew1 | refine below_set ?_ GE437.out | refine below_set ?_ GE444.out) | exact HB.out)) hb); clear HO_14; clear BK437; clear BK444; clear HB; have HO_14 := n0_; have BK437 := n1_; have BK444 := n2_; have HB := n3_; clear n0_ n1_ n2_ n3_; (try clear hb); (try clear hb2); (try clear hk); (try clear hi); have hcz54_0 : w53.cell? ⟨gb437, 0, none⟩ = some (.int .i64 a2) := (blk_cell BK437.out 0).trans rfl; have hcz54_1 : w53.cell? ⟨gb437, 1, none⟩ = some (.int .i64 (wrap64 ((l1.length : Int) + 1))) := (blk_cell BK437.out 1).trans rfl; have hcz54_2 : w53.cell? ⟨gb437, 2, none⟩ = some (.int .i64 a3) := (blk_cell BK437.out 2).trans rfl; have hcz54_3 : w53.cell? ⟨gb437, 3, none⟩ = some (.int .i64 a4) := (blk_cell BK437.out 3).trans rfl; have hcz54_4 : w53.cell? ⟨gb437, 4, none⟩ = some (.int .u64 0) := (blk_cell BK437.out 4).trans rfl; have hfz54_0 := blk_frozen BK437.out 0; have hfz54_1 := blk_frozen BK437.out 1; have hfz54_2 := blk_frozen BK437.out 2; have hfz54_3 := blk_frozen BK437.out 3; have hfz54_4 := blk_frozen BK437.out 4) | ((with_reducible refine gate_builtin (b := .append) (xs := #[.tmp 85, .tmp 87]) rfl ?_); at_builtin; refine Kd.R_append k44 (w0 := w) w.heap.size rfl (.tmp 85) (.tmp 87) 26 44 (.agg #[(.int .i64 0), (.int .i64 0), (.int .i64 0), (.int .i64 0), (.int .u64 0)]) 40 rfl Try.underlying26 info44 rfl (by decide) (by omega) u14 x14_1 (⟨a2, (wrap64 ((l1.length : Int) + 1)), a3, a4, t449⟩ : S44) [.int .i64 a2, .int .i64 (wrap64 ((l1.length : Int) + 1)), .int .i64 a3, .int .i64 a4, .int .u64 t449] (fun k_ => k_ ≠ gb437 ∧ k_ ≠ gb444) (fun _ => False) rfl (by first | (go_simp; done) | (go_simp; rfl)) ?aP (fun _ hk => hk.elim) ?aF ?aO ?aB ?aS ?aL ?_; (case aP => exact k44_mkM _ _ _ (⟨a2, (wrap64 ((l1.length : Int) + 1)), a3, a4, t449⟩ : S44)); (case aB => exact (by repeat (first | (with_reducible first | exact HB.out | apply below_alloc | apply pw_below_drewN | apply below_drew1 | refine below_set ?_ GE437.out | refine below_set ?_ GE444.out) | exact HB.out))); (case aF => exact (fun k_ hk => ⟨Kd.freshB (g := gb437) (o := .cells #[.int .i64 a2, .int .i64 (wrap64 ((l1.length : Int) + 1)), .int .i64 a3, .int .i64 a4, .int .u64 t449] 44 (0, 0)) (by (with_reducible repeat (first | refine blk_drewN ?_ _ | refine blk_drew ?_ | refine blk_alloc ?_ _)); refine blk_put (cs := #[.int .i64 a2, .int .i64 (wrap64 ((l1.length : Int) + 1)), .int .i64 a3, .int .i64 a4, .int .u64 0]) ?_ 4 _ rfl; (with_reducible repeat (first | refine blk_drewN ?_ _ | refine blk_drew ?_ | refine blk_alloc ?_ _)); exact BK437.out) k_ hk, Kd.freshB (g := gb444) (o := .cells #[.int .i64 ((rd_T44 l1 (ji22)).f0), .int .i64 ((rd_T44 l1 (ji22)).f1), .int .i64 ((rd_T44 l1 (ji22)).f2), .int .i64 ((rd_T44 l1 (ji22)).f3), .int .u64 ((rd_T44 l1 (ji22)).f4)] 44 (0, 0)) (by (with_reducible repeat (first | refine blk_drewN ?_ _ | refine blk_drew ?_ | refine blk_alloc ?_ _)); refine blk_far ?_ NB444_437.out _; (with_reducible repeat (first | refine blk_drewN ?_ _ | refine blk_drew ?_ | refine blk_alloc ?_ _)); exact BK444.out) k_ hk⟩)); (case aO => exact (by (with_reducible repeat (first | apply Kd.R_alloc | apply Kd.R_drewN | apply Kd.R_drew)); exact Kd.R_mono (Kd.R_far (p := ⟨gb437, 4, none⟩) (Kd.R_mono HO_14.out (fun k_ hk => (⟨hk, hk.1⟩ : _ ∧ k_ ≠ gb437))) (fun _ hk => hk.2) (.int .u64 t449)) (fun _ hk => ⟨hk.1.1, hk.1.2⟩))); (case aS => exact (below_size (by repeat (first | (with_reducible first | exact HB.out | apply below_alloc | apply pw_below_drewN | apply below_drew1 | refine below_set ?_ GE437.out | refine below_set ?_ GE444.out) | exact HB.out)))); (case aL => have := LMc49.out; omega); intro v451 w55 ho hb hg hat; rw [← Ny450.out] at ho; have n0_ := Aside0.mk (blk_grown (g := gb437) (o := .cells #[.int .i64 a2, .int .i64 (wrap64 ((l1.length : Int) + 1)), .int .i64 a3, .int .i64 a4, .int .u64 t449] 44 (0, 0)) (by (with_reducible repeat (first | refine blk_drewN ?_ _ | refine blk_drew ?_ | refine blk_alloc ?_ _)); refine blk_put (cs := #[.int .i64 a2, .int .i64 (wrap64 ((l1.length : Int) + 1)), .int .i64 a3, .int .i64 a4, .int .u64 0]) ?_ 4 _ rfl; (with_reducible repeat (first | refine blk_drewN ?_ _ | refine blk_drew ?_ | refine blk_alloc ?_ _)); exact BK437.out) hg (Kd.R_away HO_14.out (fun _ hk => hk.1))); have n1_ := Aside0.mk (blk_grown (g := gb444) (o := .cells #[.int .i64 ((rd_T44 l1 (ji22)).f0), .int .i64 ((rd_T44 l1 (ji22)).f1), .int .i64 ((rd_T44 l1 (ji22)).f2), .int .i64 ((rd_T44 l1 (ji22)).f3), .int .u64 ((rd_T44 l1 (ji22)).f4)] 44 (0, 0)) (by (with_reducible repeat (first | refine blk_drewN ?_ _ | refine blk_drew ?_ | refine blk_alloc ?_ _)); refine blk_far ?_ NB444_437.out _; (with_reducible repeat (first | refine blk_drewN ?_ _ | refine blk_drew ?_ | refine blk_alloc ?_ _)); exact BK444.out) hg (Kd.R_away HO_14.out (fun _ hk => hk.2))); have n2_ := Aside0.mk (hb); have n3_ := Aside0.mk (ho); clear BK437; clear BK444; clear HB; clear HO_14; have BK437 := n0_; have BK444 := n1_; have HB := n2_; have HO452 := n3_; clear n0_ n1_ n2_ n3_; clear ho hb hg hat))
                go_ret2
                exact ⟨_, by first | rfl | (simp [errW_none, errW_some] <;> rfl) | (simp only [← hji22]; first | rfl | (simp [errW_none, errW_some] <;> rfl)) | (simp [*, errW_none, errW_some] <;> rfl), by (with_reducible repeat (first | apply Kd.R_alloc | apply Kd.R_drewN | apply Kd.R_drew)); exact Kd.R_mono HO452.out (fun _ hk => trivial), by repeat (first | (with_reducible first | exact HB.out | apply below_alloc | apply pw_below_drewN | apply below_drew1 | refine below_set ?_ GE437.out | refine below_set ?_ GE444.out) | exact HB.out)⟩
               ·rw [if_neg c49] at H
                exact absurd H (by simp)
              ·rw [if_neg c47] at H
               have c47b0 : (a3 == ((rd_T44 l1 (ji22)).f2)) = false := beq_eq_false_iff_ne.mpr c47
               have c47b1 : (a3 != ((rd_T44 l1 (ji22)).f2)) = true := bne_iff_ne.mpr c47
               simp only [Option.some.injEq, Prod.mk.injEq] at H
               obtain ⟨rfl, rfl⟩ := H
               have hnb56 := NB444_437.out
               have hnc56 := NB437_444.out
               have hcz57_0 : wc.cell? ⟨gb444, 0, none⟩ = some (.int .i64 ((rd_T44 l1 (ji22)).f0)) := (blk_cell BK444.out 0).trans rfl
               have hcz57_1 : wc.cell? ⟨gb444, 1, none⟩ = some (.int .i64 ((rd_T44 l1 (ji22)).f1)) := (blk_cell BK444.out 1).trans rfl
               have hcz57_2 : wc.cell? ⟨gb444, 2, none⟩ = some (.int .i64 ((rd_T44 l1 (ji22)).f2)) := (blk_cell BK444.out 2).trans rfl
               have hcz57_3 : wc.cell? ⟨gb444, 3, none⟩ = some (.int .i64 ((rd_T44 l1 (ji22)).f3)) := (blk_cell BK444.out 3).trans rfl
               have hcz57_4 : wc.cell? ⟨gb444, 4, none⟩ = some (.int .u64 ((rd_T44 l1 (ji22)).f4)) := (blk_cell BK444.out 4).trans rfl
               have hfz57_0 := blk_frozen BK444.out 0
               have hfz57_1 := blk_frozen BK444.out 1
               have hfz57_2 := blk_frozen BK444.out 2
               have hfz57_3 := blk_frozen BK444.out 3
               have hfz57_4 := blk_frozen BK444.out 4
               go_wp2
               go_ret2
               exact ⟨_, by first | rfl | (simp [errW_none, errW_some] <;> rfl) | (simp only [← hji22]; first | rfl | (simp [errW_none, errW_some] <;> rfl)) | (simp [*, errW_none, errW_some] <;> rfl), by first | exact Kd.R_nil _ _ _ _ _ | exact Kd.N_nil _ _ _ _ _ | exact Kd.V_nil _ _ _ _ _ | exact Kd.Q_nil _ _ _ _ _ | exact Kd.S_nil _ _ _ _ _, by repeat (first | (with_reducible first | exact HB.out | apply below_alloc | apply pw_below_drewN | apply below_drew1 | refine below_set ?_ GE437.out | refine below_set ?_ GE444.out) | exact HB.out)⟩
         ·rw [if_neg c24] at H
          exact absurd H (by simp)
        ·rw [if_neg c23] at H
         exact absurd H (by simp)
       ·rw [if_neg c21] at H
        have c21b0 : decide (0 < (l1.length : Int)) = false := decide_eq_false c21
        have c21b1 : decide (0 < l1.length) = false := decide_eq_false (by omega)
        clear c21
        replace H := Option.bind_eq_some_iff.mp H
        obtain ⟨t453, A580, H⟩ := H
        replace H : (if x14_1.length < 3518437208883 then (some ((x14_1 ++ [(⟨a2, (wrap64 ((l1.length : Int) + 1)), a3, a4, t453⟩ : S44)]), 0)) else (none)) = some (r1, r2) := H
        have A58 := Aside0.mk A580
        clear A580
        by_cases c59 : x14_1.length < 3518437208883
        ·rw [if_pos c59] at H
         have LMc59 := Aside0.mk c59
         clear c59
         obtain ⟨y454, hy454⟩ : ∃ y_ : List (S44), y_ = (x14_1 ++ [(⟨a2, (wrap64 ((l1.length : Int) + 1)), a3, a4, t453⟩ : S44)]) := ⟨_, rfl⟩
         replace H : (some (y454, 0)) = some (r1, r2) := by first | (rw [hy454]; with_reducible exact H) | (have H2_ := (Option.bind_some _ _).symm.trans H; rw [hy454]; with_reducible exact H2_) | (have H2_ := (Option.bind_some _ _).symm.trans H; with_reducible exact H2_) | with_reducible exact H | (rw [hy454]; exact H) | exact H
         have Ny454 := Aside0.mk hy454
         clear hy454
         simp only [Option.some.injEq, Prod.mk.injEq] at H
         obtain ⟨rfl, rfl⟩ := H
         have hcz60_0 : wr.cell? ⟨gb437, 0, none⟩ = some (.int .i64 a2) := (blk_cell BK437.out 0).trans rfl
         have hcz60_1 : wr.cell? ⟨gb437, 1, none⟩ = some (.int .i64 (wrap64 ((l1.length : Int) + 1))) := (blk_cell BK437.out 1).trans rfl
         have hcz60_2 : wr.cell? ⟨gb437, 2, none⟩ = some (.int .i64 a3) := (blk_cell BK437.out 2).trans rfl
         have hcz60_3 : wr.cell? ⟨gb437, 3, none⟩ = some (.int .i64 a4) := (blk_cell BK437.out 3).trans rfl
         have hcz60_4 : wr.cell? ⟨gb437, 4, none⟩ = some (.int .u64 0) := (blk_cell BK437.out 4).trans rfl
         have hfz60_0 := blk_frozen BK437.out 0
         have hfz60_1 := blk_frozen BK437.out 1
         have hfz60_2 := blk_frozen BK437.out 2
         have hfz60_3 := blk_frozen BK437.out 3
         have hfz60_4 := blk_frozen BK437.out 4
         go_wp2_with (first | ((with_reducible refine gate_callee (f := 33) rfl ?_); refine goesL_ (some 83) rfl rfl Try.func33 (by kernel_rfl) rfl #[.int .u64 a0, .agg #[.int .i64 a2, .int .i64 (wrap64 ((l1.length : Int) + 1)), .int .i64 a3, .int .i64 a4, .int .u64 0]] rfl (by (try simp only [List.map_toArray, List.map_cons, List.map_nil]); first | done | rfl | (simp only [List.length_drop, List.length_take]; rfl)) ?_; (with_reducible refine (chargeparkref40_Link.calls k1 a0 a2 (wrap64 ((l1.length : Int) + 1)) a3 a4 0 t453 _ A58.out).mono ?_); rintro e w61 ⟨rfl, hb⟩; refine ⟨_, rfl, ?_⟩; have n0_ := Aside0.mk (Kd.R_below (by (with_reducible repeat (first | apply Kd.R_alloc | apply Kd.R_drewN | apply Kd.R_drew)); exact HO_14.out) hb); have n1_ := Aside0.mk (blk_below (g := gb437) (o := .cells #[.int .i64 a2, .int .i64 (wrap64 ((l1.length : Int) + 1)), .int .i64 a3, .int .i64 a4, .int .u64 0] 44 (0, 0)) (by (with_reducible repeat (first | refine blk_drewN ?_ _ | refine blk_drew ?_ | refine blk_alloc ?_ _)); exact BK437.out) hb); have n2_ := Aside0.mk (below_step (by repeat (first | (with_reducible first | exact HB.out | apply below_alloc | apply pw_below_drewN | apply below_drew1 | refine below_set ?_ GE437.out) | exact HB.out)) hb); clear HO_14; clear BK437; clear HB; have HO_14 := n0_; have BK437 := n1_; have HB := n2_; clear n0_ n1_ n2_; (try clear hb); (try clear hb2); (try clear hk); (try clear hi); have hcz62_0 : w61.cell? ⟨gb437, 0, none⟩ = some (.int .i64 a2) := (blk_cell BK437.out 0).trans rfl; have hcz62_1 : w61.cell? ⟨gb437, 1, none⟩ = some (.int .i64 (wrap64 ((l1.length : Int) + 1))) := (blk_cell BK437.out 1).trans rfl; have hcz62_2 : w61.cell? ⟨gb437, 2, none⟩ = some (.int .i64 a3) := (blk_cell BK437.out 2).trans rfl; have hcz62_3 : w61.cell? ⟨gb437, 3, none⟩ = some (.int .i64 a4) := (blk_cell BK437.out 3).trans rfl; have hcz62_4 : w61.cell? ⟨gb437, 4, none⟩ = some (.int .u64 0) := (blk_cell BK437.out 4).trans rfl; have hfz62_0 := blk_frozen BK437.out 0; have hfz62_1 := blk_frozen BK437.out 1; have hfz62_2 := blk_frozen BK437.out 2; have hfz62_3 := blk_frozen BK437.out 3; have hfz62_4 := blk_frozen BK437.out 4) | ((with_reducible refine gate_builtin (b := .append) (xs := #[.tmp 85, .tmp 87]) rfl ?_); at_builtin; refine Kd.R_append k44 (w0 := w) w.heap.size rfl (.tmp 85) (.tmp 87) 26 44 (.agg #[(.int .i64 0), (.int .i64 0), (.int .i64 0), (.int .i64 0), (.int .u64 0)]) 40 rfl Try.underlying26 info44 rfl (by decide) (by omega) u14 x14_1 (⟨a2, (wrap64 ((l1.length : Int) + 1)), a3, a4, t453⟩ : S44) [.int .i64 a2, .int .i64 (wrap64 ((l1.length : Int) + 1)), .int .i64 a3, .int .i64 a4, .int .u64 t453] (fun k_ => k_ ≠ gb437) (fun _ => False) rfl (by first | (go_simp; done) | (go_simp; rfl)) ?aP (fun _ hk => hk.elim) ?aF ?aO ?aB ?aS ?aL ?_; (case aP => exact k44_mkM _ _ _ (⟨a2, (wrap64 ((l1.length : Int) + 1)), a3, a4, t453⟩ : S44)); (case aB => exact (by repeat (first | (with_reducible first | exact HB.out | apply below_alloc | apply pw_below_drewN | apply below_drew1 | refine below_set ?_ GE437.out) | exact HB.out))); (case aF => exact (fun k_ hk => Kd.freshB (g := gb437) (o := .cells #[.int .i64 a2, .int .i64 (wrap64 ((l1.length : Int) + 1)), .int .i64 a3, .int .i64 a4, .int .u64 t453] 44 (0, 0)) (by (with_reducible repeat (first | refine blk_drewN ?_ _ | refine blk_drew ?_ | refine blk_alloc ?_ _)); refine blk_put (cs := #[.int .i64 a2, .int .i64 (wrap64 ((l1.length : Int) + 1)), .int .i64 a3, .int .i64 a4, .int .u64 0]) ?_ 4 _ rfl; (with_reducible repeat (first | refine blk_drewN ?_ _ | refine blk_drew ?_ | refine blk_alloc ?_ _)); exact BK437.out) k_ hk)); (case aO => exact (by (with_reducible repeat (first | apply Kd.R_alloc | apply Kd.R_drewN | apply Kd.R_drew)); exact Kd.R_mono (Kd.R_far (p := ⟨gb437, 4, none⟩) (Kd.R_mono HO_14.out (fun k_ hk => (⟨hk, hk⟩ : _ ∧ k_ ≠ gb437))) (fun _ hk => hk.2) (.int .u64 t453)) (fun _ hk => hk.1))); (case aS => exact (below_size (by repeat (first | (with_reducible first | exact HB.out | apply below_alloc | apply pw_below_drewN | apply below_drew1 | refine below_set ?_ GE437.out) | exact HB.out)))); (case aL => have := LMc59.out; omega); intro v455 w63 ho hb hg hat; rw [← Ny454.out] at ho; have n0_ := Aside0.mk (blk_grown (g := gb437) (o := .cells #[.int .i64 a2, .int .i64 (wrap64 ((l1.length : Int) + 1)), .int .i64 a3, .int .i64 a4, .int .u64 t453] 44 (0, 0)) (by (with_reducible repeat (first | refine blk_drewN ?_ _ | refine blk_drew ?_ | refine blk_alloc ?_ _)); refine blk_put (cs := #[.int .i64 a2, .int .i64 (wrap64 ((l1.length : Int) + 1)), .int .i64 a3, .int .i64 a4, .int .u64 0]) ?_ 4 _ rfl; (with_reducible repeat (first | refine blk_drewN ?_ _ | refine blk_drew ?_ | refine blk_alloc ?_ _)); exact BK437.out) hg (Kd.R_away HO_14.out (fun _ hk => hk))); have n1_ := Aside0.mk (hb); have n2_ := Aside0.mk (ho); clear BK437; clear HB; clear HO_14; have BK437 := n0_; have HB := n1_; have HO456 := n2_; clear n0_ n1_ n2_; clear ho hb hg hat))
         go_ret2
         exact ⟨_, by first | rfl | (simp [errW_none, errW_some] <;> rfl) | (simp [*, errW_none, errW_some] <;> rfl), by (with_reducible repeat (first | apply Kd.R_alloc | apply Kd.R_drewN | apply Kd.R_drew)); exact Kd.R_mono HO456.out (fun _ hk => trivial), by repeat (first | (with_reducible first | exact HB.out | apply below_alloc | apply pw_below_drewN | apply below_drew1 | refine below_set ?_ GE437.out) | exact HB.out)⟩
        ·rw [if_neg c59] at H
         exact absurd H (by simp)
   ·replace c11 := Bool.eq_false_iff.mpr c11
    subst c11
    have H1 : (some (([] : List (S44)), 1)) = some (r1, r2) := by rw [if_neg (show ¬ (false = true) by decide)] at H; exact H
    clear H
    have H := H1
    clear H1
    simp only [Option.some.injEq, Prod.mk.injEq] at H
    obtain ⟨rfl, rfl⟩ := H
    go_enter Try.func30, Try.ntmps30
    go_wp2_with (first | ((with_reducible refine gate_callee (f := 36) rfl ?_); refine goesL_ (some 19) rfl rfl Try.func36 (by kernel_rfl) rfl #[.int .u64 a0, .slice A1 l1.length c1] rfl (by (try simp only [List.map_toArray, List.map_cons, List.map_nil]); first | done | rfl | (simp only [List.length_drop, List.length_take]; rfl)) ?_; (with_reducible refine (chargeparkref40_Check.calls k a0 _ _ l1 t436 _ ?side1 ?side2 A6.out).mono ?_); (case side1 => repeat (first | exact HR1.out | (with_reducible refine Kd.C_alloc ?_ _) | (with_reducible refine Kd.C_drewN ?_ _) | (with_reducible refine Kd.C_drew ?_))); (case side2 => exact HC1.out); rintro e w64 ⟨rfl, hb⟩; refine ⟨_, rfl, ?_⟩; have n0_ := Aside0.mk (below_step (by repeat (first | (with_reducible first | exact HB.out | apply below_alloc | apply pw_below_drewN | apply below_drew1) | exact HB.out)) hb); clear HB; have HB := n0_; clear n0_; (try clear hb); (try clear hb2); (try clear hk); (try clear hi)) | ((with_reducible refine gate_dst (N := 13) rfl ?_); refine box_event ?hg (N := 13) ?hd (cs := #[.int .i64 0, .int .i64 0, .int .i64 0, .int .i64 0, .int .u64 0]) (t := 44) ?hr ?_; (case hd => rfl); (case hg => rfl); (case hr => first | (go_simp; done) | (go_simp; rfl)); intro gb437 hg w65 hbox hb; have n0_ := Aside0.mk (below_step (by repeat (first | (with_reducible first | exact HB.out | apply below_alloc | apply pw_below_drewN | apply below_drew1) | exact HB.out)) hb); have n1_ := Aside0.mk (hbox); have n2_ := Aside0.mk ((by rw [hg]; exact (below_size (by repeat (first | (with_reducible first | exact HB.out | apply below_alloc | apply pw_below_drewN | apply below_drew1) | exact HB.out))) : w.heap.size ≤ gb437)); have n3_ := Aside0.mk ((by rw [hg]; exact (below_size (by repeat (first | (with_reducible first | exact HB.out | apply below_alloc | apply pw_below_drewN | apply below_drew1) | exact HB.out))) : w.heap.size ≤ gb437)); clear HB; have HB := n0_; have BK437 := n1_; have GW437 := n2_; have GE437 := n3_; clear n0_ n1_ n2_ n3_; clear hb hbox hg; have hcz66_0 : w65.cell? ⟨gb437, 0, none⟩ = some (.int .i64 0) := (blk_cell BK437.out 0).trans rfl; have hcz66_1 : w65.cell? ⟨gb437, 1, none⟩ = some (.int .i64 0) := (blk_cell BK437.out 1).trans rfl; have hcz66_2 : w65.cell? ⟨gb437, 2, none⟩ = some (.int .i64 0) := (blk_cell BK437.out 2).trans rfl; have hcz66_3 : w65.cell? ⟨gb437, 3, none⟩ = some (.int .i64 0) := (blk_cell BK437.out 3).trans rfl; have hcz66_4 : w65.cell? ⟨gb437, 4, none⟩ = some (.int .u64 0) := (blk_cell BK437.out 4).trans rfl; have hfz66_0 := blk_frozen BK437.out 0; have hfz66_1 := blk_frozen BK437.out 1; have hfz66_2 := blk_frozen BK437.out 2; have hfz66_3 := blk_frozen BK437.out 3; have hfz66_4 := blk_frozen BK437.out 4) | ((with_reducible refine gate_callee (f := 48) rfl ?_); refine goesL_ (some 32) rfl rfl Try.func48 (by kernel_rfl) rfl #[.agg #[.int .i64 a2, .int .i64 (wrap64 ((l1.length : Int) + 1)), .int .i64 a3, .int .i64 a4, .int .u64 0]] rfl (by (try simp only [List.map_toArray, List.map_cons, List.map_nil]); first | done | rfl | (simp only [List.length_drop, List.length_take]; rfl)) ?_; (with_reducible refine (chargeparkref40_Valid.calls a2 (wrap64 ((l1.length : Int) + 1)) a3 a4 0 false _ A10.out).mono ?_); rintro e w67 ⟨rfl, hb⟩; refine ⟨_, rfl, ?_⟩; have n0_ := Aside0.mk (blk_below (g := gb437) (o := .cells #[.int .i64 a2, .int .i64 (wrap64 ((l1.length : Int) + 1)), .int .i64 a3, .int .i64 a4, .int .u64 0] 44 (0, 0)) (by (with_reducible repeat (first | refine blk_drewN ?_ _ | refine blk_drew ?_ | refine blk_alloc ?_ _)); refine blk_put (cs := #[.int .i64 a2, .int .i64 (wrap64 ((l1.length : Int) + 1)), .int .i64 a3, .int .i64 a4, .int .u64 0]) ?_ 4 _ rfl; (with_reducible repeat (first | refine blk_drewN ?_ _ | refine blk_drew ?_ | refine blk_alloc ?_ _)); refine blk_put (cs := #[.int .i64 a2, .int .i64 (wrap64 ((l1.length : Int) + 1)), .int .i64 a3, .int .i64 0, .int .u64 0]) ?_ 3 _ rfl; (with_reducible repeat (first | refine blk_drewN ?_ _ | refine blk_drew ?_ | refine blk_alloc ?_ _)); refine blk_put (cs := #[.int .i64 a2, .int .i64 (wrap64 ((l1.length : Int) + 1)), .int .i64 0, .int .i64 0, .int .u64 0]) ?_ 2 _ rfl; (with_reducible repeat (first | refine blk_drewN ?_ _ | refine blk_drew ?_ | refine blk_alloc ?_ _)); refine blk_put (cs := #[.int .i64 a2, .int .i64 0, .int .i64 0, .int .i64 0, .int .u64 0]) ?_ 1 _ rfl; (with_reducible repeat (first | refine blk_drewN ?_ _ | refine blk_drew ?_ | refine blk_alloc ?_ _)); refine blk_put (cs := #[.int .i64 0, .int .i64 0, .int .i64 0, .int .i64 0, .int .u64 0]) ?_ 0 _ rfl; (with_reducible repeat (first | refine blk_drewN ?_ _ | refine blk_drew ?_ | refine blk_alloc ?_ _)); exact BK437.out) hb); have n1_ := Aside0.mk (below_step (by repeat (first | (with_reducible first | exact HB.out | apply below_alloc | apply pw_below_drewN | apply below_drew1 | refine below_set ?_ GE437.out) | exact HB.out)) hb); clear BK437; clear HB; have BK437 := n0_; have HB := n1_; clear n0_ n1_; (try clear hb); (try clear hb2); (try clear hk); (try clear hi)))
    go_ret2
    exact ⟨_, by first | rfl | (simp [errW_none, errW_some] <;> rfl) | (simp [*, errW_none, errW_some] <;> rfl), by first | exact Kd.R_nil _ _ _ _ _ | exact Kd.N_nil _ _ _ _ _ | exact Kd.V_nil _ _ _ _ _ | exact Kd.Q_nil _ _ _ _ _ | exact Kd.S_nil _ _ _ _ _, by repeat (first | (with_reducible first | exact HB.out | apply below_alloc | apply pw_below_drewN | apply below_drew1 | refine below_set ?_ GE437.out) | exact HB.out)⟩
 ·rw [if_neg c7] at H
  have c7b0 : (t436 == (-1)) = false := beq_eq_false_iff_ne.mpr c7
  have c7b1 : (t436 != (-1)) = true := bne_iff_ne.mpr c7
  simp only [Option.some.injEq, Prod.mk.injEq] at H
  obtain ⟨rfl, rfl⟩ := H
  go_enter Try.func30, Try.ntmps30
  go_wp2_with (first | ((with_reducible refine gate_callee (f := 36) rfl ?_); refine goesL_ (some 19) rfl rfl Try.func36 (by kernel_rfl) rfl #[.int .u64 a0, .slice A1 l1.length c1] rfl (by (try simp only [List.map_toArray, List.map_cons, List.map_nil]); first | done | rfl | (simp only [List.length_drop, List.length_take]; rfl)) ?_; (with_reducible refine (chargeparkref40_Check.calls k a0 _ _ l1 t436 _ ?side1 ?side2 A6.out).mono ?_); (case side1 => repeat (first | exact HR1.out | (with_reducible refine Kd.C_alloc ?_ _) | (with_reducible refine Kd.C_drewN ?_ _) | (with_reducible refine Kd.C_drew ?_))); (case side2 => exact HC1.out); rintro e w68 ⟨rfl, hb⟩; refine ⟨_, rfl, ?_⟩; have n0_ := Aside0.mk (below_step (by repeat (first | (with_reducible first | exact HB.out | apply below_alloc | apply pw_below_drewN | apply below_drew1) | exact HB.out)) hb); clear HB; have HB := n0_; clear n0_; (try clear hb); (try clear hb2); (try clear hk); (try clear hi)))
  go_ret2
  exact ⟨_, by first | rfl | (simp [errW_none, errW_some] <;> rfl) | (simp [*, errW_none, errW_some] <;> rfl), by first | exact Kd.R_nil _ _ _ _ _ | exact Kd.N_nil _ _ _ _ _ | exact Kd.V_nil _ _ _ _ _ | exact Kd.Q_nil _ _ _ _ _ | exact Kd.S_nil _ _ _ _ _, by repeat (first | (with_reducible first | exact HB.out | apply below_alloc | apply pw_below_drewN | apply below_drew1) | exact HB.out)⟩

-- BY HAND: function 32 (chain_Link)

/-! ### chargeparkref40_Same: function 34 -/
def chargeparkref40_Same.l0 : Nat → List (S44) → List (S44) → Int → Option (Bool)
 | 0, _, _, _ => none
 | k + 1, x0, x1, x5 => if x5 < (x0.length : Int) then (if 0 ≤ x5 then (if x5 < (x1.length : Int) then (if (!(((rd_T44 x0 x5).f0) == ((rd_T44 x1 x5).f0)) || (!(((rd_T44 x0 x5).f1) == ((rd_T44 x1 x5).f1)) || (!(((rd_T44 x0 x5).f2) == ((rd_T44 x1 x5).f2)) || (!(((rd_T44 x0 x5).f3) == ((rd_T44 x1 x5).f3)) || (!(((rd_T44 x0 x5).f4) == ((rd_T44 x1 x5).f4))))))) = true then (some false) else (chargeparkref40_Same.l0 k x0 x1 (wrap64 (x5 + 1)))) else (none)) else (none)) else (some true)
def chargeparkref40_Same.f (k : Nat) (l0 : List (S44)) (l1 : List (S44)) : Option (Bool) := if (l0.length : Int) = (l1.length : Int) then (chargeparkref40_Same.l0 k l0 l1 0) else (some false)
theorem chargeparkref40_Same.mono_l : ∀ k, (∀ y0 y1 y2, LeO (chargeparkref40_Same.l0 k y0 y1 y2) (chargeparkref40_Same.l0 (k + 1) y0 y1 y2))
 | 0 => fun _ _ _ r h => by simp [chargeparkref40_Same.l0] at h
 | k + 1 => by
  have ih0 := chargeparkref40_Same.mono_l k
  ·intro y0 y1 y2
   unfold chargeparkref40_Same.l0
   repeat' first
   | (with_reducible exact ih0 _ _ _)
   | (with_reducible exact LeO.refl _)
   | (with_reducible exact LeO.none _)
   | (with_reducible refine LeO.ite ?_ ?_)
   | (with_reducible refine LeO.bind ?_ (fun _ => ?_))
   | exact ih0 _ _ _
   | exact LeO.none _
   | refine LeO.ite ?_ ?_
   | refine LeO.bind ?_ (fun _ => ?_)
theorem chargeparkref40_Same.mono : ∀ a0 a1 k, LeO (chargeparkref40_Same.f k a0 a1) (chargeparkref40_Same.f (k + 1) a0 a1) := by
 intro a0 a1 k
 have ih0 := chargeparkref40_Same.mono_l k
 unfold chargeparkref40_Same.f
 repeat' first
   | (with_reducible exact ih0 _ _ _)
   | (with_reducible exact LeO.refl _)
   | (with_reducible exact LeO.none _)
   | (with_reducible refine LeO.ite ?_ ?_)
   | (with_reducible refine LeO.bind ?_ (fun _ => ?_))
   | exact ih0 _ _ _
   | exact LeO.none _
   | refine LeO.ite ?_ ?_
   | refine LeO.bind ?_ (fun _ => ?_)
set_option maxHeartbeats 8000000 in
set_option maxRecDepth 100000 in
theorem chargeparkref40_Same.calls (k : Nat) (A0 : Option Addr) (c0 : Nat) (l0 : List (S44)) (A1 : Option Addr) (c1 : Nat) (l1 : List (S44)) (r : Bool) (w : World) (hr0 : Kd.C k44 w A0 l0.length l0) (hc0 : l0.length ≤ c0) (hr1 : Kd.C k44 w A1 l1.length l1) (hc1 : l1.length ≤ c1) (h : chargeparkref40_Same.f k l0 l1 = some r) :
  Calls Try.prog 34 #[.slice A0 l0.length c0, .slice A1 l1.length c1] w fun e w' => e = .returned (.bool r) ∧ Drawn0 w w' := by
 have hu44 := Try.underlying44
 have HR0 := Aside0.mk hr0
 have HC0 := Aside0.mk hc0
 clear hr0 hc0
 have HR1 := Aside0.mk hr1
 have HC1 := Aside0.mk hc1
 clear hr1 hc1
 have H : (if (l0.length : Int) = (l1.length : Int) then (chargeparkref40_Same.l0 k l0 l1 0) else (some false)) = some r := h
 clear h
 by_cases c3 : (l0.length : Int) = (l1.length : Int)
 ·rw [if_pos c3] at H
  have c3b0 : ((l0.length : Int) == (l1.length : Int)) = true := beq_iff_eq.mpr c3
  have c3b1 : ((l0.length : Int) != (l1.length : Int)) = false := bne_eq_false_iff_eq.mpr c3
  have c3b2 : (l0.length == l1.length) = true := by first | simpa using c3 | (simp at c3 ⊢; omega)
  clear c3
  have H' := Aside0.mk H
  clear H
  go_enter Try.func34, Try.ntmps34
  go_wp2
  repeat (go_quiet (fail); try go_wp2)
  go_loopg [5] k (fun kq v5 w' => ∃ (x5_1 : Int), v5 = .int .i64 x5_1 ∧ Aside0 (chargeparkref40_Same.l0 kq l0 l1 x5_1 = some r) ∧ Aside0 (kq ≤ k) ∧ Drawn0 w w')
  case atStart => exact ⟨(0), (by first | rfl | (simp; done) | (simp [*]; done) | kernel_rfl), H', ⟨Nat.le_refl _⟩, by repeat (first | exact Drawn0.refl _ | apply Drawn0.step)⟩
  case round =>
   clear H'
   try clear c1
   try clear p2
   try clear c3
   try clear c3b0
   try clear c3b1
   try clear c3b2
   obtain ⟨x5_1, rfl, HA, HK1, ⟨m1, rfl⟩⟩ := hrel
   cases gk with
   | zero => exact absurd HA.out (by simp [chargeparkref40_Same.l0])
   | succ k1 =>
    have H := HA.out
    clear HA
    simp only [chargeparkref40_Same.l0] at H
    by_cases c4 : x5_1 < (l0.length : Int)
    ·rw [if_pos c4] at H
     have c4b0 : decide (x5_1 < (l0.length : Int)) = true := decide_eq_true c4
     clear c4
     by_cases c5 : 0 ≤ x5_1
     ·rw [if_pos c5] at H
      have c5b0 : decide (0 ≤ x5_1) = true := decide_eq_true c5
      clear c5
      by_cases c6 : x5_1 < (l1.length : Int)
      ·rw [if_pos c6] at H
       have c6b0 : decide (x5_1 < (l1.length : Int)) = true := decide_eq_true c6
       clear c6
       by_cases c7 : (!(((rd_T44 l0 x5_1).f0) == ((rd_T44 l1 x5_1).f0)) || (!(((rd_T44 l0 x5_1).f1) == ((rd_T44 l1 x5_1).f1)) || (!(((rd_T44 l0 x5_1).f2) == ((rd_T44 l1 x5_1).f2)) || (!(((rd_T44 l0 x5_1).f3) == ((rd_T44 l1 x5_1).f3)) || (!(((rd_T44 l0 x5_1).f4) == ((rd_T44 l1 x5_1).f4))))))) = true
       ·rw [if_pos c7] at H
        have c7b0 : (!(((rd_T44 l0 x5_1).f0) == ((rd_T44 l1 x5_1).f0)) || (!(((rd_T44 l0 x5_1).f1) == ((rd_T44 l1 x5_1).f1)) || (!(((rd_T44 l0 x5_1).f2) == ((rd_T44 l1 x5_1).f2)) || (!(((rd_T44 l0 x5_1).f3) == ((rd_T44 l1 x5_1).f3)) || (!(((rd_T44 l0 x5_1).f4) == ((rd_T44 l1 x5_1).f4))))))) = true := c7
        clear c7
        obtain rfl := Option.some.inj H
        have p457 : 0 ≤ (x5_1 : Int) := of_decide_eq_true (by first | (with_reducible assumption) | assumption)
        have q457 : x5_1 < (l0.length : Int) := of_decide_eq_true (by first | (with_reducible assumption) | assumption)
        obtain ⟨ad457, e457, hx457_0, hx457_1, hx457_2, hx457_3, hx457_4⟩ := at_T44 HR0.out x5_1 p457 q457
        cases e457
        replace p457 := eq_true p457
        replace q457 := eq_true q457
        have p458 : 0 ≤ (x5_1 : Int) := of_decide_eq_true (by first | (with_reducible assumption) | assumption)
        have q458 : x5_1 < (l1.length : Int) := of_decide_eq_true (by first | (with_reducible assumption) | assumption)
        obtain ⟨ad458, e458, hx458_0, hx458_1, hx458_2, hx458_3, hx458_4⟩ := at_T44 HR1.out x5_1 p458 q458
        cases e458
        replace p458 := eq_true p458
        replace q458 := eq_true q458
        go_wp2
        repeat (go_quiet (fail); try go_wp2)
        go_ret
        exact ⟨by first | rfl | (simp; done) | (simp [*]; done), by repeat (first | exact Drawn0.refl _ | apply Drawn0.step)⟩
       ·rw [if_neg c7] at H
        have c7b0 : (!(((rd_T44 l0 x5_1).f0) == ((rd_T44 l1 x5_1).f0)) || (!(((rd_T44 l0 x5_1).f1) == ((rd_T44 l1 x5_1).f1)) || (!(((rd_T44 l0 x5_1).f2) == ((rd_T44 l1 x5_1).f2)) || (!(((rd_T44 l0 x5_1).f3) == ((rd_T44 l1 x5_1).f3)) || (!(((rd_T44 l0 x5_1).f4) == ((rd_T44 l1 x5_1).f4))))))) = false := by simpa using c7
        clear c7
        have H' := Aside0.mk H
        clear H
        have p457 : 0 ≤ (x5_1 : Int) := of_decide_eq_true (by first | (with_reducible assumption) | assumption)
        have q457 : x5_1 < (l0.length : Int) := of_decide_eq_true (by first | (with_reducible assumption) | assumption)
        obtain ⟨ad457, e457, hx457_0, hx457_1, hx457_2, hx457_3, hx457_4⟩ := at_T44 HR0.out x5_1 p457 q457
        cases e457
        replace p457 := eq_true p457
        replace q457 := eq_true q457
        have p458 : 0 ≤ (x5_1 : Int) := of_decide_eq_true (by first | (with_reducible assumption) | assumption)
        have q458 : x5_1 < (l1.length : Int) := of_decide_eq_true (by first | (with_reducible assumption) | assumption)
        obtain ⟨ad458, e458, hx458_0, hx458_1, hx458_2, hx458_3, hx458_4⟩ := at_T44 HR1.out x5_1 p458 q458
        cases e458
        replace p458 := eq_true p458
        replace q458 := eq_true q458
        go_wp2
        repeat (go_quiet (fail); try go_wp2)
        go_roundg k1
        case measure => have := HK1.out; omega
        case rel => exact ⟨(wrap64 (x5_1 + 1)), (by first | rfl | (simp; done) | (simp [*]; done) | kernel_rfl), H', ⟨by have := HK1.out; omega⟩, by repeat (first | exact Drawn0.refl _ | apply Drawn0.step)⟩
      ·rw [if_neg c6] at H
       exact absurd H (by simp)
     ·rw [if_neg c5] at H
      exact absurd H (by simp)
    ·rw [if_neg c4] at H
     have c4b0 : decide (x5_1 < (l0.length : Int)) = false := decide_eq_false c4
     clear c4
     obtain rfl := Option.some.inj H
     go_wp2
     repeat (go_quiet (fail); try go_wp2)
     go_ret
     exact ⟨by first | rfl | (simp; done) | (simp [*]; done), by repeat (first | exact Drawn0.refl _ | apply Drawn0.step)⟩
 ·rw [if_neg c3] at H
  have c3b0 : ((l0.length : Int) == (l1.length : Int)) = false := beq_eq_false_iff_ne.mpr c3
  have c3b1 : ((l0.length : Int) != (l1.length : Int)) = true := bne_iff_ne.mpr c3
  have c3b2 : (l0.length == l1.length) = false := by first | simpa using c3 | (simp at c3 ⊢; omega)
  obtain rfl := Option.some.inj H
  go_enter Try.func34, Try.ntmps34
  go_wp2
  repeat (go_quiet (fail); try go_wp2)
  go_ret
  exact ⟨by first | rfl | (simp; done) | (simp [*]; done), by repeat (first | exact Drawn0.refl _ | apply Drawn0.step)⟩

end Go.Proofs.Ytenkffjlpdappaa.Pr
