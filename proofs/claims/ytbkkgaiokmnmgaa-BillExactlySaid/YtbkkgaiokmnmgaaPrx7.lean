-- Printed by hprint.py (a program of this claim's session over the kit's printer).
import Derived.Test.YtbkkgaiokmnmgaaPrx0
import Derived.Test.YtbkkgaiokmnmgaaHShort
namespace Go.Proofs.Ytbkkgaiokmnmgaa.Pr
open Go.RowKit Go.Proofs.YtbkkgaiokmnmgaaW.PrintWords Go.Proofs.YtbkkgaiokmnmgaaW.PrintLast Go.Proofs.YtbkkgaiokmnmgaaW.PrintMore
attribute [local go_sem] max2_int min2_int max_two min_two max_three min_three max_four min_four   -- for this text's walks alone
set_option linter.unusedVariables false
set_option linter.unusedSimpArgs false

/-! ### loophole_part: function 75 -/
def loophole_part.l0 : Nat → Int → Int → List (S50) → Int → Int → Int → Int → Int → List (S50) → Option (Int × Int × Int × (List (S50)))
 | 0, _, _, _, _, _, _, _, _, _ => none
 | k + 1, x1, x2, x20, x21, x22, x133000, x133001, x133002, x133003 => if x22 < x21 then (if 0 ≤ x22 then (if x22 < (x20.length : Int) then (if ((rd_T50 x20 x22).f0) ≥ x1 then (if ((rd_T50 x20 x22).f0) < x2 then (if x133003.length < 8796093022208 then (loophole_part.l0 k x1 x2 x20 x21 (wrap64 (x22 + 1)) x133000 x133001 x133002 (x133003 ++ [(⟨(rd_T50 x20 x22).f0, (rd_T50 x20 x22).f1⟩ : S50)])) else (none)) else (loophole_part.l0 k x1 x2 x20 x21 (wrap64 (x22 + 1)) x133000 x133001 x133002 x133003)) else (loophole_part.l0 k x1 x2 x20 x21 (wrap64 (x22 + 1)) x133000 x133001 x133002 x133003)) else (none)) else (none)) else (some (x133000, x133001, x133002, x133003))
def loophole_part.f (k : Nat) (a0_0 : Int) (a0_1 : Int) (a0_2 : Int) (l0_3 : List (S50)) (a1 : Int) (a2 : Int) : Option (Int × Int × Int × (List (S50))) := loophole_part.l0 k a1 a2 l0_3 (l0_3.length : Int) 0 a1 a2 (mn a2 (mx a1 a0_2)) ([] : List (S50))
theorem loophole_part.mono_l : ∀ k, (∀ y0 y1 y2 y3 y4 y5 y6 y7 y8, LeO (loophole_part.l0 k y0 y1 y2 y3 y4 y5 y6 y7 y8) (loophole_part.l0 (k + 1) y0 y1 y2 y3 y4 y5 y6 y7 y8))
 | 0 => fun _ _ _ _ _ _ _ _ _ r h => by simp [loophole_part.l0] at h
 | k + 1 => by
  have ih0 := loophole_part.mono_l k
  ·intro y0 y1 y2 y3 y4 y5 y6 y7 y8
   unfold loophole_part.l0
   repeat' first
   | (with_reducible exact ih0 _ _ _ _ _ _ _ _ _)
   | (with_reducible exact LeO.refl _)
   | (with_reducible exact LeO.none _)
   | (with_reducible refine LeO.ite ?_ ?_)
   | (with_reducible refine LeO.bind ?_ (fun _ => ?_))
   | exact ih0 _ _ _ _ _ _ _ _ _
   | exact LeO.none _
   | refine LeO.ite ?_ ?_
   | refine LeO.bind ?_ (fun _ => ?_)
theorem loophole_part.mono : ∀ a0 a1 a2 a3 a4 a5 k, LeO (loophole_part.f k a0 a1 a2 a3 a4 a5) (loophole_part.f (k + 1) a0 a1 a2 a3 a4 a5) := by
 intro a0 a1 a2 a3 a4 a5 k
 have ih0 := loophole_part.mono_l k
 unfold loophole_part.f
 repeat' first
   | (with_reducible exact ih0 _ _ _ _ _ _ _ _ _)
   | (with_reducible exact LeO.refl _)
   | (with_reducible exact LeO.none _)
   | (with_reducible refine LeO.ite ?_ ?_)
   | (with_reducible refine LeO.bind ?_ (fun _ => ?_))
   | exact ih0 _ _ _ _ _ _ _ _ _
   | exact LeO.none _
   | refine LeO.ite ?_ ?_
   | refine LeO.bind ?_ (fun _ => ?_)
set_option maxHeartbeats 8000000 in
set_option maxRecDepth 100000 in
theorem loophole_part.calls (k : Nat) (a0_0 : Int) (a0_1 : Int) (a0_2 : Int) (A0_3 : Option Addr) (c0_3 : Nat) (l0_3 : List (S50)) (a1 : Int) (a2 : Int) (r1 : Int) (r2 : Int) (r3 : Int) (r4 : List (S50)) (w : World) (hr0_3 : Kd.C k50 w A0_3 l0_3.length l0_3) (hc0_3 : l0_3.length ≤ c0_3) (h : loophole_part.f k a0_0 a0_1 a0_2 l0_3 a1 a2 = some (r1, r2, r3, r4)) :
  Calls Try.prog 75 #[.agg #[.int .i64 a0_0, .int .i64 a0_1, .int .i64 a0_2, .slice A0_3 l0_3.length c0_3], .int .i64 a1, .int .i64 a2] w fun e w' => ∃ v3_ : Value, e = .returned (.agg #[.int .i64 r1, .int .i64 r2, .int .i64 r3, v3_]) ∧ Kd.R k50 50 w' w.heap.size (fun _ => True) v3_ r4 ∧ Below w.heap.size w w' := by
 have hu33 := Try.underlying33
 have hu50 := Try.underlying50
 have HR0_3 := Aside0.mk hr0_3
 have HC0_3 := Aside0.mk hc0_3
 clear hr0_3 hc0_3
 have HB := Aside0.mk (Below.refl w.heap.size w)
 have H : (loophole_part.l0 k a1 a2 l0_3 (l0_3.length : Int) 0 a1 a2 (mn a2 (mx a1 a0_2)) ([] : List (S50))) = some (r1, r2, r3, r4) := h
 clear h
 obtain ⟨ji4, hji4⟩ : ∃ j_ : Int, (mx a1 a0_2) = j_ := ⟨_, rfl⟩
 replace H : (loophole_part.l0 k a1 a2 l0_3 (l0_3.length : Int) 0 a1 a2 (mn a2 (ji4)) ([] : List (S50))) = some (r1, r2, r3, r4) := by first | (rw [hji4] at H; exact H) | (simp only [hji4] at H ⊢; exact H)
 have hji4_ : (if a1 < a0_2 then a0_2 else a1) = ji4 := hji4
 obtain ⟨ji5, hji5⟩ : ∃ j_ : Int, (mn a2 (ji4)) = j_ := ⟨_, rfl⟩
 replace H : (loophole_part.l0 k a1 a2 l0_3 (l0_3.length : Int) 0 a1 a2 ji5 ([] : List (S50))) = some (r1, r2, r3, r4) := by first | (rw [hji5] at H; exact H) | (simp only [hji5] at H ⊢; exact H)
 have hji5_ : (if (ji4) < a2 then (ji4) else a2) = ji5 := hji5
 have H' := Aside0.mk H
 clear H
 go_enter Try.func75, Try.ntmps75
 go_wp2_with (first | ((with_reducible refine gate_dst (N := 3) rfl ?_); refine box_event ?hg (N := 3) ?hd (cs := #[.int .i64 a0_0, .int .i64 a0_1, .int .i64 a0_2, .slice A0_3 l0_3.length c0_3]) (t := 33) ?hr ?_; (case hd => rfl); (case hg => rfl); (case hr => first | (go_simp; done) | (go_simp; rfl)); intro gb130 hg w6 hbox hb; have n0_ := Aside0.mk (below_step (hb_ HB) hb); have n1_ := Aside0.mk (hbox); have n2_ := Aside0.mk ((by rw [hg]; exact (below_size (hb_ HB)) : w.heap.size ≤ gb130)); have n3_ := Aside0.mk ((by rw [hg]; exact (below_size (hb_ HB)) : w.heap.size ≤ gb130)); clear HB; have HB := n0_; have BK130 := n1_; have GW130 := n2_; have GE130 := n3_; clear n0_ n1_ n2_ n3_; clear hb hbox hg) | ((with_reducible refine gate_dst (N := 6) rfl ?_); refine box_event ?hg (N := 6) ?hd (cs := #[.int .i64 0, .int .i64 0, .int .i64 0, .slice none 0 0]) (t := 33) ?hr ?_; (case hd => rfl); (case hg => rfl); (case hr => first | (go_simp; done) | (go_simp; rfl)); intro gb131 hg w7 hbox hb; have n0_ := (bb_ BK130 hb); have n1_ := Aside0.mk (below_step (hb_ HB) hb); have n2_ := Aside0.mk (hbox); have n3_ := Aside0.mk ((by rw [hg]; exact (below_size (hb_ HB)) : w.heap.size ≤ gb131)); have n4_ := Aside0.mk ((by rw [hg]; exact (below_size (hb_ HB)) : w.heap.size ≤ gb131)); have n5_ := (nlt_ BK130 hg); have n6_ := (ngt_ BK130 hg); clear BK130; clear HB; have BK130 := n0_; have HB := n1_; have BK131 := n2_; have GW131 := n3_; have GE131 := n4_; have NB130_131 := n5_; have NB131_130 := n6_; clear n0_ n1_ n2_ n3_ n4_ n5_ n6_; clear hb hbox hg; have hnb8 := NB130_131.out; have hnc8 := NB131_130.out; have hcz9_0 : w7.cell? ⟨gb130, 0, none⟩ = some (.int .i64 a0_0) := bc_ BK130 0; have hcz9_1 : w7.cell? ⟨gb130, 1, none⟩ = some (.int .i64 a0_1) := bc_ BK130 1; have hcz9_2 : w7.cell? ⟨gb130, 2, none⟩ = some (.int .i64 a0_2) := bc_ BK130 2; have hcz9_3 : w7.cell? ⟨gb130, 3, none⟩ = some (.slice A0_3 l0_3.length c0_3) := bc_ BK130 3; have hfz9_0 := blk_frozen BK130.out 0; have hfz9_1 := blk_frozen BK130.out 1; have hfz9_2 := blk_frozen BK130.out 2; have hfz9_3 := blk_frozen BK130.out 3) | ((with_reducible refine gate_dst (N := 7) rfl ?_); refine box_event ?hg (N := 7) ?hd (cs := #[.int .i64 0, .int .i64 0, .int .i64 0, .slice none 0 0]) (t := 33) ?hr ?_; (case hd => rfl); (case hg => rfl); (case hr => first | (go_simp; done) | (go_simp; rfl)); intro gb132 hg w10 hbox hb; have n0_ := (bb_ BK130 hb); have n1_ := (bb_ BK131 hb); have n2_ := Aside0.mk (below_step (hb_ HB) hb); have n3_ := Aside0.mk (hbox); have n4_ := Aside0.mk ((by rw [hg]; exact (below_size (hb_ HB)) : w.heap.size ≤ gb132)); have n5_ := Aside0.mk ((by rw [hg]; exact (below_size (hb_ HB)) : w.heap.size ≤ gb132)); have n6_ := (nlt_ BK130 hg); have n7_ := (ngt_ BK130 hg); have n8_ := (nlt_ BK131 hg); have n9_ := (ngt_ BK131 hg); clear BK130; clear BK131; clear HB; have BK130 := n0_; have BK131 := n1_; have HB := n2_; have BK132 := n3_; have GW132 := n4_; have GE132 := n5_; have NB130_132 := n6_; have NB132_130 := n7_; have NB131_132 := n8_; have NB132_131 := n9_; clear n0_ n1_ n2_ n3_ n4_ n5_ n6_ n7_ n8_ n9_; clear hb hbox hg; have hnb11 := NB132_130.out; have hnc11 := NB130_132.out; have hnb12 := NB132_131.out; have hnc12 := NB131_132.out; have hcz13_0 : w10.cell? ⟨gb132, 0, none⟩ = some (.int .i64 0) := bc_ BK132 0; have hcz13_1 : w10.cell? ⟨gb132, 1, none⟩ = some (.int .i64 0) := bc_ BK132 1; have hcz13_2 : w10.cell? ⟨gb132, 2, none⟩ = some (.int .i64 0) := bc_ BK132 2; have hcz13_3 : w10.cell? ⟨gb132, 3, none⟩ = some (.slice none 0 0) := bc_ BK132 3; have hfz13_0 := blk_frozen BK132.out 0; have hfz13_1 := blk_frozen BK132.out 1; have hfz13_2 := blk_frozen BK132.out 2; have hfz13_3 := blk_frozen BK132.out 3; have hcz14_0 : w10.cell? ⟨gb130, 0, none⟩ = some (.int .i64 a0_0) := bc_ BK130 0; have hcz14_1 : w10.cell? ⟨gb130, 1, none⟩ = some (.int .i64 a0_1) := bc_ BK130 1; have hcz14_2 : w10.cell? ⟨gb130, 2, none⟩ = some (.int .i64 a0_2) := bc_ BK130 2; have hcz14_3 : w10.cell? ⟨gb130, 3, none⟩ = some (.slice A0_3 l0_3.length c0_3) := bc_ BK130 3; have hfz14_0 := blk_frozen BK130.out 0; have hfz14_1 := blk_frozen BK130.out 1; have hfz14_2 := blk_frozen BK130.out 2; have hfz14_3 := blk_frozen BK130.out 3))
 go_loopg [22] k (fun kq v22 w' => ∃ (x22_1 : Int) (x133003_1 : List (S50)) (u133003 : Value), v22 = .int .i64 x22_1 ∧ Aside0 (loophole_part.l0 kq a1 a2 l0_3 (l0_3.length : Int) x22_1 a1 a2 ji5 x133003_1 = some (r1, r2, r3, r4)) ∧ Aside0 (kq ≤ k) ∧ Aside0 (Kd.R k50 50 w' w.heap.size (fun _ => True) u133003 x133003_1) ∧ Aside0 (w'.heap[gb130]? = some (.cells #[.int .i64 a0_0, .int .i64 a0_1, .int .i64 a0_2, (.slice A0_3 l0_3.length c0_3)] 33 (0, 0))) ∧ Aside0 (w'.heap[gb131]? = some (.cells #[.int .i64 0, .int .i64 0, .int .i64 0, (.slice none 0 0)] 33 (0, 0))) ∧ Aside0 (w'.heap[gb132]? = some (.cells #[.int .i64 a1, .int .i64 a2, .int .i64 ji5, u133003] 33 (0, 0))) ∧ Aside0 (Below w.heap.size w w'))
 case atStart => exact ⟨(0), (([] : List (S50))), (.slice none 0 0), (by first | rfl | (simp; done) | (simp [*]; done)), H', ⟨Nat.le_refl _⟩, ⟨by first | exact Kd.R_nil _ _ _ _ _ | exact Kd.N_nil _ _ _ _ _ | exact Kd.V_nil _ _ _ _ _ | exact Kd.Q_nil _ _ _ _ _ | exact Kd.S_nil _ _ _ _ _⟩, ⟨by (with_reducible repeat (first | refine blk_drewN ?_ _ | refine blk_drew ?_ | refine blk_alloc ?_ _)); refine blk_far ?_ NB130_132.out _; (with_reducible repeat (first | refine blk_drewN ?_ _ | refine blk_drew ?_ | refine blk_alloc ?_ _)); refine blk_far ?_ NB130_132.out _; (with_reducible repeat (first | refine blk_drewN ?_ _ | refine blk_drew ?_ | refine blk_alloc ?_ _)); refine blk_far ?_ NB130_132.out _; (with_reducible repeat (first | refine blk_drewN ?_ _ | refine blk_drew ?_ | refine blk_alloc ?_ _)); refine blk_far ?_ NB130_132.out _; (with_reducible repeat (first | refine blk_drewN ?_ _ | refine blk_drew ?_ | refine blk_alloc ?_ _)); exact BK130.out⟩, ⟨by (with_reducible repeat (first | refine blk_drewN ?_ _ | refine blk_drew ?_ | refine blk_alloc ?_ _)); refine blk_far ?_ NB131_132.out _; (with_reducible repeat (first | refine blk_drewN ?_ _ | refine blk_drew ?_ | refine blk_alloc ?_ _)); refine blk_far ?_ NB131_132.out _; (with_reducible repeat (first | refine blk_drewN ?_ _ | refine blk_drew ?_ | refine blk_alloc ?_ _)); refine blk_far ?_ NB131_132.out _; (with_reducible repeat (first | refine blk_drewN ?_ _ | refine blk_drew ?_ | refine blk_alloc ?_ _)); refine blk_far ?_ NB131_132.out _; (with_reducible repeat (first | refine blk_drewN ?_ _ | refine blk_drew ?_ | refine blk_alloc ?_ _)); exact BK131.out⟩, ⟨by (with_reducible repeat (first | refine blk_drewN ?_ _ | refine blk_drew ?_ | refine blk_alloc ?_ _)); refine blk_put (cs := #[.int .i64 a1, .int .i64 a2, .int .i64 ji5, .slice none 0 0]) ?_ 3 _ rfl; (with_reducible repeat (first | refine blk_drewN ?_ _ | refine blk_drew ?_ | refine blk_alloc ?_ _)); refine blk_put (cs := #[.int .i64 a1, .int .i64 a2, .int .i64 0, .slice none 0 0]) ?_ 2 _ rfl; (with_reducible repeat (first | refine blk_drewN ?_ _ | refine blk_drew ?_ | refine blk_alloc ?_ _)); refine blk_put (cs := #[.int .i64 a1, .int .i64 0, .int .i64 0, .slice none 0 0]) ?_ 1 _ rfl; (with_reducible repeat (first | refine blk_drewN ?_ _ | refine blk_drew ?_ | refine blk_alloc ?_ _)); refine blk_put (cs := #[.int .i64 0, .int .i64 0, .int .i64 0, .slice none 0 0]) ?_ 0 _ rfl; (with_reducible repeat (first | refine blk_drewN ?_ _ | refine blk_drew ?_ | refine blk_alloc ?_ _)); exact BK132.out⟩, ⟨by repeat (first | (with_reducible first | exact HB.out | apply below_alloc | apply pw_below_drewN | apply below_drew1 | refine below_set ?_ GE130.out | refine below_set ?_ GE131.out | refine below_set ?_ GE132.out) | exact HB.out)⟩⟩
 case round =>
  clear H'
  try clear c1
  try clear p2
  try clear c7
  try clear c8
  try clear c11
  try clear c12
  try clear hcz13_0
  try clear hcz13_1
  try clear hcz13_2
  try clear hcz13_3
  try clear hcz14_0
  try clear hcz14_1
  try clear hcz14_2
  try clear hcz14_3
  try clear hcz9_0
  try clear hcz9_1
  try clear hcz9_2
  try clear hcz9_3
  try clear hfz13_0
  try clear hfz13_1
  try clear hfz13_2
  try clear hfz13_3
  try clear hfz14_0
  try clear hfz14_1
  try clear hfz14_2
  try clear hfz14_3
  try clear hfz9_0
  try clear hfz9_1
  try clear hfz9_2
  try clear hfz9_3
  obtain ⟨x22_1, x133003_1, u133003, rfl, HA, HK1, HO_133003, BK130, BK131, BK132, HB⟩ := hrel
  cases gk with
  | zero => exact absurd HA.out (by simp [loophole_part.l0])
  | succ k1 =>
   have H := HA.out
   clear HA
   simp only [loophole_part.l0] at H
   by_cases c15 : x22_1 < (l0_3.length : Int)
   ·rw [if_pos c15] at H
    have c15b0 : decide (x22_1 < (l0_3.length : Int)) = true := decide_eq_true c15
    clear c15
    by_cases c16 : 0 ≤ x22_1
    ·rw [if_pos c16] at H
     have c16b0 : decide (0 ≤ x22_1) = true := decide_eq_true c16
     clear c16
     by_cases c17 : x22_1 < (l0_3.length : Int)
     ·rw [if_pos c17] at H
      have c17b0 : decide (x22_1 < (l0_3.length : Int)) = true := decide_eq_true c17
      clear c17
      by_cases c18 : ((rd_T50 l0_3 x22_1).f0) ≥ a1
      ·rw [if_pos c18] at H
       have c18b0 : decide (a1 ≤ ((rd_T50 l0_3 x22_1).f0)) = true := decide_eq_true c18
       clear c18
       by_cases c19 : ((rd_T50 l0_3 x22_1).f0) < a2
       ·rw [if_pos c19] at H
        have c19b0 : decide (((rd_T50 l0_3 x22_1).f0) < a2) = true := decide_eq_true c19
        clear c19
        by_cases c20 : x133003_1.length < 8796093022208
        ·rw [if_pos c20] at H
         have LMc20 := Aside0.mk c20
         clear c20
         obtain ⟨y135, hy135⟩ : ∃ y_ : List (S50), y_ = (x133003_1 ++ [(⟨(rd_T50 l0_3 x22_1).f0, (rd_T50 l0_3 x22_1).f1⟩ : S50)]) := ⟨_, rfl⟩
         replace H : (loophole_part.l0 k1 a1 a2 l0_3 (l0_3.length : Int) (wrap64 (x22_1 + 1)) a1 a2 ji5 y135) = some (r1, r2, r3, r4) := by first | (rw [hy135]; with_reducible exact H) | (have H2_ := (Option.bind_some _ _).symm.trans H; rw [hy135]; with_reducible exact H2_) | (have H2_ := (Option.bind_some _ _).symm.trans H; with_reducible exact H2_) | with_reducible exact H | (rw [hy135]; exact H) | exact H
         have Ny135 := Aside0.mk hy135
         clear hy135
         have H' := Aside0.mk H
         clear H
         have p133 : 0 ≤ (x22_1 : Int) := of_decide_eq_true (by first | (with_reducible assumption) | assumption)
         have q133 : x22_1 < (l0_3.length : Int) := of_decide_eq_true (by first | (with_reducible assumption) | assumption)
         obtain ⟨ad133, e133, hx133_0, hx133_1⟩ := at_T50 HR0_3.out x22_1 p133 q133
         cases e133
         replace hx133_0 := (HB.out.cell (World.block_lt_of_cell? w _ hx133_0)).trans hx133_0
         replace hx133_1 := (HB.out.cell (World.block_lt_of_cell? w _ hx133_1)).trans hx133_1
         replace p133 := eq_true p133
         replace q133 := eq_true q133
         go_wp2_with (first | ((with_reducible refine gate_dst (N := 9) rfl ?_); refine box_event ?hg (N := 9) ?hd (cs := #[.int .i64 0, .int .i64 0]) (t := 50) ?hr ?_; (case hd => rfl); (case hg => rfl); (case hr => first | (go_simp; done) | (go_simp; rfl)); intro gb134 hg w21 hbox hb; have n0_ := Aside0.mk (Kd.R_below (Kd.R_elderB (kr_ HO_133003) gb134 (Nat.le_of_eq hg.symm)) hb); have n1_ := (bb_ BK130 hb); have n2_ := (bb_ BK131 hb); have n3_ := (bb_ BK132 hb); have n4_ := Aside0.mk (below_step (hb_ HB) hb); have n5_ := Aside0.mk (hbox); have n6_ := Aside0.mk ((by rw [hg]; exact (below_size (hb_ HB)) : w.heap.size ≤ gb134)); have n7_ := Aside0.mk ((by rw [hg]; exact (below_size (hb_ HB)) : w.heap.size ≤ gb134)); have n8_ := (nlt_ BK130 hg); have n9_ := (ngt_ BK130 hg); have n10_ := (nlt_ BK131 hg); have n11_ := (ngt_ BK131 hg); have n12_ := (nlt_ BK132 hg); have n13_ := (ngt_ BK132 hg); clear HO_133003; clear BK130; clear BK131; clear BK132; clear HB; have HO_133003 := n0_; have BK130 := n1_; have BK131 := n2_; have BK132 := n3_; have HB := n4_; have BK134 := n5_; have GW134 := n6_; have GE134 := n7_; have NB130_134 := n8_; have NB134_130 := n9_; have NB131_134 := n10_; have NB134_131 := n11_; have NB132_134 := n12_; have NB134_132 := n13_; clear n0_ n1_ n2_ n3_ n4_ n5_ n6_ n7_ n8_ n9_ n10_ n11_ n12_ n13_; clear hb hbox hg; have hnb22 := NB134_130.out; have hnc22 := NB130_134.out; have hnb23 := NB134_131.out; have hnc23 := NB131_134.out; have hnb24 := NB134_132.out; have hnc24 := NB132_134.out; have hcz25_0 : w21.cell? ⟨gb134, 0, none⟩ = some (.int .i64 0) := bc_ BK134 0; have hcz25_1 : w21.cell? ⟨gb134, 1, none⟩ = some (.int .i64 0) := bc_ BK134 1; have hfz25_0 := blk_frozen BK134.out 0; have hfz25_1 := blk_frozen BK134.out 1; have hnb26 := NB132_130.out; have hnc26 := NB130_132.out; have hnb27 := NB132_131.out; have hnc27 := NB131_132.out; have hcz28_0 : w21.cell? ⟨gb132, 0, none⟩ = some (.int .i64 a1) := bc_ BK132 0; have hcz28_1 : w21.cell? ⟨gb132, 1, none⟩ = some (.int .i64 a2) := bc_ BK132 1; have hcz28_2 : w21.cell? ⟨gb132, 2, none⟩ = some (.int .i64 ji5) := bc_ BK132 2; have hcz28_3 : w21.cell? ⟨gb132, 3, none⟩ = some (u133003) := bc_ BK132 3; have hfz28_0 := blk_frozen BK132.out 0; have hfz28_1 := blk_frozen BK132.out 1; have hfz28_2 := blk_frozen BK132.out 2; have hfz28_3 := blk_frozen BK132.out 3) | ((with_reducible refine gate_builtin (b := .append) (xs := #[.tmp 37, .tmp 39]) rfl ?_); at_builtin; refine Kd.R_append k50 (w0 := w) w.heap.size rfl (.tmp 37) (.tmp 39) 31 50 (.agg #[(.int .i64 0), (.int .i64 0)]) 16 rfl Try.underlying31 info50 rfl (by decide) (by omega) u133003 x133003_1 (⟨(rd_T50 l0_3 x22_1).f0, (rd_T50 l0_3 x22_1).f1⟩ : S50) [.int .i64 ((rd_T50 l0_3 x22_1).f0), .int .i64 ((rd_T50 l0_3 x22_1).f1)] (fun k_ => k_ ≠ gb134) (fun _ => False) rfl (by first | (go_simp; done) | (go_simp; rfl)) ?aP (fun _ hk => hk.elim) ?aF ?aO ?aB ?aS ?aL ?_; (case aP => exact k50_mkM _ _ _ (⟨(rd_T50 l0_3 x22_1).f0, (rd_T50 l0_3 x22_1).f1⟩ : S50)); (case aB => exact (hb_ HB)); (case aF => exact (fun k_ hk => Kd.freshB (g := gb134) (o := .cells #[.int .i64 ((rd_T50 l0_3 x22_1).f0), .int .i64 ((rd_T50 l0_3 x22_1).f1)] 50 (0, 0)) (by (with_reducible repeat (first | refine blk_drewN ?_ _ | refine blk_drew ?_ | refine blk_alloc ?_ _)); refine blk_put (cs := #[.int .i64 ((rd_T50 l0_3 x22_1).f0), .int .i64 0]) ?_ 1 _ rfl; (with_reducible repeat (first | refine blk_drewN ?_ _ | refine blk_drew ?_ | refine blk_alloc ?_ _)); refine blk_put (cs := #[.int .i64 0, .int .i64 0]) ?_ 0 _ rfl; (with_reducible repeat (first | refine blk_drewN ?_ _ | refine blk_drew ?_ | refine blk_alloc ?_ _)); exact BK134.out) k_ hk)); (case aO => exact (by (with_reducible repeat (first | apply Kd.R_alloc | apply Kd.R_drewN | apply Kd.R_drew)); exact Kd.R_mono (Kd.R_far (p := ⟨gb134, 1, none⟩) (Kd.R_far (p := ⟨gb134, 0, none⟩) (Kd.R_mono HO_133003.out (fun k_ hk => (⟨hk, hk.2⟩ : _ ∧ k_ ≠ gb134))) (fun _ hk => hk.2) (.int .i64 ((rd_T50 l0_3 x22_1).f0))) (fun _ hk => hk.2) (.int .i64 ((rd_T50 l0_3 x22_1).f1))) (fun _ hk => hk.1.2))); (case aS => exact (below_size (hb_ HB))); (case aL => have := LMc20.out; omega); intro v136 w29 ho hb hg hat; rw [← Ny135.out] at ho; have n0_ := Aside0.mk (blk_grown (g := gb130) (o := .cells #[.int .i64 a0_0, .int .i64 a0_1, .int .i64 a0_2, .slice (some ad133) l0_3.length c0_3] 33 (0, 0)) (by (with_reducible repeat (first | refine blk_drewN ?_ _ | refine blk_drew ?_ | refine blk_alloc ?_ _)); refine blk_far ?_ NB130_134.out _; (with_reducible repeat (first | refine blk_drewN ?_ _ | refine blk_drew ?_ | refine blk_alloc ?_ _)); refine blk_far ?_ NB130_134.out _; (with_reducible repeat (first | refine blk_drewN ?_ _ | refine blk_drew ?_ | refine blk_alloc ?_ _)); exact BK130.out) hg (Kd.R_ne HO_133003.out BK130.out (by decide))); have n1_ := Aside0.mk (blk_grown (g := gb131) (o := .cells #[.int .i64 0, .int .i64 0, .int .i64 0, .slice none 0 0] 33 (0, 0)) (by (with_reducible repeat (first | refine blk_drewN ?_ _ | refine blk_drew ?_ | refine blk_alloc ?_ _)); refine blk_far ?_ NB131_134.out _; (with_reducible repeat (first | refine blk_drewN ?_ _ | refine blk_drew ?_ | refine blk_alloc ?_ _)); refine blk_far ?_ NB131_134.out _; (with_reducible repeat (first | refine blk_drewN ?_ _ | refine blk_drew ?_ | refine blk_alloc ?_ _)); exact BK131.out) hg (Kd.R_ne HO_133003.out BK131.out (by decide))); have n2_ := Aside0.mk (blk_grown (g := gb132) (o := .cells #[.int .i64 a1, .int .i64 a2, .int .i64 ji5, u133003] 33 (0, 0)) (by (with_reducible repeat (first | refine blk_drewN ?_ _ | refine blk_drew ?_ | refine blk_alloc ?_ _)); refine blk_far ?_ NB132_134.out _; (with_reducible repeat (first | refine blk_drewN ?_ _ | refine blk_drew ?_ | refine blk_alloc ?_ _)); refine blk_far ?_ NB132_134.out _; (with_reducible repeat (first | refine blk_drewN ?_ _ | refine blk_drew ?_ | refine blk_alloc ?_ _)); exact BK132.out) hg (Kd.R_ne HO_133003.out BK132.out (by decide))); have n3_ := Aside0.mk (blk_grown (g := gb134) (o := .cells #[.int .i64 ((rd_T50 l0_3 x22_1).f0), .int .i64 ((rd_T50 l0_3 x22_1).f1)] 50 (0, 0)) (by (with_reducible repeat (first | refine blk_drewN ?_ _ | refine blk_drew ?_ | refine blk_alloc ?_ _)); refine blk_put (cs := #[.int .i64 ((rd_T50 l0_3 x22_1).f0), .int .i64 0]) ?_ 1 _ rfl; (with_reducible repeat (first | refine blk_drewN ?_ _ | refine blk_drew ?_ | refine blk_alloc ?_ _)); refine blk_put (cs := #[.int .i64 0, .int .i64 0]) ?_ 0 _ rfl; (with_reducible repeat (first | refine blk_drewN ?_ _ | refine blk_drew ?_ | refine blk_alloc ?_ _)); exact BK134.out) hg (Kd.R_away HO_133003.out (fun _ hk => hk.2))); have n4_ := Aside0.mk (hb); have n5_ := Aside0.mk (ho); clear BK130; clear BK131; clear BK132; clear BK134; clear HB; clear HO_133003; have BK130 := n0_; have BK131 := n1_; have BK132 := n2_; have BK134 := n3_; have HB := n4_; have HO137 := n5_; clear n0_ n1_ n2_ n3_ n4_ n5_; clear ho hb hg hat; obtain ⟨Ao30, co30, eo30⟩ := Kd.R_slice HO137.out; subst eo30; have hcz31_0 : w29.cell? ⟨gb132, 0, none⟩ = some (.int .i64 a1) := bc_ BK132 0; have hcz31_1 : w29.cell? ⟨gb132, 1, none⟩ = some (.int .i64 a2) := bc_ BK132 1; have hcz31_2 : w29.cell? ⟨gb132, 2, none⟩ = some (.int .i64 ji5) := bc_ BK132 2; have hcz31_3 : w29.cell? ⟨gb132, 3, none⟩ = some (u133003) := bc_ BK132 3; have hfz31_0 := blk_frozen BK132.out 0; have hfz31_1 := blk_frozen BK132.out 1; have hfz31_2 := blk_frozen BK132.out 2; have hfz31_3 := blk_frozen BK132.out 3))
         go_roundg k1
         case measure => have := HK1.out; omega
         case rel => exact ⟨(wrap64 (x22_1 + 1)), (y135), (.slice Ao30 y135.length co30), (by first | rfl | (simp; done) | (simp [*]; done)), H', ⟨by have := HK1.out; omega⟩, ⟨by (with_reducible repeat (first | apply Kd.R_alloc | apply Kd.R_drewN | apply Kd.R_drew)); exact Kd.R_mono (Kd.R_far (p := ⟨gb132, 3, none⟩) (Kd.R_types HO137.out BK132.out (by decide)) (fun _ hk => hk.2) (.slice Ao30 y135.length co30)) (fun _ hk => trivial)⟩, ⟨by (with_reducible repeat (first | refine blk_drewN ?_ _ | refine blk_drew ?_ | refine blk_alloc ?_ _)); refine blk_far ?_ NB130_132.out _; (with_reducible repeat (first | refine blk_drewN ?_ _ | refine blk_drew ?_ | refine blk_alloc ?_ _)); exact BK130.out⟩, ⟨by (with_reducible repeat (first | refine blk_drewN ?_ _ | refine blk_drew ?_ | refine blk_alloc ?_ _)); refine blk_far ?_ NB131_132.out _; (with_reducible repeat (first | refine blk_drewN ?_ _ | refine blk_drew ?_ | refine blk_alloc ?_ _)); exact BK131.out⟩, ⟨by (with_reducible repeat (first | refine blk_drewN ?_ _ | refine blk_drew ?_ | refine blk_alloc ?_ _)); refine blk_put (cs := #[.int .i64 a1, .int .i64 a2, .int .i64 ji5, u133003]) ?_ 3 _ rfl; (with_reducible repeat (first | refine blk_drewN ?_ _ | refine blk_drew ?_ | refine blk_alloc ?_ _)); exact BK132.out⟩, ⟨by repeat (first | (with_reducible first | exact HB.out | apply below_alloc | apply pw_below_drewN | apply below_drew1 | refine below_set ?_ GE130.out | refine below_set ?_ GE131.out | refine below_set ?_ GE132.out | refine below_set ?_ GE134.out) | exact HB.out)⟩⟩
        ·rw [if_neg c20] at H
         exact absurd H (by simp)
       ·rw [if_neg c19] at H
        have c19b0 : decide (((rd_T50 l0_3 x22_1).f0) < a2) = false := decide_eq_false c19
        clear c19
        have H' := Aside0.mk H
        clear H
        have p133 : 0 ≤ (x22_1 : Int) := of_decide_eq_true (by first | (with_reducible assumption) | assumption)
        have q133 : x22_1 < (l0_3.length : Int) := of_decide_eq_true (by first | (with_reducible assumption) | assumption)
        obtain ⟨ad133, e133, hx133_0, hx133_1⟩ := at_T50 HR0_3.out x22_1 p133 q133
        cases e133
        replace hx133_0 := (HB.out.cell (World.block_lt_of_cell? w _ hx133_0)).trans hx133_0
        replace hx133_1 := (HB.out.cell (World.block_lt_of_cell? w _ hx133_1)).trans hx133_1
        replace p133 := eq_true p133
        replace q133 := eq_true q133
        go_wp2_with (first | ((with_reducible refine gate_dst (N := 9) rfl ?_); refine box_event ?hg (N := 9) ?hd (cs := #[.int .i64 0, .int .i64 0]) (t := 50) ?hr ?_; (case hd => rfl); (case hg => rfl); (case hr => first | (go_simp; done) | (go_simp; rfl)); intro gb134 hg w32 hbox hb; have n0_ := Aside0.mk (Kd.R_below (Kd.R_elderB (kr_ HO_133003) gb134 (Nat.le_of_eq hg.symm)) hb); have n1_ := (bb_ BK130 hb); have n2_ := (bb_ BK131 hb); have n3_ := (bb_ BK132 hb); have n4_ := Aside0.mk (below_step (hb_ HB) hb); have n5_ := Aside0.mk (hbox); have n6_ := Aside0.mk ((by rw [hg]; exact (below_size (hb_ HB)) : w.heap.size ≤ gb134)); have n7_ := Aside0.mk ((by rw [hg]; exact (below_size (hb_ HB)) : w.heap.size ≤ gb134)); have n8_ := (nlt_ BK130 hg); have n9_ := (ngt_ BK130 hg); have n10_ := (nlt_ BK131 hg); have n11_ := (ngt_ BK131 hg); have n12_ := (nlt_ BK132 hg); have n13_ := (ngt_ BK132 hg); clear HO_133003; clear BK130; clear BK131; clear BK132; clear HB; have HO_133003 := n0_; have BK130 := n1_; have BK131 := n2_; have BK132 := n3_; have HB := n4_; have BK134 := n5_; have GW134 := n6_; have GE134 := n7_; have NB130_134 := n8_; have NB134_130 := n9_; have NB131_134 := n10_; have NB134_131 := n11_; have NB132_134 := n12_; have NB134_132 := n13_; clear n0_ n1_ n2_ n3_ n4_ n5_ n6_ n7_ n8_ n9_ n10_ n11_ n12_ n13_; clear hb hbox hg; have hnb33 := NB134_130.out; have hnc33 := NB130_134.out; have hnb34 := NB134_131.out; have hnc34 := NB131_134.out; have hnb35 := NB134_132.out; have hnc35 := NB132_134.out; have hcz36_0 : w32.cell? ⟨gb134, 0, none⟩ = some (.int .i64 0) := bc_ BK134 0; have hcz36_1 : w32.cell? ⟨gb134, 1, none⟩ = some (.int .i64 0) := bc_ BK134 1; have hfz36_0 := blk_frozen BK134.out 0; have hfz36_1 := blk_frozen BK134.out 1))
        go_roundg k1
        case measure => have := HK1.out; omega
        case rel => exact ⟨(wrap64 (x22_1 + 1)), (x133003_1), (u133003), (by first | rfl | (simp; done) | (simp [*]; done)), H', ⟨by have := HK1.out; omega⟩, ⟨by (with_reducible repeat (first | apply Kd.R_alloc | apply Kd.R_drewN | apply Kd.R_drew)); exact Kd.R_mono (Kd.R_far (p := ⟨gb134, 1, none⟩) (Kd.R_far (p := ⟨gb134, 0, none⟩) (Kd.R_mono HO_133003.out (fun k_ hk => (⟨hk, hk.2⟩ : _ ∧ k_ ≠ gb134))) (fun _ hk => hk.2) (.int .i64 ((rd_T50 l0_3 x22_1).f0))) (fun _ hk => hk.2) (.int .i64 ((rd_T50 l0_3 x22_1).f1))) (fun _ hk => trivial)⟩, ⟨by (with_reducible repeat (first | refine blk_drewN ?_ _ | refine blk_drew ?_ | refine blk_alloc ?_ _)); refine blk_far ?_ NB130_134.out _; (with_reducible repeat (first | refine blk_drewN ?_ _ | refine blk_drew ?_ | refine blk_alloc ?_ _)); refine blk_far ?_ NB130_134.out _; (with_reducible repeat (first | refine blk_drewN ?_ _ | refine blk_drew ?_ | refine blk_alloc ?_ _)); exact BK130.out⟩, ⟨by (with_reducible repeat (first | refine blk_drewN ?_ _ | refine blk_drew ?_ | refine blk_alloc ?_ _)); refine blk_far ?_ NB131_134.out _; (with_reducible repeat (first | refine blk_drewN ?_ _ | refine blk_drew ?_ | refine blk_alloc ?_ _)); refine blk_far ?_ NB131_134.out _; (with_reducible repeat (first | refine blk_drewN ?_ _ | refine blk_drew ?_ | refine blk_alloc ?_ _)); exact BK131.out⟩, ⟨by (with_reducible repeat (first | refine blk_drewN ?_ _ | refine blk_drew ?_ | refine blk_alloc ?_ _)); refine blk_far ?_ NB132_134.out _; (with_reducible repeat (first | refine blk_drewN ?_ _ | refine blk_drew ?_ | refine blk_alloc ?_ _)); refine blk_far ?_ NB132_134.out _; (with_reducible repeat (first | refine blk_drewN ?_ _ | refine blk_drew ?_ | refine blk_alloc ?_ _)); exact BK132.out⟩, ⟨by repeat (first | (with_reducible first | exact HB.out | apply below_alloc | apply pw_below_drewN | apply below_drew1 | refine below_set ?_ GE130.out | refine below_set ?_ GE131.out | refine below_set ?_ GE132.out | refine below_set ?_ GE134.out) | exact HB.out)⟩⟩
      ·rw [if_neg c18] at H
       have c18b0 : decide (a1 ≤ ((rd_T50 l0_3 x22_1).f0)) = false := decide_eq_false c18
       clear c18
       have H' := Aside0.mk H
       clear H
       have p133 : 0 ≤ (x22_1 : Int) := of_decide_eq_true (by first | (with_reducible assumption) | assumption)
       have q133 : x22_1 < (l0_3.length : Int) := of_decide_eq_true (by first | (with_reducible assumption) | assumption)
       obtain ⟨ad133, e133, hx133_0, hx133_1⟩ := at_T50 HR0_3.out x22_1 p133 q133
       cases e133
       replace hx133_0 := (HB.out.cell (World.block_lt_of_cell? w _ hx133_0)).trans hx133_0
       replace hx133_1 := (HB.out.cell (World.block_lt_of_cell? w _ hx133_1)).trans hx133_1
       replace p133 := eq_true p133
       replace q133 := eq_true q133
       go_wp2_with (first | ((with_reducible refine gate_dst (N := 9) rfl ?_); refine box_event ?hg (N := 9) ?hd (cs := #[.int .i64 0, .int .i64 0]) (t := 50) ?hr ?_; (case hd => rfl); (case hg => rfl); (case hr => first | (go_simp; done) | (go_simp; rfl)); intro gb134 hg w37 hbox hb; have n0_ := Aside0.mk (Kd.R_below (Kd.R_elderB (kr_ HO_133003) gb134 (Nat.le_of_eq hg.symm)) hb); have n1_ := (bb_ BK130 hb); have n2_ := (bb_ BK131 hb); have n3_ := (bb_ BK132 hb); have n4_ := Aside0.mk (below_step (hb_ HB) hb); have n5_ := Aside0.mk (hbox); have n6_ := Aside0.mk ((by rw [hg]; exact (below_size (hb_ HB)) : w.heap.size ≤ gb134)); have n7_ := Aside0.mk ((by rw [hg]; exact (below_size (hb_ HB)) : w.heap.size ≤ gb134)); have n8_ := (nlt_ BK130 hg); have n9_ := (ngt_ BK130 hg); have n10_ := (nlt_ BK131 hg); have n11_ := (ngt_ BK131 hg); have n12_ := (nlt_ BK132 hg); have n13_ := (ngt_ BK132 hg); clear HO_133003; clear BK130; clear BK131; clear BK132; clear HB; have HO_133003 := n0_; have BK130 := n1_; have BK131 := n2_; have BK132 := n3_; have HB := n4_; have BK134 := n5_; have GW134 := n6_; have GE134 := n7_; have NB130_134 := n8_; have NB134_130 := n9_; have NB131_134 := n10_; have NB134_131 := n11_; have NB132_134 := n12_; have NB134_132 := n13_; clear n0_ n1_ n2_ n3_ n4_ n5_ n6_ n7_ n8_ n9_ n10_ n11_ n12_ n13_; clear hb hbox hg; have hnb38 := NB134_130.out; have hnc38 := NB130_134.out; have hnb39 := NB134_131.out; have hnc39 := NB131_134.out; have hnb40 := NB134_132.out; have hnc40 := NB132_134.out; have hcz41_0 : w37.cell? ⟨gb134, 0, none⟩ = some (.int .i64 0) := bc_ BK134 0; have hcz41_1 : w37.cell? ⟨gb134, 1, none⟩ = some (.int .i64 0) := bc_ BK134 1; have hfz41_0 := blk_frozen BK134.out 0; have hfz41_1 := blk_frozen BK134.out 1))
       go_roundg k1
       case measure => have := HK1.out; omega
       case rel => exact ⟨(wrap64 (x22_1 + 1)), (x133003_1), (u133003), (by first | rfl | (simp; done) | (simp [*]; done)), H', ⟨by have := HK1.out; omega⟩, ⟨by (with_reducible repeat (first | apply Kd.R_alloc | apply Kd.R_drewN | apply Kd.R_drew)); exact Kd.R_mono (Kd.R_far (p := ⟨gb134, 1, none⟩) (Kd.R_far (p := ⟨gb134, 0, none⟩) (Kd.R_mono HO_133003.out (fun k_ hk => (⟨hk, hk.2⟩ : _ ∧ k_ ≠ gb134))) (fun _ hk => hk.2) (.int .i64 ((rd_T50 l0_3 x22_1).f0))) (fun _ hk => hk.2) (.int .i64 ((rd_T50 l0_3 x22_1).f1))) (fun _ hk => trivial)⟩, ⟨by (with_reducible repeat (first | refine blk_drewN ?_ _ | refine blk_drew ?_ | refine blk_alloc ?_ _)); refine blk_far ?_ NB130_134.out _; (with_reducible repeat (first | refine blk_drewN ?_ _ | refine blk_drew ?_ | refine blk_alloc ?_ _)); refine blk_far ?_ NB130_134.out _; (with_reducible repeat (first | refine blk_drewN ?_ _ | refine blk_drew ?_ | refine blk_alloc ?_ _)); exact BK130.out⟩, ⟨by (with_reducible repeat (first | refine blk_drewN ?_ _ | refine blk_drew ?_ | refine blk_alloc ?_ _)); refine blk_far ?_ NB131_134.out _; (with_reducible repeat (first | refine blk_drewN ?_ _ | refine blk_drew ?_ | refine blk_alloc ?_ _)); refine blk_far ?_ NB131_134.out _; (with_reducible repeat (first | refine blk_drewN ?_ _ | refine blk_drew ?_ | refine blk_alloc ?_ _)); exact BK131.out⟩, ⟨by (with_reducible repeat (first | refine blk_drewN ?_ _ | refine blk_drew ?_ | refine blk_alloc ?_ _)); refine blk_far ?_ NB132_134.out _; (with_reducible repeat (first | refine blk_drewN ?_ _ | refine blk_drew ?_ | refine blk_alloc ?_ _)); refine blk_far ?_ NB132_134.out _; (with_reducible repeat (first | refine blk_drewN ?_ _ | refine blk_drew ?_ | refine blk_alloc ?_ _)); exact BK132.out⟩, ⟨by repeat (first | (with_reducible first | exact HB.out | apply below_alloc | apply pw_below_drewN | apply below_drew1 | refine below_set ?_ GE130.out | refine below_set ?_ GE131.out | refine below_set ?_ GE132.out | refine below_set ?_ GE134.out) | exact HB.out)⟩⟩
     ·rw [if_neg c17] at H
      exact absurd H (by simp)
    ·rw [if_neg c16] at H
     exact absurd H (by simp)
   ·rw [if_neg c15] at H
    have c15b0 : decide (x22_1 < (l0_3.length : Int)) = false := decide_eq_false c15
    clear c15
    simp only [Option.some.injEq, Prod.mk.injEq] at H
    obtain ⟨rfl, rfl, rfl, rfl⟩ := H
    have hnb42 := NB132_130.out
    have hnc42 := NB130_132.out
    have hnb43 := NB132_131.out
    have hnc43 := NB131_132.out
    have hcz44_0 : wr.cell? ⟨gb132, 0, none⟩ = some (.int .i64 a1) := bc_ BK132 0
    have hcz44_1 : wr.cell? ⟨gb132, 1, none⟩ = some (.int .i64 a2) := bc_ BK132 1
    have hcz44_2 : wr.cell? ⟨gb132, 2, none⟩ = some (.int .i64 ji5) := bc_ BK132 2
    have hcz44_3 : wr.cell? ⟨gb132, 3, none⟩ = some (u133003) := bc_ BK132 3
    have hfz44_0 := blk_frozen BK132.out 0
    have hfz44_1 := blk_frozen BK132.out 1
    have hfz44_2 := blk_frozen BK132.out 2
    have hfz44_3 := blk_frozen BK132.out 3
    have hnb45 := NB131_130.out
    have hnc45 := NB130_131.out
    have hcz46_0 : wr.cell? ⟨gb131, 0, none⟩ = some (.int .i64 0) := bc_ BK131 0
    have hcz46_1 : wr.cell? ⟨gb131, 1, none⟩ = some (.int .i64 0) := bc_ BK131 1
    have hcz46_2 : wr.cell? ⟨gb131, 2, none⟩ = some (.int .i64 0) := bc_ BK131 2
    have hcz46_3 : wr.cell? ⟨gb131, 3, none⟩ = some (.slice none 0 0) := bc_ BK131 3
    have hfz46_0 := blk_frozen BK131.out 0
    have hfz46_1 := blk_frozen BK131.out 1
    have hfz46_2 := blk_frozen BK131.out 2
    have hfz46_3 := blk_frozen BK131.out 3
    obtain ⟨Ao47, co47, eo47⟩ := Kd.R_slice HO_133003.out
    subst eo47
    go_wp2
    refine bodyPost_ret (results_cell_row rfl _ _ gb131 33 #[.int .i64 a1, .int .i64 a2, .int .i64 ji5, .slice Ao47 x133003_1.length co47] (0, 0) _ rfl (by (with_reducible repeat (first | refine blk_drewN ?_ _ | refine blk_drew ?_ | refine blk_alloc ?_ _)); refine blk_put (cs := #[.int .i64 a1, .int .i64 a2, .int .i64 ji5, .slice none 0 0]) ?_ 3 _ rfl; (with_reducible repeat (first | refine blk_drewN ?_ _ | refine blk_drew ?_ | refine blk_alloc ?_ _)); refine blk_put (cs := #[.int .i64 a1, .int .i64 a2, .int .i64 0, .slice none 0 0]) ?_ 2 _ rfl; (with_reducible repeat (first | refine blk_drewN ?_ _ | refine blk_drew ?_ | refine blk_alloc ?_ _)); refine blk_put (cs := #[.int .i64 a1, .int .i64 0, .int .i64 0, .slice none 0 0]) ?_ 1 _ rfl; (with_reducible repeat (first | refine blk_drewN ?_ _ | refine blk_drew ?_ | refine blk_alloc ?_ _)); refine blk_put (cs := #[.int .i64 0, .int .i64 0, .int .i64 0, .slice none 0 0]) ?_ 0 _ rfl; (with_reducible repeat (first | refine blk_drewN ?_ _ | refine blk_drew ?_ | refine blk_alloc ?_ _)); exact BK131.out) Try.underlying33 rfl (by kernel_rfl)) rfl ?_
    exact ⟨_, by first | rfl | (simp [errW_none, errW_some] <;> rfl) | (simp only [← hji4, ← hji5]; first | rfl | (simp [errW_none, errW_some] <;> rfl)) | (simp [*, errW_none, errW_some] <;> rfl), by (with_reducible repeat (first | apply Kd.R_alloc | apply Kd.R_drewN | apply Kd.R_drew)); exact Kd.R_mono (Kd.R_far (p := ⟨gb131, 3, none⟩) (Kd.R_far (p := ⟨gb131, 2, none⟩) (Kd.R_far (p := ⟨gb131, 1, none⟩) (Kd.R_far (p := ⟨gb131, 0, none⟩) (Kd.R_types HO_133003.out BK131.out (by decide)) (fun _ hk => hk.2) (.int .i64 a1)) (fun _ hk => hk.2) (.int .i64 a2)) (fun _ hk => hk.2) (.int .i64 ji5)) (fun _ hk => hk.2) (.slice Ao47 x133003_1.length co47)) (fun _ hk => trivial), by repeat (first | (with_reducible first | exact HB.out | apply below_alloc | apply pw_below_drewN | apply below_drew1 | refine below_set ?_ GE130.out | refine below_set ?_ GE131.out | refine below_set ?_ GE132.out) | exact HB.out)⟩

/-! ### quote_limits_valid: function 80 -/
def quote_limits_valid.f (a0_0 : Int) (a0_1 : Int) (a0_2 : Int) : Option (Bool) := if a0_0 ≥ 0 then (if a0_0 < a0_1 then (if a0_1 ≤ 52560000 then (if (wrap64 (a0_1 - a0_0)) ≤ 2880 then (if a0_2 ≥ 0 then (some (decide (a0_2 ≤ 480000))) else (some false)) else (some false)) else (some false)) else (some false)) else (some false)
set_option maxHeartbeats 8000000 in
set_option maxRecDepth 100000 in
theorem quote_limits_valid.calls (a0_0 : Int) (a0_1 : Int) (a0_2 : Int) (r : Bool) (w : World) (h : quote_limits_valid.f a0_0 a0_1 a0_2 = some r) :
  Calls Try.prog 80 #[.agg #[.int .i64 a0_0, .int .i64 a0_1, .int .i64 a0_2]] w fun e w' => e = .returned (.bool r) ∧ Below w.heap.size w w' := by
 have hu109 := Try.underlying109
 have HB := Aside0.mk (Below.refl w.heap.size w)
 have H : (if a0_0 ≥ 0 then (if a0_0 < a0_1 then (if a0_1 ≤ 52560000 then (if (wrap64 (a0_1 - a0_0)) ≤ 2880 then (if a0_2 ≥ 0 then (some (decide (a0_2 ≤ 480000))) else (some false)) else (some false)) else (some false)) else (some false)) else (some false)) = some r := h
 clear h
 by_cases c2 : a0_0 ≥ 0
 ·rw [if_pos c2] at H
  have c2b0 : decide (0 ≤ a0_0) = true := decide_eq_true c2
  clear c2
  by_cases c3 : a0_0 < a0_1
  ·rw [if_pos c3] at H
   have c3b0 : decide (a0_0 < a0_1) = true := decide_eq_true c3
   clear c3
   by_cases c4 : a0_1 ≤ 52560000
   ·rw [if_pos c4] at H
    have c4b0 : decide (a0_1 ≤ 52560000) = true := decide_eq_true c4
    clear c4
    by_cases c5 : (wrap64 (a0_1 - a0_0)) ≤ 2880
    ·rw [if_pos c5] at H
     have c5b0 : decide ((wrap64 (a0_1 - a0_0)) ≤ 2880) = true := decide_eq_true c5
     clear c5
     by_cases c6 : a0_2 ≥ 0
     ·rw [if_pos c6] at H
      have c6b0 : decide (0 ≤ a0_2) = true := decide_eq_true c6
      clear c6
      obtain rfl := Option.some.inj H
      go_enter Try.func80, Try.ntmps80
      go_wp2_with (first | ((with_reducible refine gate_dst (N := 1) rfl ?_); refine box_event ?hg (N := 1) ?hd (cs := #[.int .i64 a0_0, .int .i64 a0_1, .int .i64 a0_2]) (t := 109) ?hr ?_; (case hd => rfl); (case hg => rfl); (case hr => first | (go_simp; done) | (go_simp; rfl)); intro gb138 hg w7 hbox hb; have n0_ := Aside0.mk (below_step (hb_ HB) hb); have n1_ := Aside0.mk (hbox); have n2_ := Aside0.mk ((by rw [hg]; exact (below_size (hb_ HB)) : w.heap.size ≤ gb138)); have n3_ := Aside0.mk ((by rw [hg]; exact (below_size (hb_ HB)) : w.heap.size ≤ gb138)); clear HB; have HB := n0_; have BK138 := n1_; have GW138 := n2_; have GE138 := n3_; clear n0_ n1_ n2_ n3_; clear hb hbox hg; have hcz8_0 : w7.cell? ⟨gb138, 0, none⟩ = some (.int .i64 a0_0) := bc_ BK138 0; have hcz8_1 : w7.cell? ⟨gb138, 1, none⟩ = some (.int .i64 a0_1) := bc_ BK138 1; have hcz8_2 : w7.cell? ⟨gb138, 2, none⟩ = some (.int .i64 a0_2) := bc_ BK138 2; have hfz8_0 := blk_frozen BK138.out 0; have hfz8_1 := blk_frozen BK138.out 1; have hfz8_2 := blk_frozen BK138.out 2))
      go_ret
      exact ⟨by first | rfl | (simp [errW_none, errW_some] <;> rfl) | (simp [*, errW_none, errW_some] <;> rfl), by repeat (first | (with_reducible first | exact HB.out | apply below_alloc | apply pw_below_drewN | apply below_drew1 | refine below_set ?_ GE138.out) | exact HB.out)⟩
     ·rw [if_neg c6] at H
      have c6b0 : decide (0 ≤ a0_2) = false := decide_eq_false c6
      clear c6
      obtain rfl := Option.some.inj H
      go_enter Try.func80, Try.ntmps80
      go_wp2_with (first | ((with_reducible refine gate_dst (N := 1) rfl ?_); refine box_event ?hg (N := 1) ?hd (cs := #[.int .i64 a0_0, .int .i64 a0_1, .int .i64 a0_2]) (t := 109) ?hr ?_; (case hd => rfl); (case hg => rfl); (case hr => first | (go_simp; done) | (go_simp; rfl)); intro gb138 hg w9 hbox hb; have n0_ := Aside0.mk (below_step (hb_ HB) hb); have n1_ := Aside0.mk (hbox); have n2_ := Aside0.mk ((by rw [hg]; exact (below_size (hb_ HB)) : w.heap.size ≤ gb138)); have n3_ := Aside0.mk ((by rw [hg]; exact (below_size (hb_ HB)) : w.heap.size ≤ gb138)); clear HB; have HB := n0_; have BK138 := n1_; have GW138 := n2_; have GE138 := n3_; clear n0_ n1_ n2_ n3_; clear hb hbox hg; have hcz10_0 : w9.cell? ⟨gb138, 0, none⟩ = some (.int .i64 a0_0) := bc_ BK138 0; have hcz10_1 : w9.cell? ⟨gb138, 1, none⟩ = some (.int .i64 a0_1) := bc_ BK138 1; have hcz10_2 : w9.cell? ⟨gb138, 2, none⟩ = some (.int .i64 a0_2) := bc_ BK138 2; have hfz10_0 := blk_frozen BK138.out 0; have hfz10_1 := blk_frozen BK138.out 1; have hfz10_2 := blk_frozen BK138.out 2))
      go_ret
      exact ⟨by first | rfl | (simp [errW_none, errW_some] <;> rfl) | (simp [*, errW_none, errW_some] <;> rfl), by repeat (first | (with_reducible first | exact HB.out | apply below_alloc | apply pw_below_drewN | apply below_drew1 | refine below_set ?_ GE138.out) | exact HB.out)⟩
    ·rw [if_neg c5] at H
     have c5b0 : decide ((wrap64 (a0_1 - a0_0)) ≤ 2880) = false := decide_eq_false c5
     clear c5
     obtain rfl := Option.some.inj H
     go_enter Try.func80, Try.ntmps80
     go_wp2_with (first | ((with_reducible refine gate_dst (N := 1) rfl ?_); refine box_event ?hg (N := 1) ?hd (cs := #[.int .i64 a0_0, .int .i64 a0_1, .int .i64 a0_2]) (t := 109) ?hr ?_; (case hd => rfl); (case hg => rfl); (case hr => first | (go_simp; done) | (go_simp; rfl)); intro gb138 hg w11 hbox hb; have n0_ := Aside0.mk (below_step (hb_ HB) hb); have n1_ := Aside0.mk (hbox); have n2_ := Aside0.mk ((by rw [hg]; exact (below_size (hb_ HB)) : w.heap.size ≤ gb138)); have n3_ := Aside0.mk ((by rw [hg]; exact (below_size (hb_ HB)) : w.heap.size ≤ gb138)); clear HB; have HB := n0_; have BK138 := n1_; have GW138 := n2_; have GE138 := n3_; clear n0_ n1_ n2_ n3_; clear hb hbox hg; have hcz12_0 : w11.cell? ⟨gb138, 0, none⟩ = some (.int .i64 a0_0) := bc_ BK138 0; have hcz12_1 : w11.cell? ⟨gb138, 1, none⟩ = some (.int .i64 a0_1) := bc_ BK138 1; have hcz12_2 : w11.cell? ⟨gb138, 2, none⟩ = some (.int .i64 a0_2) := bc_ BK138 2; have hfz12_0 := blk_frozen BK138.out 0; have hfz12_1 := blk_frozen BK138.out 1; have hfz12_2 := blk_frozen BK138.out 2))
     go_ret
     exact ⟨by first | rfl | (simp [errW_none, errW_some] <;> rfl) | (simp [*, errW_none, errW_some] <;> rfl), by repeat (first | (with_reducible first | exact HB.out | apply below_alloc | apply pw_below_drewN | apply below_drew1 | refine below_set ?_ GE138.out) | exact HB.out)⟩
   ·rw [if_neg c4] at H
    have c4b0 : decide (a0_1 ≤ 52560000) = false := decide_eq_false c4
    clear c4
    obtain rfl := Option.some.inj H
    go_enter Try.func80, Try.ntmps80
    go_wp2_with (first | ((with_reducible refine gate_dst (N := 1) rfl ?_); refine box_event ?hg (N := 1) ?hd (cs := #[.int .i64 a0_0, .int .i64 a0_1, .int .i64 a0_2]) (t := 109) ?hr ?_; (case hd => rfl); (case hg => rfl); (case hr => first | (go_simp; done) | (go_simp; rfl)); intro gb138 hg w13 hbox hb; have n0_ := Aside0.mk (below_step (hb_ HB) hb); have n1_ := Aside0.mk (hbox); have n2_ := Aside0.mk ((by rw [hg]; exact (below_size (hb_ HB)) : w.heap.size ≤ gb138)); have n3_ := Aside0.mk ((by rw [hg]; exact (below_size (hb_ HB)) : w.heap.size ≤ gb138)); clear HB; have HB := n0_; have BK138 := n1_; have GW138 := n2_; have GE138 := n3_; clear n0_ n1_ n2_ n3_; clear hb hbox hg; have hcz14_0 : w13.cell? ⟨gb138, 0, none⟩ = some (.int .i64 a0_0) := bc_ BK138 0; have hcz14_1 : w13.cell? ⟨gb138, 1, none⟩ = some (.int .i64 a0_1) := bc_ BK138 1; have hcz14_2 : w13.cell? ⟨gb138, 2, none⟩ = some (.int .i64 a0_2) := bc_ BK138 2; have hfz14_0 := blk_frozen BK138.out 0; have hfz14_1 := blk_frozen BK138.out 1; have hfz14_2 := blk_frozen BK138.out 2))
    go_ret
    exact ⟨by first | rfl | (simp [errW_none, errW_some] <;> rfl) | (simp [*, errW_none, errW_some] <;> rfl), by repeat (first | (with_reducible first | exact HB.out | apply below_alloc | apply pw_below_drewN | apply below_drew1 | refine below_set ?_ GE138.out) | exact HB.out)⟩
  ·rw [if_neg c3] at H
   have c3b0 : decide (a0_0 < a0_1) = false := decide_eq_false c3
   clear c3
   obtain rfl := Option.some.inj H
   go_enter Try.func80, Try.ntmps80
   go_wp2_with (first | ((with_reducible refine gate_dst (N := 1) rfl ?_); refine box_event ?hg (N := 1) ?hd (cs := #[.int .i64 a0_0, .int .i64 a0_1, .int .i64 a0_2]) (t := 109) ?hr ?_; (case hd => rfl); (case hg => rfl); (case hr => first | (go_simp; done) | (go_simp; rfl)); intro gb138 hg w15 hbox hb; have n0_ := Aside0.mk (below_step (hb_ HB) hb); have n1_ := Aside0.mk (hbox); have n2_ := Aside0.mk ((by rw [hg]; exact (below_size (hb_ HB)) : w.heap.size ≤ gb138)); have n3_ := Aside0.mk ((by rw [hg]; exact (below_size (hb_ HB)) : w.heap.size ≤ gb138)); clear HB; have HB := n0_; have BK138 := n1_; have GW138 := n2_; have GE138 := n3_; clear n0_ n1_ n2_ n3_; clear hb hbox hg; have hcz16_0 : w15.cell? ⟨gb138, 0, none⟩ = some (.int .i64 a0_0) := bc_ BK138 0; have hcz16_1 : w15.cell? ⟨gb138, 1, none⟩ = some (.int .i64 a0_1) := bc_ BK138 1; have hcz16_2 : w15.cell? ⟨gb138, 2, none⟩ = some (.int .i64 a0_2) := bc_ BK138 2; have hfz16_0 := blk_frozen BK138.out 0; have hfz16_1 := blk_frozen BK138.out 1; have hfz16_2 := blk_frozen BK138.out 2))
   go_ret
   exact ⟨by first | rfl | (simp [errW_none, errW_some] <;> rfl) | (simp [*, errW_none, errW_some] <;> rfl), by repeat (first | (with_reducible first | exact HB.out | apply below_alloc | apply pw_below_drewN | apply below_drew1 | refine below_set ?_ GE138.out) | exact HB.out)⟩
 ·rw [if_neg c2] at H
  have c2b0 : decide (0 ≤ a0_0) = false := decide_eq_false c2
  clear c2
  obtain rfl := Option.some.inj H
  go_enter Try.func80, Try.ntmps80
  go_wp2_with (first | ((with_reducible refine gate_dst (N := 1) rfl ?_); refine box_event ?hg (N := 1) ?hd (cs := #[.int .i64 a0_0, .int .i64 a0_1, .int .i64 a0_2]) (t := 109) ?hr ?_; (case hd => rfl); (case hg => rfl); (case hr => first | (go_simp; done) | (go_simp; rfl)); intro gb138 hg w17 hbox hb; have n0_ := Aside0.mk (below_step (hb_ HB) hb); have n1_ := Aside0.mk (hbox); have n2_ := Aside0.mk ((by rw [hg]; exact (below_size (hb_ HB)) : w.heap.size ≤ gb138)); have n3_ := Aside0.mk ((by rw [hg]; exact (below_size (hb_ HB)) : w.heap.size ≤ gb138)); clear HB; have HB := n0_; have BK138 := n1_; have GW138 := n2_; have GE138 := n3_; clear n0_ n1_ n2_ n3_; clear hb hbox hg; have hcz18_0 : w17.cell? ⟨gb138, 0, none⟩ = some (.int .i64 a0_0) := bc_ BK138 0; have hcz18_1 : w17.cell? ⟨gb138, 1, none⟩ = some (.int .i64 a0_1) := bc_ BK138 1; have hcz18_2 : w17.cell? ⟨gb138, 2, none⟩ = some (.int .i64 a0_2) := bc_ BK138 2; have hfz18_0 := blk_frozen BK138.out 0; have hfz18_1 := blk_frozen BK138.out 1; have hfz18_2 := blk_frozen BK138.out 2))
  go_ret
  exact ⟨by first | rfl | (simp [errW_none, errW_some] <;> rfl) | (simp [*, errW_none, errW_some] <;> rfl), by repeat (first | (with_reducible first | exact HB.out | apply below_alloc | apply pw_below_drewN | apply below_drew1 | refine below_set ?_ GE138.out) | exact HB.out)⟩

/-! ### parser_kindOf: function 139 -/
def parser_kindOf.f (a0 : ByteArray) : Option (Int) := if a0.toList = ([102, 101, 101, 100, 101, 114] : List UInt8) then (some 1) else (if a0.toList = ([99, 97, 98, 108, 101] : List UInt8) then (some 2) else (if a0.toList = ([111, 119, 110, 101, 114] : List UInt8) then (some 3) else (if a0.toList = ([99, 111, 110, 116, 114, 97, 99, 116] : List UInt8) then (some 4) else (if a0.toList = ([99, 104, 97, 114, 103, 101, 114] : List UInt8) then (some 5) else (if a0.toList = ([98, 97, 121] : List UInt8) then (some 6) else (if a0.toList = ([116, 97, 114, 105, 102, 102] : List UInt8) then (some 7) else (some 0)))))))
set_option maxHeartbeats 8000000 in
set_option maxRecDepth 100000 in
theorem parser_kindOf.calls (a0 : ByteArray) (r : Int) (w : World) (h : parser_kindOf.f a0 = some r) :
  Calls Try.prog 139 #[.string a0] w fun e w' => e = .returned (.int .i64 r) ∧ Drawn0 w w' := by
 have H : (if a0.toList = ([102, 101, 101, 100, 101, 114] : List UInt8) then (some 1) else (if a0.toList = ([99, 97, 98, 108, 101] : List UInt8) then (some 2) else (if a0.toList = ([111, 119, 110, 101, 114] : List UInt8) then (some 3) else (if a0.toList = ([99, 111, 110, 116, 114, 97, 99, 116] : List UInt8) then (some 4) else (if a0.toList = ([99, 104, 97, 114, 103, 101, 114] : List UInt8) then (some 5) else (if a0.toList = ([98, 97, 121] : List UInt8) then (some 6) else (if a0.toList = ([116, 97, 114, 105, 102, 102] : List UInt8) then (some 7) else (some 0)))))))) = some r := h
 clear h
 by_cases c2 : a0.toList = ([102, 101, 101, 100, 101, 114] : List UInt8)
 ·rw [if_pos c2] at H
  have c2b0 : (a0.toList == ([102, 101, 101, 100, 101, 114] : List UInt8)) = true := beq_iff_eq.mpr c2
  have c2b1 : (a0.toList != ([102, 101, 101, 100, 101, 114] : List UInt8)) = false := bne_eq_false_iff_eq.mpr c2
  clear c2
  obtain rfl := Option.some.inj H
  go_enter Try.func139, Try.ntmps139
  go_wp2
  go_ret
  exact ⟨by first | rfl | (simp; done) | (simp [*]; done), by repeat (first | exact Drawn0.refl _ | apply Drawn0.step)⟩
 ·rw [if_neg c2] at H
  have c2b0 : (a0.toList == ([102, 101, 101, 100, 101, 114] : List UInt8)) = false := beq_eq_false_iff_ne.mpr c2
  have c2b1 : (a0.toList != ([102, 101, 101, 100, 101, 114] : List UInt8)) = true := bne_iff_ne.mpr c2
  by_cases c3 : a0.toList = ([99, 97, 98, 108, 101] : List UInt8)
  ·rw [if_pos c3] at H
   have c3b0 : (a0.toList == ([99, 97, 98, 108, 101] : List UInt8)) = true := beq_iff_eq.mpr c3
   have c3b1 : (a0.toList != ([99, 97, 98, 108, 101] : List UInt8)) = false := bne_eq_false_iff_eq.mpr c3
   clear c3
   obtain rfl := Option.some.inj H
   go_enter Try.func139, Try.ntmps139
   go_wp2
   go_ret
   exact ⟨by first | rfl | (simp; done) | (simp [*]; done), by repeat (first | exact Drawn0.refl _ | apply Drawn0.step)⟩
  ·rw [if_neg c3] at H
   have c3b0 : (a0.toList == ([99, 97, 98, 108, 101] : List UInt8)) = false := beq_eq_false_iff_ne.mpr c3
   have c3b1 : (a0.toList != ([99, 97, 98, 108, 101] : List UInt8)) = true := bne_iff_ne.mpr c3
   by_cases c4 : a0.toList = ([111, 119, 110, 101, 114] : List UInt8)
   ·rw [if_pos c4] at H
    have c4b0 : (a0.toList == ([111, 119, 110, 101, 114] : List UInt8)) = true := beq_iff_eq.mpr c4
    have c4b1 : (a0.toList != ([111, 119, 110, 101, 114] : List UInt8)) = false := bne_eq_false_iff_eq.mpr c4
    clear c4
    obtain rfl := Option.some.inj H
    go_enter Try.func139, Try.ntmps139
    go_wp2
    go_ret
    exact ⟨by first | rfl | (simp; done) | (simp [*]; done), by repeat (first | exact Drawn0.refl _ | apply Drawn0.step)⟩
   ·rw [if_neg c4] at H
    have c4b0 : (a0.toList == ([111, 119, 110, 101, 114] : List UInt8)) = false := beq_eq_false_iff_ne.mpr c4
    have c4b1 : (a0.toList != ([111, 119, 110, 101, 114] : List UInt8)) = true := bne_iff_ne.mpr c4
    by_cases c5 : a0.toList = ([99, 111, 110, 116, 114, 97, 99, 116] : List UInt8)
    ·rw [if_pos c5] at H
     have c5b0 : (a0.toList == ([99, 111, 110, 116, 114, 97, 99, 116] : List UInt8)) = true := beq_iff_eq.mpr c5
     have c5b1 : (a0.toList != ([99, 111, 110, 116, 114, 97, 99, 116] : List UInt8)) = false := bne_eq_false_iff_eq.mpr c5
     clear c5
     obtain rfl := Option.some.inj H
     go_enter Try.func139, Try.ntmps139
     go_wp2
     go_ret
     exact ⟨by first | rfl | (simp; done) | (simp [*]; done), by repeat (first | exact Drawn0.refl _ | apply Drawn0.step)⟩
    ·rw [if_neg c5] at H
     have c5b0 : (a0.toList == ([99, 111, 110, 116, 114, 97, 99, 116] : List UInt8)) = false := beq_eq_false_iff_ne.mpr c5
     have c5b1 : (a0.toList != ([99, 111, 110, 116, 114, 97, 99, 116] : List UInt8)) = true := bne_iff_ne.mpr c5
     by_cases c6 : a0.toList = ([99, 104, 97, 114, 103, 101, 114] : List UInt8)
     ·rw [if_pos c6] at H
      have c6b0 : (a0.toList == ([99, 104, 97, 114, 103, 101, 114] : List UInt8)) = true := beq_iff_eq.mpr c6
      have c6b1 : (a0.toList != ([99, 104, 97, 114, 103, 101, 114] : List UInt8)) = false := bne_eq_false_iff_eq.mpr c6
      clear c6
      obtain rfl := Option.some.inj H
      go_enter Try.func139, Try.ntmps139
      go_wp2
      go_ret
      exact ⟨by first | rfl | (simp; done) | (simp [*]; done), by repeat (first | exact Drawn0.refl _ | apply Drawn0.step)⟩
     ·rw [if_neg c6] at H
      have c6b0 : (a0.toList == ([99, 104, 97, 114, 103, 101, 114] : List UInt8)) = false := beq_eq_false_iff_ne.mpr c6
      have c6b1 : (a0.toList != ([99, 104, 97, 114, 103, 101, 114] : List UInt8)) = true := bne_iff_ne.mpr c6
      by_cases c7 : a0.toList = ([98, 97, 121] : List UInt8)
      ·rw [if_pos c7] at H
       have c7b0 : (a0.toList == ([98, 97, 121] : List UInt8)) = true := beq_iff_eq.mpr c7
       have c7b1 : (a0.toList != ([98, 97, 121] : List UInt8)) = false := bne_eq_false_iff_eq.mpr c7
       clear c7
       obtain rfl := Option.some.inj H
       go_enter Try.func139, Try.ntmps139
       go_wp2
       go_ret
       exact ⟨by first | rfl | (simp; done) | (simp [*]; done), by repeat (first | exact Drawn0.refl _ | apply Drawn0.step)⟩
      ·rw [if_neg c7] at H
       have c7b0 : (a0.toList == ([98, 97, 121] : List UInt8)) = false := beq_eq_false_iff_ne.mpr c7
       have c7b1 : (a0.toList != ([98, 97, 121] : List UInt8)) = true := bne_iff_ne.mpr c7
       by_cases c8 : a0.toList = ([116, 97, 114, 105, 102, 102] : List UInt8)
       ·rw [if_pos c8] at H
        have c8b0 : (a0.toList == ([116, 97, 114, 105, 102, 102] : List UInt8)) = true := beq_iff_eq.mpr c8
        have c8b1 : (a0.toList != ([116, 97, 114, 105, 102, 102] : List UInt8)) = false := bne_eq_false_iff_eq.mpr c8
        clear c8
        obtain rfl := Option.some.inj H
        go_enter Try.func139, Try.ntmps139
        go_wp2
        go_ret
        exact ⟨by first | rfl | (simp; done) | (simp [*]; done), by repeat (first | exact Drawn0.refl _ | apply Drawn0.step)⟩
       ·rw [if_neg c8] at H
        have c8b0 : (a0.toList == ([116, 97, 114, 105, 102, 102] : List UInt8)) = false := beq_eq_false_iff_ne.mpr c8
        have c8b1 : (a0.toList != ([116, 97, 114, 105, 102, 102] : List UInt8)) = true := bne_iff_ne.mpr c8
        obtain rfl := Option.some.inj H
        go_enter Try.func139, Try.ntmps139
        go_wp2
        go_ret
        exact ⟨by first | rfl | (simp; done) | (simp [*]; done), by repeat (first | exact Drawn0.refl _ | apply Drawn0.step)⟩

/-! ### parser_isAttr: function 140 -/
def parser_isAttr.f (a0 : ByteArray) : Option (Bool) := if a0.toList = ([108, 105, 109, 105, 116] : List UInt8) then (some true) else (if a0.toList = ([110, 101, 117, 116, 114, 97, 108] : List UInt8) then (some true) else (if a0.toList = ([102, 117, 115, 101] : List UInt8) then (some true) else (if a0.toList = ([116, 104, 101, 114, 109, 97, 108] : List UInt8) then (some true) else (if a0.toList = ([102, 114, 111, 109] : List UInt8) then (some true) else (if a0.toList = ([97, 116] : List UInt8) then (some true) else (if a0.toList = ([112, 104, 97, 115, 101, 115] : List UInt8) then (some true) else (if a0.toList = ([97, 109, 112, 115] : List UInt8) then (some true) else (if a0.toList = ([102, 97, 108, 108, 98, 97, 99, 107] : List UInt8) then (some true) else (if a0.toList = ([111, 119, 110, 101, 114] : List UInt8) then (some true) else (if a0.toList = ([99, 97, 114, 100] : List UInt8) then (some true) else (if a0.toList = ([114, 97, 110, 107] : List UInt8) then (some true) else (if a0.toList = ([99, 104, 97, 114, 103, 101, 114] : List UInt8) then (some true) else (some false)))))))))))))
set_option maxHeartbeats 8000000 in
set_option maxRecDepth 100000 in
theorem parser_isAttr.calls (a0 : ByteArray) (r : Bool) (w : World) (h : parser_isAttr.f a0 = some r) :
  Calls Try.prog 140 #[.string a0] w fun e w' => e = .returned (.bool r) ∧ Drawn0 w w' := by
 have H : (if a0.toList = ([108, 105, 109, 105, 116] : List UInt8) then (some true) else (if a0.toList = ([110, 101, 117, 116, 114, 97, 108] : List UInt8) then (some true) else (if a0.toList = ([102, 117, 115, 101] : List UInt8) then (some true) else (if a0.toList = ([116, 104, 101, 114, 109, 97, 108] : List UInt8) then (some true) else (if a0.toList = ([102, 114, 111, 109] : List UInt8) then (some true) else (if a0.toList = ([97, 116] : List UInt8) then (some true) else (if a0.toList = ([112, 104, 97, 115, 101, 115] : List UInt8) then (some true) else (if a0.toList = ([97, 109, 112, 115] : List UInt8) then (some true) else (if a0.toList = ([102, 97, 108, 108, 98, 97, 99, 107] : List UInt8) then (some true) else (if a0.toList = ([111, 119, 110, 101, 114] : List UInt8) then (some true) else (if a0.toList = ([99, 97, 114, 100] : List UInt8) then (some true) else (if a0.toList = ([114, 97, 110, 107] : List UInt8) then (some true) else (if a0.toList = ([99, 104, 97, 114, 103, 101, 114] : List UInt8) then (some true) else (some false)))))))))))))) = some r := h
 clear h
 by_cases c2 : a0.toList = ([108, 105, 109, 105, 116] : List UInt8)
 ·rw [if_pos c2] at H
  have c2b0 : (a0.toList == ([108, 105, 109, 105, 116] : List UInt8)) = true := beq_iff_eq.mpr c2
  have c2b1 : (a0.toList != ([108, 105, 109, 105, 116] : List UInt8)) = false := bne_eq_false_iff_eq.mpr c2
  clear c2
  obtain rfl := Option.some.inj H
  go_enter Try.func140, Try.ntmps140
  go_wp2
  go_ret
  exact ⟨by first | rfl | (simp; done) | (simp [*]; done), by repeat (first | exact Drawn0.refl _ | apply Drawn0.step)⟩
 ·rw [if_neg c2] at H
  have c2b0 : (a0.toList == ([108, 105, 109, 105, 116] : List UInt8)) = false := beq_eq_false_iff_ne.mpr c2
  have c2b1 : (a0.toList != ([108, 105, 109, 105, 116] : List UInt8)) = true := bne_iff_ne.mpr c2
  by_cases c3 : a0.toList = ([110, 101, 117, 116, 114, 97, 108] : List UInt8)
  ·rw [if_pos c3] at H
   have c3b0 : (a0.toList == ([110, 101, 117, 116, 114, 97, 108] : List UInt8)) = true := beq_iff_eq.mpr c3
   have c3b1 : (a0.toList != ([110, 101, 117, 116, 114, 97, 108] : List UInt8)) = false := bne_eq_false_iff_eq.mpr c3
   clear c3
   obtain rfl := Option.some.inj H
   go_enter Try.func140, Try.ntmps140
   go_wp2
   go_ret
   exact ⟨by first | rfl | (simp; done) | (simp [*]; done), by repeat (first | exact Drawn0.refl _ | apply Drawn0.step)⟩
  ·rw [if_neg c3] at H
   have c3b0 : (a0.toList == ([110, 101, 117, 116, 114, 97, 108] : List UInt8)) = false := beq_eq_false_iff_ne.mpr c3
   have c3b1 : (a0.toList != ([110, 101, 117, 116, 114, 97, 108] : List UInt8)) = true := bne_iff_ne.mpr c3
   by_cases c4 : a0.toList = ([102, 117, 115, 101] : List UInt8)
   ·rw [if_pos c4] at H
    have c4b0 : (a0.toList == ([102, 117, 115, 101] : List UInt8)) = true := beq_iff_eq.mpr c4
    have c4b1 : (a0.toList != ([102, 117, 115, 101] : List UInt8)) = false := bne_eq_false_iff_eq.mpr c4
    clear c4
    obtain rfl := Option.some.inj H
    go_enter Try.func140, Try.ntmps140
    go_wp2
    go_ret
    exact ⟨by first | rfl | (simp; done) | (simp [*]; done), by repeat (first | exact Drawn0.refl _ | apply Drawn0.step)⟩
   ·rw [if_neg c4] at H
    have c4b0 : (a0.toList == ([102, 117, 115, 101] : List UInt8)) = false := beq_eq_false_iff_ne.mpr c4
    have c4b1 : (a0.toList != ([102, 117, 115, 101] : List UInt8)) = true := bne_iff_ne.mpr c4
    by_cases c5 : a0.toList = ([116, 104, 101, 114, 109, 97, 108] : List UInt8)
    ·rw [if_pos c5] at H
     have c5b0 : (a0.toList == ([116, 104, 101, 114, 109, 97, 108] : List UInt8)) = true := beq_iff_eq.mpr c5
     have c5b1 : (a0.toList != ([116, 104, 101, 114, 109, 97, 108] : List UInt8)) = false := bne_eq_false_iff_eq.mpr c5
     clear c5
     obtain rfl := Option.some.inj H
     go_enter Try.func140, Try.ntmps140
     go_wp2
     go_ret
     exact ⟨by first | rfl | (simp; done) | (simp [*]; done), by repeat (first | exact Drawn0.refl _ | apply Drawn0.step)⟩
    ·rw [if_neg c5] at H
     have c5b0 : (a0.toList == ([116, 104, 101, 114, 109, 97, 108] : List UInt8)) = false := beq_eq_false_iff_ne.mpr c5
     have c5b1 : (a0.toList != ([116, 104, 101, 114, 109, 97, 108] : List UInt8)) = true := bne_iff_ne.mpr c5
     by_cases c6 : a0.toList = ([102, 114, 111, 109] : List UInt8)
     ·rw [if_pos c6] at H
      have c6b0 : (a0.toList == ([102, 114, 111, 109] : List UInt8)) = true := beq_iff_eq.mpr c6
      have c6b1 : (a0.toList != ([102, 114, 111, 109] : List UInt8)) = false := bne_eq_false_iff_eq.mpr c6
      clear c6
      obtain rfl := Option.some.inj H
      go_enter Try.func140, Try.ntmps140
      go_wp2
      go_ret
      exact ⟨by first | rfl | (simp; done) | (simp [*]; done), by repeat (first | exact Drawn0.refl _ | apply Drawn0.step)⟩
     ·rw [if_neg c6] at H
      have c6b0 : (a0.toList == ([102, 114, 111, 109] : List UInt8)) = false := beq_eq_false_iff_ne.mpr c6
      have c6b1 : (a0.toList != ([102, 114, 111, 109] : List UInt8)) = true := bne_iff_ne.mpr c6
      by_cases c7 : a0.toList = ([97, 116] : List UInt8)
      ·rw [if_pos c7] at H
       have c7b0 : (a0.toList == ([97, 116] : List UInt8)) = true := beq_iff_eq.mpr c7
       have c7b1 : (a0.toList != ([97, 116] : List UInt8)) = false := bne_eq_false_iff_eq.mpr c7
       clear c7
       obtain rfl := Option.some.inj H
       go_enter Try.func140, Try.ntmps140
       go_wp2
       go_ret
       exact ⟨by first | rfl | (simp; done) | (simp [*]; done), by repeat (first | exact Drawn0.refl _ | apply Drawn0.step)⟩
      ·rw [if_neg c7] at H
       have c7b0 : (a0.toList == ([97, 116] : List UInt8)) = false := beq_eq_false_iff_ne.mpr c7
       have c7b1 : (a0.toList != ([97, 116] : List UInt8)) = true := bne_iff_ne.mpr c7
       by_cases c8 : a0.toList = ([112, 104, 97, 115, 101, 115] : List UInt8)
       ·rw [if_pos c8] at H
        have c8b0 : (a0.toList == ([112, 104, 97, 115, 101, 115] : List UInt8)) = true := beq_iff_eq.mpr c8
        have c8b1 : (a0.toList != ([112, 104, 97, 115, 101, 115] : List UInt8)) = false := bne_eq_false_iff_eq.mpr c8
        clear c8
        obtain rfl := Option.some.inj H
        go_enter Try.func140, Try.ntmps140
        go_wp2
        go_ret
        exact ⟨by first | rfl | (simp; done) | (simp [*]; done), by repeat (first | exact Drawn0.refl _ | apply Drawn0.step)⟩
       ·rw [if_neg c8] at H
        have c8b0 : (a0.toList == ([112, 104, 97, 115, 101, 115] : List UInt8)) = false := beq_eq_false_iff_ne.mpr c8
        have c8b1 : (a0.toList != ([112, 104, 97, 115, 101, 115] : List UInt8)) = true := bne_iff_ne.mpr c8
        by_cases c9 : a0.toList = ([97, 109, 112, 115] : List UInt8)
        ·rw [if_pos c9] at H
         have c9b0 : (a0.toList == ([97, 109, 112, 115] : List UInt8)) = true := beq_iff_eq.mpr c9
         have c9b1 : (a0.toList != ([97, 109, 112, 115] : List UInt8)) = false := bne_eq_false_iff_eq.mpr c9
         clear c9
         obtain rfl := Option.some.inj H
         go_enter Try.func140, Try.ntmps140
         go_wp2
         go_ret
         exact ⟨by first | rfl | (simp; done) | (simp [*]; done), by repeat (first | exact Drawn0.refl _ | apply Drawn0.step)⟩
        ·rw [if_neg c9] at H
         have c9b0 : (a0.toList == ([97, 109, 112, 115] : List UInt8)) = false := beq_eq_false_iff_ne.mpr c9
         have c9b1 : (a0.toList != ([97, 109, 112, 115] : List UInt8)) = true := bne_iff_ne.mpr c9
         by_cases c10 : a0.toList = ([102, 97, 108, 108, 98, 97, 99, 107] : List UInt8)
         ·rw [if_pos c10] at H
          have c10b0 : (a0.toList == ([102, 97, 108, 108, 98, 97, 99, 107] : List UInt8)) = true := beq_iff_eq.mpr c10
          have c10b1 : (a0.toList != ([102, 97, 108, 108, 98, 97, 99, 107] : List UInt8)) = false := bne_eq_false_iff_eq.mpr c10
          clear c10
          obtain rfl := Option.some.inj H
          go_enter Try.func140, Try.ntmps140
          go_wp2
          go_ret
          exact ⟨by first | rfl | (simp; done) | (simp [*]; done), by repeat (first | exact Drawn0.refl _ | apply Drawn0.step)⟩
         ·rw [if_neg c10] at H
          have c10b0 : (a0.toList == ([102, 97, 108, 108, 98, 97, 99, 107] : List UInt8)) = false := beq_eq_false_iff_ne.mpr c10
          have c10b1 : (a0.toList != ([102, 97, 108, 108, 98, 97, 99, 107] : List UInt8)) = true := bne_iff_ne.mpr c10
          by_cases c11 : a0.toList = ([111, 119, 110, 101, 114] : List UInt8)
          ·rw [if_pos c11] at H
           have c11b0 : (a0.toList == ([111, 119, 110, 101, 114] : List UInt8)) = true := beq_iff_eq.mpr c11
           have c11b1 : (a0.toList != ([111, 119, 110, 101, 114] : List UInt8)) = false := bne_eq_false_iff_eq.mpr c11
           clear c11
           obtain rfl := Option.some.inj H
           go_enter Try.func140, Try.ntmps140
           go_wp2
           go_ret
           exact ⟨by first | rfl | (simp; done) | (simp [*]; done), by repeat (first | exact Drawn0.refl _ | apply Drawn0.step)⟩
          ·rw [if_neg c11] at H
           have c11b0 : (a0.toList == ([111, 119, 110, 101, 114] : List UInt8)) = false := beq_eq_false_iff_ne.mpr c11
           have c11b1 : (a0.toList != ([111, 119, 110, 101, 114] : List UInt8)) = true := bne_iff_ne.mpr c11
           by_cases c12 : a0.toList = ([99, 97, 114, 100] : List UInt8)
           ·rw [if_pos c12] at H
            have c12b0 : (a0.toList == ([99, 97, 114, 100] : List UInt8)) = true := beq_iff_eq.mpr c12
            have c12b1 : (a0.toList != ([99, 97, 114, 100] : List UInt8)) = false := bne_eq_false_iff_eq.mpr c12
            clear c12
            obtain rfl := Option.some.inj H
            go_enter Try.func140, Try.ntmps140
            go_wp2
            go_ret
            exact ⟨by first | rfl | (simp; done) | (simp [*]; done), by repeat (first | exact Drawn0.refl _ | apply Drawn0.step)⟩
           ·rw [if_neg c12] at H
            have c12b0 : (a0.toList == ([99, 97, 114, 100] : List UInt8)) = false := beq_eq_false_iff_ne.mpr c12
            have c12b1 : (a0.toList != ([99, 97, 114, 100] : List UInt8)) = true := bne_iff_ne.mpr c12
            by_cases c13 : a0.toList = ([114, 97, 110, 107] : List UInt8)
            ·rw [if_pos c13] at H
             have c13b0 : (a0.toList == ([114, 97, 110, 107] : List UInt8)) = true := beq_iff_eq.mpr c13
             have c13b1 : (a0.toList != ([114, 97, 110, 107] : List UInt8)) = false := bne_eq_false_iff_eq.mpr c13
             clear c13
             obtain rfl := Option.some.inj H
             go_enter Try.func140, Try.ntmps140
             go_wp2
             go_ret
             exact ⟨by first | rfl | (simp; done) | (simp [*]; done), by repeat (first | exact Drawn0.refl _ | apply Drawn0.step)⟩
            ·rw [if_neg c13] at H
             have c13b0 : (a0.toList == ([114, 97, 110, 107] : List UInt8)) = false := beq_eq_false_iff_ne.mpr c13
             have c13b1 : (a0.toList != ([114, 97, 110, 107] : List UInt8)) = true := bne_iff_ne.mpr c13
             by_cases c14 : a0.toList = ([99, 104, 97, 114, 103, 101, 114] : List UInt8)
             ·rw [if_pos c14] at H
              have c14b0 : (a0.toList == ([99, 104, 97, 114, 103, 101, 114] : List UInt8)) = true := beq_iff_eq.mpr c14
              have c14b1 : (a0.toList != ([99, 104, 97, 114, 103, 101, 114] : List UInt8)) = false := bne_eq_false_iff_eq.mpr c14
              clear c14
              obtain rfl := Option.some.inj H
              go_enter Try.func140, Try.ntmps140
              go_wp2
              go_ret
              exact ⟨by first | rfl | (simp; done) | (simp [*]; done), by repeat (first | exact Drawn0.refl _ | apply Drawn0.step)⟩
             ·rw [if_neg c14] at H
              have c14b0 : (a0.toList == ([99, 104, 97, 114, 103, 101, 114] : List UInt8)) = false := beq_eq_false_iff_ne.mpr c14
              have c14b1 : (a0.toList != ([99, 104, 97, 114, 103, 101, 114] : List UInt8)) = true := bne_iff_ne.mpr c14
              obtain rfl := Option.some.inj H
              go_enter Try.func140, Try.ntmps140
              go_wp2
              go_ret
              exact ⟨by first | rfl | (simp; done) | (simp [*]; done), by repeat (first | exact Drawn0.refl _ | apply Drawn0.step)⟩

/-! ### parser_isArticle: function 141 -/
def parser_isArticle.f (a0 : ByteArray) : Option (Bool) := if a0.toList = ([115, 116, 97, 114, 116] : List UInt8) then (some true) else (if a0.toList = ([101, 110, 101, 114, 103, 121] : List UInt8) then (some true) else (if a0.toList = ([116, 105, 109, 101] : List UInt8) then (some true) else (if a0.toList = ([105, 100, 108, 101] : List UInt8) then (some true) else (if a0.toList = ([99, 97, 112] : List UInt8) then (some true) else (if a0.toList = ([116, 97, 120] : List UInt8) then (some true) else (some false))))))
set_option maxHeartbeats 8000000 in
set_option maxRecDepth 100000 in
theorem parser_isArticle.calls (a0 : ByteArray) (r : Bool) (w : World) (h : parser_isArticle.f a0 = some r) :
  Calls Try.prog 141 #[.string a0] w fun e w' => e = .returned (.bool r) ∧ Drawn0 w w' := by
 have H : (if a0.toList = ([115, 116, 97, 114, 116] : List UInt8) then (some true) else (if a0.toList = ([101, 110, 101, 114, 103, 121] : List UInt8) then (some true) else (if a0.toList = ([116, 105, 109, 101] : List UInt8) then (some true) else (if a0.toList = ([105, 100, 108, 101] : List UInt8) then (some true) else (if a0.toList = ([99, 97, 112] : List UInt8) then (some true) else (if a0.toList = ([116, 97, 120] : List UInt8) then (some true) else (some false))))))) = some r := h
 clear h
 by_cases c2 : a0.toList = ([115, 116, 97, 114, 116] : List UInt8)
 ·rw [if_pos c2] at H
  have c2b0 : (a0.toList == ([115, 116, 97, 114, 116] : List UInt8)) = true := beq_iff_eq.mpr c2
  have c2b1 : (a0.toList != ([115, 116, 97, 114, 116] : List UInt8)) = false := bne_eq_false_iff_eq.mpr c2
  clear c2
  obtain rfl := Option.some.inj H
  go_enter Try.func141, Try.ntmps141
  go_wp2
  go_ret
  exact ⟨by first | rfl | (simp; done) | (simp [*]; done), by repeat (first | exact Drawn0.refl _ | apply Drawn0.step)⟩
 ·rw [if_neg c2] at H
  have c2b0 : (a0.toList == ([115, 116, 97, 114, 116] : List UInt8)) = false := beq_eq_false_iff_ne.mpr c2
  have c2b1 : (a0.toList != ([115, 116, 97, 114, 116] : List UInt8)) = true := bne_iff_ne.mpr c2
  by_cases c3 : a0.toList = ([101, 110, 101, 114, 103, 121] : List UInt8)
  ·rw [if_pos c3] at H
   have c3b0 : (a0.toList == ([101, 110, 101, 114, 103, 121] : List UInt8)) = true := beq_iff_eq.mpr c3
   have c3b1 : (a0.toList != ([101, 110, 101, 114, 103, 121] : List UInt8)) = false := bne_eq_false_iff_eq.mpr c3
   clear c3
   obtain rfl := Option.some.inj H
   go_enter Try.func141, Try.ntmps141
   go_wp2
   go_ret
   exact ⟨by first | rfl | (simp; done) | (simp [*]; done), by repeat (first | exact Drawn0.refl _ | apply Drawn0.step)⟩
  ·rw [if_neg c3] at H
   have c3b0 : (a0.toList == ([101, 110, 101, 114, 103, 121] : List UInt8)) = false := beq_eq_false_iff_ne.mpr c3
   have c3b1 : (a0.toList != ([101, 110, 101, 114, 103, 121] : List UInt8)) = true := bne_iff_ne.mpr c3
   by_cases c4 : a0.toList = ([116, 105, 109, 101] : List UInt8)
   ·rw [if_pos c4] at H
    have c4b0 : (a0.toList == ([116, 105, 109, 101] : List UInt8)) = true := beq_iff_eq.mpr c4
    have c4b1 : (a0.toList != ([116, 105, 109, 101] : List UInt8)) = false := bne_eq_false_iff_eq.mpr c4
    clear c4
    obtain rfl := Option.some.inj H
    go_enter Try.func141, Try.ntmps141
    go_wp2
    go_ret
    exact ⟨by first | rfl | (simp; done) | (simp [*]; done), by repeat (first | exact Drawn0.refl _ | apply Drawn0.step)⟩
   ·rw [if_neg c4] at H
    have c4b0 : (a0.toList == ([116, 105, 109, 101] : List UInt8)) = false := beq_eq_false_iff_ne.mpr c4
    have c4b1 : (a0.toList != ([116, 105, 109, 101] : List UInt8)) = true := bne_iff_ne.mpr c4
    by_cases c5 : a0.toList = ([105, 100, 108, 101] : List UInt8)
    ·rw [if_pos c5] at H
     have c5b0 : (a0.toList == ([105, 100, 108, 101] : List UInt8)) = true := beq_iff_eq.mpr c5
     have c5b1 : (a0.toList != ([105, 100, 108, 101] : List UInt8)) = false := bne_eq_false_iff_eq.mpr c5
     clear c5
     obtain rfl := Option.some.inj H
     go_enter Try.func141, Try.ntmps141
     go_wp2
     go_ret
     exact ⟨by first | rfl | (simp; done) | (simp [*]; done), by repeat (first | exact Drawn0.refl _ | apply Drawn0.step)⟩
    ·rw [if_neg c5] at H
     have c5b0 : (a0.toList == ([105, 100, 108, 101] : List UInt8)) = false := beq_eq_false_iff_ne.mpr c5
     have c5b1 : (a0.toList != ([105, 100, 108, 101] : List UInt8)) = true := bne_iff_ne.mpr c5
     by_cases c6 : a0.toList = ([99, 97, 112] : List UInt8)
     ·rw [if_pos c6] at H
      have c6b0 : (a0.toList == ([99, 97, 112] : List UInt8)) = true := beq_iff_eq.mpr c6
      have c6b1 : (a0.toList != ([99, 97, 112] : List UInt8)) = false := bne_eq_false_iff_eq.mpr c6
      clear c6
      obtain rfl := Option.some.inj H
      go_enter Try.func141, Try.ntmps141
      go_wp2
      go_ret
      exact ⟨by first | rfl | (simp; done) | (simp [*]; done), by repeat (first | exact Drawn0.refl _ | apply Drawn0.step)⟩
     ·rw [if_neg c6] at H
      have c6b0 : (a0.toList == ([99, 97, 112] : List UInt8)) = false := beq_eq_false_iff_ne.mpr c6
      have c6b1 : (a0.toList != ([99, 97, 112] : List UInt8)) = true := bne_iff_ne.mpr c6
      by_cases c7 : a0.toList = ([116, 97, 120] : List UInt8)
      ·rw [if_pos c7] at H
       have c7b0 : (a0.toList == ([116, 97, 120] : List UInt8)) = true := beq_iff_eq.mpr c7
       have c7b1 : (a0.toList != ([116, 97, 120] : List UInt8)) = false := bne_eq_false_iff_eq.mpr c7
       clear c7
       obtain rfl := Option.some.inj H
       go_enter Try.func141, Try.ntmps141
       go_wp2
       go_ret
       exact ⟨by first | rfl | (simp; done) | (simp [*]; done), by repeat (first | exact Drawn0.refl _ | apply Drawn0.step)⟩
      ·rw [if_neg c7] at H
       have c7b0 : (a0.toList == ([116, 97, 120] : List UInt8)) = false := beq_eq_false_iff_ne.mpr c7
       have c7b1 : (a0.toList != ([116, 97, 120] : List UInt8)) = true := bne_iff_ne.mpr c7
       obtain rfl := Option.some.inj H
       go_enter Try.func141, Try.ntmps141
       go_wp2
       go_ret
       exact ⟨by first | rfl | (simp; done) | (simp [*]; done), by repeat (first | exact Drawn0.refl _ | apply Drawn0.step)⟩

/-! ### parser_isWord: function 142 -/
def parser_isWord.f (a0 : ByteArray) : Option (Bool) := if a0.toList = ([111, 110] : List UInt8) then (some true) else (if a0.toList = ([119, 111, 114, 107] : List UInt8) then (some true) else (if a0.toList = ([115, 97, 116, 117, 114, 100, 97, 121] : List UInt8) then (some true) else (if a0.toList = ([115, 117, 110, 100, 97, 121] : List UInt8) then (some true) else (if a0.toList = ([98, 101, 116, 119, 101, 101, 110] : List UInt8) then (some true) else (if a0.toList = ([112, 101, 114] : List UInt8) then (some true) else (if a0.toList = ([102, 114, 101, 101] : List UInt8) then (some true) else (some false)))))))
set_option maxHeartbeats 8000000 in
set_option maxRecDepth 100000 in
theorem parser_isWord.calls (a0 : ByteArray) (r : Bool) (w : World) (h : parser_isWord.f a0 = some r) :
  Calls Try.prog 142 #[.string a0] w fun e w' => e = .returned (.bool r) ∧ Drawn0 w w' := by
 have H : (if a0.toList = ([111, 110] : List UInt8) then (some true) else (if a0.toList = ([119, 111, 114, 107] : List UInt8) then (some true) else (if a0.toList = ([115, 97, 116, 117, 114, 100, 97, 121] : List UInt8) then (some true) else (if a0.toList = ([115, 117, 110, 100, 97, 121] : List UInt8) then (some true) else (if a0.toList = ([98, 101, 116, 119, 101, 101, 110] : List UInt8) then (some true) else (if a0.toList = ([112, 101, 114] : List UInt8) then (some true) else (if a0.toList = ([102, 114, 101, 101] : List UInt8) then (some true) else (some false)))))))) = some r := h
 clear h
 by_cases c2 : a0.toList = ([111, 110] : List UInt8)
 ·rw [if_pos c2] at H
  have c2b0 : (a0.toList == ([111, 110] : List UInt8)) = true := beq_iff_eq.mpr c2
  have c2b1 : (a0.toList != ([111, 110] : List UInt8)) = false := bne_eq_false_iff_eq.mpr c2
  clear c2
  obtain rfl := Option.some.inj H
  go_enter Try.func142, Try.ntmps142
  go_wp2
  go_ret
  exact ⟨by first | rfl | (simp; done) | (simp [*]; done), by repeat (first | exact Drawn0.refl _ | apply Drawn0.step)⟩
 ·rw [if_neg c2] at H
  have c2b0 : (a0.toList == ([111, 110] : List UInt8)) = false := beq_eq_false_iff_ne.mpr c2
  have c2b1 : (a0.toList != ([111, 110] : List UInt8)) = true := bne_iff_ne.mpr c2
  by_cases c3 : a0.toList = ([119, 111, 114, 107] : List UInt8)
  ·rw [if_pos c3] at H
   have c3b0 : (a0.toList == ([119, 111, 114, 107] : List UInt8)) = true := beq_iff_eq.mpr c3
   have c3b1 : (a0.toList != ([119, 111, 114, 107] : List UInt8)) = false := bne_eq_false_iff_eq.mpr c3
   clear c3
   obtain rfl := Option.some.inj H
   go_enter Try.func142, Try.ntmps142
   go_wp2
   go_ret
   exact ⟨by first | rfl | (simp; done) | (simp [*]; done), by repeat (first | exact Drawn0.refl _ | apply Drawn0.step)⟩
  ·rw [if_neg c3] at H
   have c3b0 : (a0.toList == ([119, 111, 114, 107] : List UInt8)) = false := beq_eq_false_iff_ne.mpr c3
   have c3b1 : (a0.toList != ([119, 111, 114, 107] : List UInt8)) = true := bne_iff_ne.mpr c3
   by_cases c4 : a0.toList = ([115, 97, 116, 117, 114, 100, 97, 121] : List UInt8)
   ·rw [if_pos c4] at H
    have c4b0 : (a0.toList == ([115, 97, 116, 117, 114, 100, 97, 121] : List UInt8)) = true := beq_iff_eq.mpr c4
    have c4b1 : (a0.toList != ([115, 97, 116, 117, 114, 100, 97, 121] : List UInt8)) = false := bne_eq_false_iff_eq.mpr c4
    clear c4
    obtain rfl := Option.some.inj H
    go_enter Try.func142, Try.ntmps142
    go_wp2
    go_ret
    exact ⟨by first | rfl | (simp; done) | (simp [*]; done), by repeat (first | exact Drawn0.refl _ | apply Drawn0.step)⟩
   ·rw [if_neg c4] at H
    have c4b0 : (a0.toList == ([115, 97, 116, 117, 114, 100, 97, 121] : List UInt8)) = false := beq_eq_false_iff_ne.mpr c4
    have c4b1 : (a0.toList != ([115, 97, 116, 117, 114, 100, 97, 121] : List UInt8)) = true := bne_iff_ne.mpr c4
    by_cases c5 : a0.toList = ([115, 117, 110, 100, 97, 121] : List UInt8)
    ·rw [if_pos c5] at H
     have c5b0 : (a0.toList == ([115, 117, 110, 100, 97, 121] : List UInt8)) = true := beq_iff_eq.mpr c5
     have c5b1 : (a0.toList != ([115, 117, 110, 100, 97, 121] : List UInt8)) = false := bne_eq_false_iff_eq.mpr c5
     clear c5
     obtain rfl := Option.some.inj H
     go_enter Try.func142, Try.ntmps142
     go_wp2
     go_ret
     exact ⟨by first | rfl | (simp; done) | (simp [*]; done), by repeat (first | exact Drawn0.refl _ | apply Drawn0.step)⟩
    ·rw [if_neg c5] at H
     have c5b0 : (a0.toList == ([115, 117, 110, 100, 97, 121] : List UInt8)) = false := beq_eq_false_iff_ne.mpr c5
     have c5b1 : (a0.toList != ([115, 117, 110, 100, 97, 121] : List UInt8)) = true := bne_iff_ne.mpr c5
     by_cases c6 : a0.toList = ([98, 101, 116, 119, 101, 101, 110] : List UInt8)
     ·rw [if_pos c6] at H
      have c6b0 : (a0.toList == ([98, 101, 116, 119, 101, 101, 110] : List UInt8)) = true := beq_iff_eq.mpr c6
      have c6b1 : (a0.toList != ([98, 101, 116, 119, 101, 101, 110] : List UInt8)) = false := bne_eq_false_iff_eq.mpr c6
      clear c6
      obtain rfl := Option.some.inj H
      go_enter Try.func142, Try.ntmps142
      go_wp2
      go_ret
      exact ⟨by first | rfl | (simp; done) | (simp [*]; done), by repeat (first | exact Drawn0.refl _ | apply Drawn0.step)⟩
     ·rw [if_neg c6] at H
      have c6b0 : (a0.toList == ([98, 101, 116, 119, 101, 101, 110] : List UInt8)) = false := beq_eq_false_iff_ne.mpr c6
      have c6b1 : (a0.toList != ([98, 101, 116, 119, 101, 101, 110] : List UInt8)) = true := bne_iff_ne.mpr c6
      by_cases c7 : a0.toList = ([112, 101, 114] : List UInt8)
      ·rw [if_pos c7] at H
       have c7b0 : (a0.toList == ([112, 101, 114] : List UInt8)) = true := beq_iff_eq.mpr c7
       have c7b1 : (a0.toList != ([112, 101, 114] : List UInt8)) = false := bne_eq_false_iff_eq.mpr c7
       clear c7
       obtain rfl := Option.some.inj H
       go_enter Try.func142, Try.ntmps142
       go_wp2
       go_ret
       exact ⟨by first | rfl | (simp; done) | (simp [*]; done), by repeat (first | exact Drawn0.refl _ | apply Drawn0.step)⟩
      ·rw [if_neg c7] at H
       have c7b0 : (a0.toList == ([112, 101, 114] : List UInt8)) = false := beq_eq_false_iff_ne.mpr c7
       have c7b1 : (a0.toList != ([112, 101, 114] : List UInt8)) = true := bne_iff_ne.mpr c7
       by_cases c8 : a0.toList = ([102, 114, 101, 101] : List UInt8)
       ·rw [if_pos c8] at H
        have c8b0 : (a0.toList == ([102, 114, 101, 101] : List UInt8)) = true := beq_iff_eq.mpr c8
        have c8b1 : (a0.toList != ([102, 114, 101, 101] : List UInt8)) = false := bne_eq_false_iff_eq.mpr c8
        clear c8
        obtain rfl := Option.some.inj H
        go_enter Try.func142, Try.ntmps142
        go_wp2
        go_ret
        exact ⟨by first | rfl | (simp; done) | (simp [*]; done), by repeat (first | exact Drawn0.refl _ | apply Drawn0.step)⟩
       ·rw [if_neg c8] at H
        have c8b0 : (a0.toList == ([102, 114, 101, 101] : List UInt8)) = false := beq_eq_false_iff_ne.mpr c8
        have c8b1 : (a0.toList != ([102, 114, 101, 101] : List UInt8)) = true := bne_iff_ne.mpr c8
        obtain rfl := Option.some.inj H
        go_enter Try.func142, Try.ntmps142
        go_wp2
        go_ret
        exact ⟨by first | rfl | (simp; done) | (simp [*]; done), by repeat (first | exact Drawn0.refl _ | apply Drawn0.step)⟩

/-! ### slices_Min_int_int: function 96 -/
def slices_Min_int_int.l0 : Nat → List Int → Int → Int → Option (Int)
 | 0, _, _, _ => none
 | k + 1, x0, x3, x4 => if x4 < (x0.length : Int) then (if 0 ≤ x4 then (slices_Min_int_int.l0 k x0 (mn x3 (rd x0 x4)) (wrap64 (x4 + 1))) else (none)) else (some x3)
def slices_Min_int_int.f (k : Nat) (l0 : List Int) : Option (Int) := if (l0.length : Int) < 1 then (none) else (if 0 < (l0.length : Int) then (slices_Min_int_int.l0 k l0 (rd l0 0) 1) else (none))
theorem slices_Min_int_int.mono_l : ∀ k, (∀ y0 y1 y2, LeO (slices_Min_int_int.l0 k y0 y1 y2) (slices_Min_int_int.l0 (k + 1) y0 y1 y2))
 | 0 => fun _ _ _ r h => by simp [slices_Min_int_int.l0] at h
 | k + 1 => by
  have ih0 := slices_Min_int_int.mono_l k
  ·intro y0 y1 y2
   unfold slices_Min_int_int.l0
   repeat' first
   | (with_reducible exact ih0 _ _ _)
   | (with_reducible exact LeO.refl _)
   | (with_reducible exact LeO.none _)
   | (with_reducible refine LeO.ite ?_ ?_)
   | (with_reducible refine LeO.bind ?_ (fun _ => ?_))
   | exact ih0 _ _ _
   | exact LeO.none _
   | refine LeO.ite ?_ ?_
   | refine LeO.bind ?_ (fun _ => ?_)
theorem slices_Min_int_int.mono : ∀ a0 k, LeO (slices_Min_int_int.f k a0) (slices_Min_int_int.f (k + 1) a0) := by
 intro a0 k
 have ih0 := slices_Min_int_int.mono_l k
 unfold slices_Min_int_int.f
 repeat' first
   | (with_reducible exact ih0 _ _ _)
   | (with_reducible exact LeO.refl _)
   | (with_reducible exact LeO.none _)
   | (with_reducible refine LeO.ite ?_ ?_)
   | (with_reducible refine LeO.bind ?_ (fun _ => ?_))
   | exact ih0 _ _ _
   | exact LeO.none _
   | refine LeO.ite ?_ ?_
   | refine LeO.bind ?_ (fun _ => ?_)
set_option maxHeartbeats 8000000 in
set_option maxRecDepth 100000 in
theorem slices_Min_int_int.calls (k : Nat) (A0 : Option Addr) (c0 : Nat) (l0 : List Int) (r : Int) (w : World) (hr0 : Kd.C (Kd.int .i64) w A0 l0.length l0) (hc0 : l0.length ≤ c0) (h : slices_Min_int_int.f k l0 = some r) :
  Calls Try.prog 96 #[.slice A0 l0.length c0] w fun e w' => e = .returned (.int .i64 r) ∧ Below w.heap.size w w' := by
 have HR0 := Aside0.mk hr0
 have HC0 := Aside0.mk hc0
 clear hr0 hc0
 have HB := Aside0.mk (Below.refl w.heap.size w)
 have H : (if (l0.length : Int) < 1 then (none) else (if 0 < (l0.length : Int) then (slices_Min_int_int.l0 k l0 (rd l0 0) 1) else (none))) = some r := h
 clear h
 by_cases c2 : (l0.length : Int) < 1
 ·rw [if_pos c2] at H
  exact absurd H (by simp)
 ·rw [if_neg c2] at H
  have c2b0 : decide ((l0.length : Int) < 1) = false := decide_eq_false c2
  have c2b1 : decide (l0.length < 1) = false := decide_eq_false (by omega)
  clear c2
  by_cases c3 : 0 < (l0.length : Int)
  ·rw [if_pos c3] at H
   have c3b0 : decide (0 < (l0.length : Int)) = true := decide_eq_true c3
   have c3b1 : decide (0 < l0.length) = true := decide_eq_true (by omega)
   clear c3
   have H' := Aside0.mk H
   clear H
   have p139 : 0 ≤ (0 : Int) := (by omega)
   have q139 : 0 < (l0.length : Int) := of_decide_eq_true (by first | (with_reducible assumption) | assumption)
   obtain ⟨ad139, e139, hx139_0⟩ := Kd.at_int HR0.out 0 p139 q139
   cases e139
   have qi139 : (0 < l0.length) = True := eq_true (by omega)
   (try rw [show ((0 : Int)).toNat = 0 from rfl] at hx139_0)
   (try rw [Addr.add_zero'] at hx139_0)
   replace p139 := eq_true p139
   replace q139 := eq_true q139
   go_enter Try.func96, Try.ntmps96
   go_wp2
   go_loopg [3, 4] k (fun kq v3 v4 w' => ∃ (x3_1 : Int) (x4_1 : Int), v3 = .int .i64 x3_1 ∧ v4 = .int .i64 x4_1 ∧ Aside0 (slices_Min_int_int.l0 kq l0 x3_1 x4_1 = some r) ∧ Aside0 (kq ≤ k) ∧ Aside0 (Below w.heap.size w w'))
   case atStart => exact ⟨(rd l0 0), (1), (by first | rfl | (simp; done) | (simp [*]; done)), (by first | rfl | (simp; done) | (simp [*]; done)), H', ⟨Nat.le_refl _⟩, ⟨by repeat (first | (with_reducible first | exact HB.out | apply below_alloc | apply pw_below_drewN | apply below_drew1) | exact HB.out)⟩⟩
   case round =>
    clear H'
    try clear p1
    try clear q1
    try clear hx1
    try clear qi1
    try clear c2
    try clear c2b0
    try clear c2b1
    try clear p2
    try clear c3
    try clear c3b0
    try clear c3b1
    try clear hx139_0
    try clear p139
    try clear q139
    obtain ⟨x3_1, x4_1, rfl, rfl, HA, HK1, HB⟩ := hrel
    cases gk with
    | zero => exact absurd HA.out (by simp [slices_Min_int_int.l0])
    | succ k1 =>
     have H := HA.out
     clear HA
     simp only [slices_Min_int_int.l0] at H
     by_cases c4 : x4_1 < (l0.length : Int)
     ·rw [if_pos c4] at H
      have c4b0 : decide (x4_1 < (l0.length : Int)) = true := decide_eq_true c4
      clear c4
      by_cases c5 : 0 ≤ x4_1
      ·rw [if_pos c5] at H
       have c5b0 : decide (0 ≤ x4_1) = true := decide_eq_true c5
       clear c5
       obtain ⟨ji6, hji6⟩ : ∃ j_ : Int, (mn x3_1 (rd l0 x4_1)) = j_ := ⟨_, rfl⟩
       replace H : (slices_Min_int_int.l0 k1 l0 ji6 (wrap64 (x4_1 + 1))) = some r := by first | (rw [hji6] at H; exact H) | (simp only [hji6] at H ⊢; exact H)
       have hji6_ : (if (rd l0 x4_1) < x3_1 then (rd l0 x4_1) else x3_1) = ji6 := hji6
       have H' := Aside0.mk H
       clear H
       have p140 : 0 ≤ (x4_1 : Int) := of_decide_eq_true (by first | (with_reducible assumption) | assumption)
       have q140 : x4_1 < (l0.length : Int) := of_decide_eq_true (by first | (with_reducible assumption) | assumption)
       obtain ⟨ad140, e140, hx140_0⟩ := Kd.at_int HR0.out x4_1 p140 q140
       obtain rfl : ad139 = ad140 := (by injection e140)
       replace hx140_0 := (HB.out.cell (World.block_lt_of_cell? w _ hx140_0)).trans hx140_0
       replace p140 := eq_true p140
       replace q140 := eq_true q140
       go_wp2
       go_roundg k1
       case measure => have := HK1.out; omega
       case rel => exact ⟨(ji6), (wrap64 (x4_1 + 1)), (by first | rfl | (simp; done) | (simp only [← hji6] <;> (first | rfl | simp)) | (simp [*]; done)), (by first | rfl | (simp; done) | (simp [*]; done)), H', ⟨by have := HK1.out; omega⟩, ⟨by repeat (first | (with_reducible first | exact HB.out | apply below_alloc | apply pw_below_drewN | apply below_drew1) | exact HB.out)⟩⟩
      ·rw [if_neg c5] at H
       exact absurd H (by simp)
     ·rw [if_neg c4] at H
      have c4b0 : decide (x4_1 < (l0.length : Int)) = false := decide_eq_false c4
      clear c4
      obtain rfl := Option.some.inj H
      go_wp2
      go_ret
      exact ⟨by first | rfl | (simp [errW_none, errW_some] <;> rfl) | (simp [*, errW_none, errW_some] <;> rfl), by repeat (first | (with_reducible first | exact HB.out | apply below_alloc | apply pw_below_drewN | apply below_drew1) | exact HB.out)⟩
  ·rw [if_neg c3] at H
   exact absurd H (by simp)

end Go.Proofs.Ytbkkgaiokmnmgaa.Pr
