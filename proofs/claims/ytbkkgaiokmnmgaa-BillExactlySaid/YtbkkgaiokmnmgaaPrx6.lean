-- Printed by hprint.py (a program of this claim's session over the kit's printer).
import Derived.Test.YtbkkgaiokmnmgaaPrx0
import Derived.Test.YtbkkgaiokmnmgaaPrx3
import Derived.Test.YtbkkgaiokmnmgaaHName
namespace Go.Proofs.Ytbkkgaiokmnmgaa.Pr
open Go.RowKit Go.Proofs.YtbkkgaiokmnmgaaW.PrintWords Go.Proofs.YtbkkgaiokmnmgaaW.PrintLast Go.Proofs.YtbkkgaiokmnmgaaW.PrintMore
attribute [local go_sem] max2_int min2_int max_two min_two max_three min_three max_four min_four   -- for this text's walks alone
set_option linter.unusedVariables false
set_option linter.unusedSimpArgs false

/-! ### tariff_Valid: function 57 -/
def tariff_Valid.l0 : Nat → Int → List (S26) → Int → Int → ByteArray → List (S26) → Option (Bool)
 | 0, _, _, _, _, _, _ => none
 | k + 1, x3, x7, x8, x9, x126000, x126001 => if x9 < x8 then (if 0 ≤ x9 then (if x9 < (x7.length : Int) then ((tariff_isArticle.f k ((rd_T26 x7 x9).f0) ((rd_T26 x7 x9).f1) ((rd_T26 x7 x9).f2) ((rd_T26 x7 x9).f3) ((rd_T26 x7 x9).f4) ((rd_T26 x7 x9).f5) ((rd_T26 x7 x9).f6)).bind fun t129 => (if t129 = true then (if ((rd_T26 x7 x9).f0) = 6 then (tariff_Valid.l0 k (wrap64 (x3 + 1)) x7 x8 (wrap64 (x9 + 1)) x126000 x126001) else (tariff_Valid.l0 k x3 x7 x8 (wrap64 (x9 + 1)) x126000 x126001)) else (some false))) else (none)) else (none)) else (if x3 ≤ 1 then (if (x126001.length : Int) ≤ 12 then ((tariff_isName.f x126000).bind fun t126 => (some t126)) else (some false)) else (some false))
def tariff_Valid.f (k : Nat) (a0_0 : ByteArray) (l0_1 : List (S26)) : Option (Bool) := tariff_Valid.l0 k 0 l0_1 (l0_1.length : Int) 0 a0_0 l0_1
theorem tariff_Valid.mono_l : ∀ k, (∀ y0 y1 y2 y3 y4 y5, LeO (tariff_Valid.l0 k y0 y1 y2 y3 y4 y5) (tariff_Valid.l0 (k + 1) y0 y1 y2 y3 y4 y5))
 | 0 => fun _ _ _ _ _ _ r h => by simp [tariff_Valid.l0] at h
 | k + 1 => by
  have ih0 := tariff_Valid.mono_l k
  ·intro y0 y1 y2 y3 y4 y5
   unfold tariff_Valid.l0
   repeat' first
   | (with_reducible exact ih0 _ _ _ _ _ _)
   | (with_reducible exact tariff_isArticle.mono _ _ _ _ _ _ _ _)
   | (with_reducible exact LeO.refl _)
   | (with_reducible exact LeO.none _)
   | (with_reducible refine LeO.ite ?_ ?_)
   | (with_reducible refine LeO.bind ?_ (fun _ => ?_))
   | exact ih0 _ _ _ _ _ _
   | exact tariff_isArticle.mono _ _ _ _ _ _ _ _
   | exact LeO.none _
   | refine LeO.ite ?_ ?_
   | refine LeO.bind ?_ (fun _ => ?_)
theorem tariff_Valid.mono : ∀ a0 a1 k, LeO (tariff_Valid.f k a0 a1) (tariff_Valid.f (k + 1) a0 a1) := by
 intro a0 a1 k
 have ih0 := tariff_Valid.mono_l k
 unfold tariff_Valid.f
 repeat' first
   | (with_reducible exact ih0 _ _ _ _ _ _)
   | (with_reducible exact tariff_isArticle.mono _ _ _ _ _ _ _ _)
   | (with_reducible exact LeO.refl _)
   | (with_reducible exact LeO.none _)
   | (with_reducible refine LeO.ite ?_ ?_)
   | (with_reducible refine LeO.bind ?_ (fun _ => ?_))
   | exact ih0 _ _ _ _ _ _
   | exact tariff_isArticle.mono _ _ _ _ _ _ _ _
   | exact LeO.none _
   | refine LeO.ite ?_ ?_
   | refine LeO.bind ?_ (fun _ => ?_)
set_option maxHeartbeats 8000000 in
set_option maxRecDepth 100000 in
theorem tariff_Valid.calls (k : Nat) (a0_0 : ByteArray) (A0_1 : Option Addr) (c0_1 : Nat) (l0_1 : List (S26)) (r : Bool) (w : World) (hr0_1 : Kd.C k26 w A0_1 l0_1.length l0_1) (hc0_1 : l0_1.length ≤ c0_1) (h : tariff_Valid.f k a0_0 l0_1 = some r) :
  Calls Try.prog 57 #[.agg #[.string a0_0, .slice A0_1 l0_1.length c0_1]] w fun e w' => e = .returned (.bool r) ∧ Below w.heap.size w w' := by
 have hu24 := Try.underlying24
 have hu26 := Try.underlying26
 have HR0_1 := Aside0.mk hr0_1
 have HC0_1 := Aside0.mk hc0_1
 clear hr0_1 hc0_1
 have HB := Aside0.mk (Below.refl w.heap.size w)
 have H : (tariff_Valid.l0 k 0 l0_1 (l0_1.length : Int) 0 a0_0 l0_1) = some r := h
 clear h
 have H' := Aside0.mk H
 clear H
 go_enter Try.func57, Try.ntmps57
 go_wp2_with (first | ((with_reducible refine gate_dst (N := 1) rfl ?_); (try (refine gate_guard (by rfl) ?_; dsimp only)); refine box_event ?hg (N := 1) ?hd (cs := #[.string a0_0, .slice A0_1 l0_1.length c0_1]) (t := 24) ?hr ?_; (case hd => rfl); (case hg => rfl); (case hr => first | (go_simp; done) | (go_simp; rfl)); intro gb125 hg w2 hbox hb; have n0_ := Aside0.mk (below_step (by repeat (first | (with_reducible first | exact HB.out | apply below_alloc | apply pw_below_drewN | apply below_drew1) | exact HB.out)) hb); have n1_ := Aside0.mk (hbox); have n2_ := Aside0.mk ((by rw [hg]; exact (below_size (by repeat (first | (with_reducible first | exact HB.out | apply below_alloc | apply pw_below_drewN | apply below_drew1) | exact HB.out))) : w.heap.size ≤ gb125)); have n3_ := Aside0.mk ((by rw [hg]; exact (below_size (by repeat (first | (with_reducible first | exact HB.out | apply below_alloc | apply pw_below_drewN | apply below_drew1) | exact HB.out))) : w.heap.size ≤ gb125)); clear HB; have HB := n0_; have BK125 := n1_; have GW125 := n2_; have GE125 := n3_; clear n0_ n1_ n2_ n3_; clear hb hbox hg; have hcz3_0 : w2.cell? ⟨gb125, 0, none⟩ = some (.string a0_0) := (blk_cell BK125.out 0).trans rfl; have hcz3_1 : w2.cell? ⟨gb125, 1, none⟩ = some (.slice A0_1 l0_1.length c0_1) := (blk_cell BK125.out 1).trans rfl; have hfz3_0 := blk_frozen BK125.out 0; have hfz3_1 := blk_frozen BK125.out 1))
 go_loopg [3, 9] k (fun kq v3 v9 w' => ∃ (x3_1 : Int) (x9_1 : Int), v3 = .int .i64 x3_1 ∧ v9 = .int .i64 x9_1 ∧ Aside0 (tariff_Valid.l0 kq x3_1 l0_1 (l0_1.length : Int) x9_1 a0_0 l0_1 = some r) ∧ Aside0 (kq ≤ k) ∧ Aside0 (w'.heap[gb125]? = some (.cells #[.string a0_0, (.slice A0_1 l0_1.length c0_1)] 24 (0, 0))) ∧ Aside0 (Below w.heap.size w w'))
 case atStart => exact ⟨(0), (0), (by first | rfl | (simp; done) | (simp [*]; done)), (by first | rfl | (simp; done) | (simp [*]; done)), H', ⟨Nat.le_refl _⟩, ⟨by (with_reducible repeat (first | refine blk_drewN ?_ _ | refine blk_drew ?_ | refine blk_alloc ?_ _)); exact BK125.out⟩, ⟨by repeat (first | (with_reducible first | exact HB.out | apply below_alloc | apply pw_below_drewN | apply below_drew1 | refine below_set ?_ GE125.out) | exact HB.out)⟩⟩
 case round =>
  clear H'
  try clear p2
  try clear hcz3_0
  try clear hcz3_1
  try clear hfz3_0
  try clear hfz3_1
  obtain ⟨x3_1, x9_1, rfl, rfl, HA, HK1, BK125, HB⟩ := hrel
  cases gk with
  | zero => exact absurd HA.out (by simp [tariff_Valid.l0])
  | succ k1 =>
   have H := HA.out
   clear HA
   simp only [tariff_Valid.l0] at H
   by_cases c4 : x9_1 < (l0_1.length : Int)
   ·rw [if_pos c4] at H
    have c4b0 : decide (x9_1 < (l0_1.length : Int)) = true := decide_eq_true c4
    clear c4
    by_cases c5 : 0 ≤ x9_1
    ·rw [if_pos c5] at H
     have c5b0 : decide (0 ≤ x9_1) = true := decide_eq_true c5
     clear c5
     by_cases c6 : x9_1 < (l0_1.length : Int)
     ·rw [if_pos c6] at H
      have c6b0 : decide (x9_1 < (l0_1.length : Int)) = true := decide_eq_true c6
      clear c6
      replace H := Option.bind_eq_some_iff.mp H
      obtain ⟨t129, A70, H⟩ := H
      replace H : (if t129 = true then (if ((rd_T26 l0_1 x9_1).f0) = 6 then (tariff_Valid.l0 k1 (wrap64 (x3_1 + 1)) l0_1 (l0_1.length : Int) (wrap64 (x9_1 + 1)) a0_0 l0_1) else (tariff_Valid.l0 k1 x3_1 l0_1 (l0_1.length : Int) (wrap64 (x9_1 + 1)) a0_0 l0_1)) else (some false)) = some r := H
      have A7 := Aside0.mk A70
      clear A70
      by_cases c8 : t129 = true
      ·subst c8
       have H1 : (if ((rd_T26 l0_1 x9_1).f0) = 6 then (tariff_Valid.l0 k1 (wrap64 (x3_1 + 1)) l0_1 (l0_1.length : Int) (wrap64 (x9_1 + 1)) a0_0 l0_1) else (tariff_Valid.l0 k1 x3_1 l0_1 (l0_1.length : Int) (wrap64 (x9_1 + 1)) a0_0 l0_1)) = some r := by rw [if_pos rfl] at H; exact H
       clear H
       have H := H1
       clear H1
       by_cases c9 : ((rd_T26 l0_1 x9_1).f0) = 6
       ·rw [if_pos c9] at H
        have c9b0 : (((rd_T26 l0_1 x9_1).f0) == 6) = true := beq_iff_eq.mpr c9
        have c9b1 : (((rd_T26 l0_1 x9_1).f0) != 6) = false := bne_eq_false_iff_eq.mpr c9
        clear c9
        have H' := Aside0.mk H
        clear H
        have p127 : 0 ≤ (x9_1 : Int) := of_decide_eq_true (by first | (with_reducible assumption) | assumption)
        have q127 : x9_1 < (l0_1.length : Int) := of_decide_eq_true (by first | (with_reducible assumption) | assumption)
        obtain ⟨ad127, e127, hx127_0, hx127_1, hx127_2, hx127_3, hx127_4, hx127_5, hx127_6⟩ := at_T26 HR0_1.out x9_1 p127 q127
        cases e127
        replace hx127_0 := (HB.out.cell (World.block_lt_of_cell? w _ hx127_0)).trans hx127_0
        replace hx127_1 := (HB.out.cell (World.block_lt_of_cell? w _ hx127_1)).trans hx127_1
        replace hx127_2 := (HB.out.cell (World.block_lt_of_cell? w _ hx127_2)).trans hx127_2
        replace hx127_3 := (HB.out.cell (World.block_lt_of_cell? w _ hx127_3)).trans hx127_3
        replace hx127_4 := (HB.out.cell (World.block_lt_of_cell? w _ hx127_4)).trans hx127_4
        replace hx127_5 := (HB.out.cell (World.block_lt_of_cell? w _ hx127_5)).trans hx127_5
        replace hx127_6 := (HB.out.cell (World.block_lt_of_cell? w _ hx127_6)).trans hx127_6
        replace p127 := eq_true p127
        replace q127 := eq_true q127
        go_wp2_with (first | ((with_reducible refine gate_dst (N := 5) rfl ?_); (try (refine gate_guard (by rfl) ?_; dsimp only)); refine box_event ?hg (N := 5) ?hd (cs := #[.int .i64 0, .int .i64 0, .int .i64 0, .int .i64 0, .int .i64 0, .int .i64 0, .int .i64 0]) (t := 26) ?hr ?_; (case hd => rfl); (case hg => rfl); (case hr => first | (go_simp; done) | (go_simp; rfl)); intro gb128 hg w10 hbox hb; have n0_ := Aside0.mk (blk_below (g := gb125) (o := .cells #[.string a0_0, .slice (some ad127) l0_1.length c0_1] 24 (0, 0)) (by (with_reducible repeat (first | refine blk_drewN ?_ _ | refine blk_drew ?_ | refine blk_alloc ?_ _)); exact BK125.out) hb); have n1_ := Aside0.mk (below_step (by repeat (first | (with_reducible first | exact HB.out | apply below_alloc | apply pw_below_drewN | apply below_drew1 | refine below_set ?_ GE125.out) | exact HB.out)) hb); have n2_ := Aside0.mk (hbox); have n3_ := Aside0.mk ((by rw [hg]; exact (below_size (by repeat (first | (with_reducible first | exact HB.out | apply below_alloc | apply pw_below_drewN | apply below_drew1 | refine below_set ?_ GE125.out) | exact HB.out))) : w.heap.size ≤ gb128)); have n4_ := Aside0.mk ((by rw [hg]; exact (below_size (by repeat (first | (with_reducible first | exact HB.out | apply below_alloc | apply pw_below_drewN | apply below_drew1 | refine below_set ?_ GE125.out) | exact HB.out))) : w.heap.size ≤ gb128)); have n5_ := Aside0.mk ((by rw [hg]; exact Nat.ne_of_lt (blk_lt (g := gb125) (o := .cells #[.string a0_0, .slice (some ad127) l0_1.length c0_1] 24 (0, 0)) (by (with_reducible repeat (first | refine blk_drewN ?_ _ | refine blk_drew ?_ | refine blk_alloc ?_ _)); exact BK125.out)) : gb125 ≠ gb128)); have n6_ := Aside0.mk ((by rw [hg]; exact Nat.ne_of_gt (blk_lt (g := gb125) (o := .cells #[.string a0_0, .slice (some ad127) l0_1.length c0_1] 24 (0, 0)) (by (with_reducible repeat (first | refine blk_drewN ?_ _ | refine blk_drew ?_ | refine blk_alloc ?_ _)); exact BK125.out)) : gb128 ≠ gb125)); clear BK125; clear HB; have BK125 := n0_; have HB := n1_; have BK128 := n2_; have GW128 := n3_; have GE128 := n4_; have NB125_128 := n5_; have NB128_125 := n6_; clear n0_ n1_ n2_ n3_ n4_ n5_ n6_; clear hb hbox hg; have hnb11 := NB128_125.out; have hnc11 := NB125_128.out; have hcz12_0 : w10.cell? ⟨gb128, 0, none⟩ = some (.int .i64 0) := (blk_cell BK128.out 0).trans rfl; have hcz12_1 : w10.cell? ⟨gb128, 1, none⟩ = some (.int .i64 0) := (blk_cell BK128.out 1).trans rfl; have hcz12_2 : w10.cell? ⟨gb128, 2, none⟩ = some (.int .i64 0) := (blk_cell BK128.out 2).trans rfl; have hcz12_3 : w10.cell? ⟨gb128, 3, none⟩ = some (.int .i64 0) := (blk_cell BK128.out 3).trans rfl; have hcz12_4 : w10.cell? ⟨gb128, 4, none⟩ = some (.int .i64 0) := (blk_cell BK128.out 4).trans rfl; have hcz12_5 : w10.cell? ⟨gb128, 5, none⟩ = some (.int .i64 0) := (blk_cell BK128.out 5).trans rfl; have hcz12_6 : w10.cell? ⟨gb128, 6, none⟩ = some (.int .i64 0) := (blk_cell BK128.out 6).trans rfl; have hfz12_0 := blk_frozen BK128.out 0; have hfz12_1 := blk_frozen BK128.out 1; have hfz12_2 := blk_frozen BK128.out 2; have hfz12_3 := blk_frozen BK128.out 3; have hfz12_4 := blk_frozen BK128.out 4; have hfz12_5 := blk_frozen BK128.out 5; have hfz12_6 := blk_frozen BK128.out 6) | ((with_reducible refine gate_callee (f := 72) rfl ?_); refine goesL_ (some 14) rfl rfl Try.func72 (by kernel_rfl) rfl #[.agg #[.int .i64 ((rd_T26 l0_1 x9_1).f0), .int .i64 ((rd_T26 l0_1 x9_1).f1), .int .i64 ((rd_T26 l0_1 x9_1).f2), .int .i64 ((rd_T26 l0_1 x9_1).f3), .int .i64 ((rd_T26 l0_1 x9_1).f4), .int .i64 ((rd_T26 l0_1 x9_1).f5), .int .i64 ((rd_T26 l0_1 x9_1).f6)]] rfl (by (try simp only [List.map_toArray, List.map_cons, List.map_nil]); first | done | rfl | (simp only [List.length_drop, List.length_take]; rfl)) ?_; (with_reducible refine (tariff_isArticle.calls k1 ((rd_T26 l0_1 x9_1).f0) ((rd_T26 l0_1 x9_1).f1) ((rd_T26 l0_1 x9_1).f2) ((rd_T26 l0_1 x9_1).f3) ((rd_T26 l0_1 x9_1).f4) ((rd_T26 l0_1 x9_1).f5) ((rd_T26 l0_1 x9_1).f6) true _ A7.out).mono ?_); rintro e w13 ⟨rfl, hb⟩; refine ⟨_, rfl, ?_⟩; have n0_ := Aside0.mk (blk_below (g := gb125) (o := .cells #[.string a0_0, .slice (some ad127) l0_1.length c0_1] 24 (0, 0)) (by (with_reducible repeat (first | refine blk_drewN ?_ _ | refine blk_drew ?_ | refine blk_alloc ?_ _)); refine blk_far ?_ NB125_128.out _; (with_reducible repeat (first | refine blk_drewN ?_ _ | refine blk_drew ?_ | refine blk_alloc ?_ _)); refine blk_far ?_ NB125_128.out _; (with_reducible repeat (first | refine blk_drewN ?_ _ | refine blk_drew ?_ | refine blk_alloc ?_ _)); refine blk_far ?_ NB125_128.out _; (with_reducible repeat (first | refine blk_drewN ?_ _ | refine blk_drew ?_ | refine blk_alloc ?_ _)); refine blk_far ?_ NB125_128.out _; (with_reducible repeat (first | refine blk_drewN ?_ _ | refine blk_drew ?_ | refine blk_alloc ?_ _)); refine blk_far ?_ NB125_128.out _; (with_reducible repeat (first | refine blk_drewN ?_ _ | refine blk_drew ?_ | refine blk_alloc ?_ _)); refine blk_far ?_ NB125_128.out _; (with_reducible repeat (first | refine blk_drewN ?_ _ | refine blk_drew ?_ | refine blk_alloc ?_ _)); refine blk_far ?_ NB125_128.out _; (with_reducible repeat (first | refine blk_drewN ?_ _ | refine blk_drew ?_ | refine blk_alloc ?_ _)); exact BK125.out) hb); have n1_ := Aside0.mk (blk_below (g := gb128) (o := .cells #[.int .i64 ((rd_T26 l0_1 x9_1).f0), .int .i64 ((rd_T26 l0_1 x9_1).f1), .int .i64 ((rd_T26 l0_1 x9_1).f2), .int .i64 ((rd_T26 l0_1 x9_1).f3), .int .i64 ((rd_T26 l0_1 x9_1).f4), .int .i64 ((rd_T26 l0_1 x9_1).f5), .int .i64 ((rd_T26 l0_1 x9_1).f6)] 26 (0, 0)) (by (with_reducible repeat (first | refine blk_drewN ?_ _ | refine blk_drew ?_ | refine blk_alloc ?_ _)); refine blk_put (cs := #[.int .i64 ((rd_T26 l0_1 x9_1).f0), .int .i64 ((rd_T26 l0_1 x9_1).f1), .int .i64 ((rd_T26 l0_1 x9_1).f2), .int .i64 ((rd_T26 l0_1 x9_1).f3), .int .i64 ((rd_T26 l0_1 x9_1).f4), .int .i64 ((rd_T26 l0_1 x9_1).f5), .int .i64 0]) ?_ 6 _ rfl; (with_reducible repeat (first | refine blk_drewN ?_ _ | refine blk_drew ?_ | refine blk_alloc ?_ _)); refine blk_put (cs := #[.int .i64 ((rd_T26 l0_1 x9_1).f0), .int .i64 ((rd_T26 l0_1 x9_1).f1), .int .i64 ((rd_T26 l0_1 x9_1).f2), .int .i64 ((rd_T26 l0_1 x9_1).f3), .int .i64 ((rd_T26 l0_1 x9_1).f4), .int .i64 0, .int .i64 0]) ?_ 5 _ rfl; (with_reducible repeat (first | refine blk_drewN ?_ _ | refine blk_drew ?_ | refine blk_alloc ?_ _)); refine blk_put (cs := #[.int .i64 ((rd_T26 l0_1 x9_1).f0), .int .i64 ((rd_T26 l0_1 x9_1).f1), .int .i64 ((rd_T26 l0_1 x9_1).f2), .int .i64 ((rd_T26 l0_1 x9_1).f3), .int .i64 0, .int .i64 0, .int .i64 0]) ?_ 4 _ rfl; (with_reducible repeat (first | refine blk_drewN ?_ _ | refine blk_drew ?_ | refine blk_alloc ?_ _)); refine blk_put (cs := #[.int .i64 ((rd_T26 l0_1 x9_1).f0), .int .i64 ((rd_T26 l0_1 x9_1).f1), .int .i64 ((rd_T26 l0_1 x9_1).f2), .int .i64 0, .int .i64 0, .int .i64 0, .int .i64 0]) ?_ 3 _ rfl; (with_reducible repeat (first | refine blk_drewN ?_ _ | refine blk_drew ?_ | refine blk_alloc ?_ _)); refine blk_put (cs := #[.int .i64 ((rd_T26 l0_1 x9_1).f0), .int .i64 ((rd_T26 l0_1 x9_1).f1), .int .i64 0, .int .i64 0, .int .i64 0, .int .i64 0, .int .i64 0]) ?_ 2 _ rfl; (with_reducible repeat (first | refine blk_drewN ?_ _ | refine blk_drew ?_ | refine blk_alloc ?_ _)); refine blk_put (cs := #[.int .i64 ((rd_T26 l0_1 x9_1).f0), .int .i64 0, .int .i64 0, .int .i64 0, .int .i64 0, .int .i64 0, .int .i64 0]) ?_ 1 _ rfl; (with_reducible repeat (first | refine blk_drewN ?_ _ | refine blk_drew ?_ | refine blk_alloc ?_ _)); refine blk_put (cs := #[.int .i64 0, .int .i64 0, .int .i64 0, .int .i64 0, .int .i64 0, .int .i64 0, .int .i64 0]) ?_ 0 _ rfl; (with_reducible repeat (first | refine blk_drewN ?_ _ | refine blk_drew ?_ | refine blk_alloc ?_ _)); exact BK128.out) hb); have n2_ := Aside0.mk (below_step (by repeat (first | (with_reducible first | exact HB.out | apply below_alloc | apply pw_below_drewN | apply below_drew1 | refine below_set ?_ GE125.out | refine below_set ?_ GE128.out) | exact HB.out)) hb); clear BK125; clear BK128; clear HB; have BK125 := n0_; have BK128 := n1_; have HB := n2_; clear n0_ n1_ n2_; (try clear hb); (try clear hb2); (try clear hk); (try clear hi); have hcz14_0 : w13.cell? ⟨gb128, 0, none⟩ = some (.int .i64 ((rd_T26 l0_1 x9_1).f0)) := (blk_cell BK128.out 0).trans rfl; have hcz14_1 : w13.cell? ⟨gb128, 1, none⟩ = some (.int .i64 ((rd_T26 l0_1 x9_1).f1)) := (blk_cell BK128.out 1).trans rfl; have hcz14_2 : w13.cell? ⟨gb128, 2, none⟩ = some (.int .i64 ((rd_T26 l0_1 x9_1).f2)) := (blk_cell BK128.out 2).trans rfl; have hcz14_3 : w13.cell? ⟨gb128, 3, none⟩ = some (.int .i64 ((rd_T26 l0_1 x9_1).f3)) := (blk_cell BK128.out 3).trans rfl; have hcz14_4 : w13.cell? ⟨gb128, 4, none⟩ = some (.int .i64 ((rd_T26 l0_1 x9_1).f4)) := (blk_cell BK128.out 4).trans rfl; have hcz14_5 : w13.cell? ⟨gb128, 5, none⟩ = some (.int .i64 ((rd_T26 l0_1 x9_1).f5)) := (blk_cell BK128.out 5).trans rfl; have hcz14_6 : w13.cell? ⟨gb128, 6, none⟩ = some (.int .i64 ((rd_T26 l0_1 x9_1).f6)) := (blk_cell BK128.out 6).trans rfl; have hfz14_0 := blk_frozen BK128.out 0; have hfz14_1 := blk_frozen BK128.out 1; have hfz14_2 := blk_frozen BK128.out 2; have hfz14_3 := blk_frozen BK128.out 3; have hfz14_4 := blk_frozen BK128.out 4; have hfz14_5 := blk_frozen BK128.out 5; have hfz14_6 := blk_frozen BK128.out 6))
        go_roundg k1
        case measure => have := HK1.out; omega
        case rel => exact ⟨(wrap64 (x3_1 + 1)), (wrap64 (x9_1 + 1)), (by first | rfl | (simp; done) | (simp [*]; done)), (by first | rfl | (simp; done) | (simp [*]; done)), H', ⟨by have := HK1.out; omega⟩, ⟨by (with_reducible repeat (first | refine blk_drewN ?_ _ | refine blk_drew ?_ | refine blk_alloc ?_ _)); exact BK125.out⟩, ⟨by repeat (first | (with_reducible first | exact HB.out | apply below_alloc | apply pw_below_drewN | apply below_drew1 | refine below_set ?_ GE125.out | refine below_set ?_ GE128.out) | exact HB.out)⟩⟩
       ·rw [if_neg c9] at H
        have c9b0 : (((rd_T26 l0_1 x9_1).f0) == 6) = false := beq_eq_false_iff_ne.mpr c9
        have c9b1 : (((rd_T26 l0_1 x9_1).f0) != 6) = true := bne_iff_ne.mpr c9
        have H' := Aside0.mk H
        clear H
        have p127 : 0 ≤ (x9_1 : Int) := of_decide_eq_true (by first | (with_reducible assumption) | assumption)
        have q127 : x9_1 < (l0_1.length : Int) := of_decide_eq_true (by first | (with_reducible assumption) | assumption)
        obtain ⟨ad127, e127, hx127_0, hx127_1, hx127_2, hx127_3, hx127_4, hx127_5, hx127_6⟩ := at_T26 HR0_1.out x9_1 p127 q127
        cases e127
        replace hx127_0 := (HB.out.cell (World.block_lt_of_cell? w _ hx127_0)).trans hx127_0
        replace hx127_1 := (HB.out.cell (World.block_lt_of_cell? w _ hx127_1)).trans hx127_1
        replace hx127_2 := (HB.out.cell (World.block_lt_of_cell? w _ hx127_2)).trans hx127_2
        replace hx127_3 := (HB.out.cell (World.block_lt_of_cell? w _ hx127_3)).trans hx127_3
        replace hx127_4 := (HB.out.cell (World.block_lt_of_cell? w _ hx127_4)).trans hx127_4
        replace hx127_5 := (HB.out.cell (World.block_lt_of_cell? w _ hx127_5)).trans hx127_5
        replace hx127_6 := (HB.out.cell (World.block_lt_of_cell? w _ hx127_6)).trans hx127_6
        replace p127 := eq_true p127
        replace q127 := eq_true q127
        go_wp2_with (first | ((with_reducible refine gate_dst (N := 5) rfl ?_); (try (refine gate_guard (by rfl) ?_; dsimp only)); refine box_event ?hg (N := 5) ?hd (cs := #[.int .i64 0, .int .i64 0, .int .i64 0, .int .i64 0, .int .i64 0, .int .i64 0, .int .i64 0]) (t := 26) ?hr ?_; (case hd => rfl); (case hg => rfl); (case hr => first | (go_simp; done) | (go_simp; rfl)); intro gb128 hg w15 hbox hb; have n0_ := Aside0.mk (blk_below (g := gb125) (o := .cells #[.string a0_0, .slice (some ad127) l0_1.length c0_1] 24 (0, 0)) (by (with_reducible repeat (first | refine blk_drewN ?_ _ | refine blk_drew ?_ | refine blk_alloc ?_ _)); exact BK125.out) hb); have n1_ := Aside0.mk (below_step (by repeat (first | (with_reducible first | exact HB.out | apply below_alloc | apply pw_below_drewN | apply below_drew1 | refine below_set ?_ GE125.out) | exact HB.out)) hb); have n2_ := Aside0.mk (hbox); have n3_ := Aside0.mk ((by rw [hg]; exact (below_size (by repeat (first | (with_reducible first | exact HB.out | apply below_alloc | apply pw_below_drewN | apply below_drew1 | refine below_set ?_ GE125.out) | exact HB.out))) : w.heap.size ≤ gb128)); have n4_ := Aside0.mk ((by rw [hg]; exact (below_size (by repeat (first | (with_reducible first | exact HB.out | apply below_alloc | apply pw_below_drewN | apply below_drew1 | refine below_set ?_ GE125.out) | exact HB.out))) : w.heap.size ≤ gb128)); have n5_ := Aside0.mk ((by rw [hg]; exact Nat.ne_of_lt (blk_lt (g := gb125) (o := .cells #[.string a0_0, .slice (some ad127) l0_1.length c0_1] 24 (0, 0)) (by (with_reducible repeat (first | refine blk_drewN ?_ _ | refine blk_drew ?_ | refine blk_alloc ?_ _)); exact BK125.out)) : gb125 ≠ gb128)); have n6_ := Aside0.mk ((by rw [hg]; exact Nat.ne_of_gt (blk_lt (g := gb125) (o := .cells #[.string a0_0, .slice (some ad127) l0_1.length c0_1] 24 (0, 0)) (by (with_reducible repeat (first | refine blk_drewN ?_ _ | refine blk_drew ?_ | refine blk_alloc ?_ _)); exact BK125.out)) : gb128 ≠ gb125)); clear BK125; clear HB; have BK125 := n0_; have HB := n1_; have BK128 := n2_; have GW128 := n3_; have GE128 := n4_; have NB125_128 := n5_; have NB128_125 := n6_; clear n0_ n1_ n2_ n3_ n4_ n5_ n6_; clear hb hbox hg; have hnb16 := NB128_125.out; have hnc16 := NB125_128.out; have hcz17_0 : w15.cell? ⟨gb128, 0, none⟩ = some (.int .i64 0) := (blk_cell BK128.out 0).trans rfl; have hcz17_1 : w15.cell? ⟨gb128, 1, none⟩ = some (.int .i64 0) := (blk_cell BK128.out 1).trans rfl; have hcz17_2 : w15.cell? ⟨gb128, 2, none⟩ = some (.int .i64 0) := (blk_cell BK128.out 2).trans rfl; have hcz17_3 : w15.cell? ⟨gb128, 3, none⟩ = some (.int .i64 0) := (blk_cell BK128.out 3).trans rfl; have hcz17_4 : w15.cell? ⟨gb128, 4, none⟩ = some (.int .i64 0) := (blk_cell BK128.out 4).trans rfl; have hcz17_5 : w15.cell? ⟨gb128, 5, none⟩ = some (.int .i64 0) := (blk_cell BK128.out 5).trans rfl; have hcz17_6 : w15.cell? ⟨gb128, 6, none⟩ = some (.int .i64 0) := (blk_cell BK128.out 6).trans rfl; have hfz17_0 := blk_frozen BK128.out 0; have hfz17_1 := blk_frozen BK128.out 1; have hfz17_2 := blk_frozen BK128.out 2; have hfz17_3 := blk_frozen BK128.out 3; have hfz17_4 := blk_frozen BK128.out 4; have hfz17_5 := blk_frozen BK128.out 5; have hfz17_6 := blk_frozen BK128.out 6) | ((with_reducible refine gate_callee (f := 72) rfl ?_); refine goesL_ (some 14) rfl rfl Try.func72 (by kernel_rfl) rfl #[.agg #[.int .i64 ((rd_T26 l0_1 x9_1).f0), .int .i64 ((rd_T26 l0_1 x9_1).f1), .int .i64 ((rd_T26 l0_1 x9_1).f2), .int .i64 ((rd_T26 l0_1 x9_1).f3), .int .i64 ((rd_T26 l0_1 x9_1).f4), .int .i64 ((rd_T26 l0_1 x9_1).f5), .int .i64 ((rd_T26 l0_1 x9_1).f6)]] rfl (by (try simp only [List.map_toArray, List.map_cons, List.map_nil]); first | done | rfl | (simp only [List.length_drop, List.length_take]; rfl)) ?_; (with_reducible refine (tariff_isArticle.calls k1 ((rd_T26 l0_1 x9_1).f0) ((rd_T26 l0_1 x9_1).f1) ((rd_T26 l0_1 x9_1).f2) ((rd_T26 l0_1 x9_1).f3) ((rd_T26 l0_1 x9_1).f4) ((rd_T26 l0_1 x9_1).f5) ((rd_T26 l0_1 x9_1).f6) true _ A7.out).mono ?_); rintro e w18 ⟨rfl, hb⟩; refine ⟨_, rfl, ?_⟩; have n0_ := Aside0.mk (blk_below (g := gb125) (o := .cells #[.string a0_0, .slice (some ad127) l0_1.length c0_1] 24 (0, 0)) (by (with_reducible repeat (first | refine blk_drewN ?_ _ | refine blk_drew ?_ | refine blk_alloc ?_ _)); refine blk_far ?_ NB125_128.out _; (with_reducible repeat (first | refine blk_drewN ?_ _ | refine blk_drew ?_ | refine blk_alloc ?_ _)); refine blk_far ?_ NB125_128.out _; (with_reducible repeat (first | refine blk_drewN ?_ _ | refine blk_drew ?_ | refine blk_alloc ?_ _)); refine blk_far ?_ NB125_128.out _; (with_reducible repeat (first | refine blk_drewN ?_ _ | refine blk_drew ?_ | refine blk_alloc ?_ _)); refine blk_far ?_ NB125_128.out _; (with_reducible repeat (first | refine blk_drewN ?_ _ | refine blk_drew ?_ | refine blk_alloc ?_ _)); refine blk_far ?_ NB125_128.out _; (with_reducible repeat (first | refine blk_drewN ?_ _ | refine blk_drew ?_ | refine blk_alloc ?_ _)); refine blk_far ?_ NB125_128.out _; (with_reducible repeat (first | refine blk_drewN ?_ _ | refine blk_drew ?_ | refine blk_alloc ?_ _)); refine blk_far ?_ NB125_128.out _; (with_reducible repeat (first | refine blk_drewN ?_ _ | refine blk_drew ?_ | refine blk_alloc ?_ _)); exact BK125.out) hb); have n1_ := Aside0.mk (blk_below (g := gb128) (o := .cells #[.int .i64 ((rd_T26 l0_1 x9_1).f0), .int .i64 ((rd_T26 l0_1 x9_1).f1), .int .i64 ((rd_T26 l0_1 x9_1).f2), .int .i64 ((rd_T26 l0_1 x9_1).f3), .int .i64 ((rd_T26 l0_1 x9_1).f4), .int .i64 ((rd_T26 l0_1 x9_1).f5), .int .i64 ((rd_T26 l0_1 x9_1).f6)] 26 (0, 0)) (by (with_reducible repeat (first | refine blk_drewN ?_ _ | refine blk_drew ?_ | refine blk_alloc ?_ _)); refine blk_put (cs := #[.int .i64 ((rd_T26 l0_1 x9_1).f0), .int .i64 ((rd_T26 l0_1 x9_1).f1), .int .i64 ((rd_T26 l0_1 x9_1).f2), .int .i64 ((rd_T26 l0_1 x9_1).f3), .int .i64 ((rd_T26 l0_1 x9_1).f4), .int .i64 ((rd_T26 l0_1 x9_1).f5), .int .i64 0]) ?_ 6 _ rfl; (with_reducible repeat (first | refine blk_drewN ?_ _ | refine blk_drew ?_ | refine blk_alloc ?_ _)); refine blk_put (cs := #[.int .i64 ((rd_T26 l0_1 x9_1).f0), .int .i64 ((rd_T26 l0_1 x9_1).f1), .int .i64 ((rd_T26 l0_1 x9_1).f2), .int .i64 ((rd_T26 l0_1 x9_1).f3), .int .i64 ((rd_T26 l0_1 x9_1).f4), .int .i64 0, .int .i64 0]) ?_ 5 _ rfl; (with_reducible repeat (first | refine blk_drewN ?_ _ | refine blk_drew ?_ | refine blk_alloc ?_ _)); refine blk_put (cs := #[.int .i64 ((rd_T26 l0_1 x9_1).f0), .int .i64 ((rd_T26 l0_1 x9_1).f1), .int .i64 ((rd_T26 l0_1 x9_1).f2), .int .i64 ((rd_T26 l0_1 x9_1).f3), .int .i64 0, .int .i64 0, .int .i64 0]) ?_ 4 _ rfl; (with_reducible repeat (first | refine blk_drewN ?_ _ | refine blk_drew ?_ | refine blk_alloc ?_ _)); refine blk_put (cs := #[.int .i64 ((rd_T26 l0_1 x9_1).f0), .int .i64 ((rd_T26 l0_1 x9_1).f1), .int .i64 ((rd_T26 l0_1 x9_1).f2), .int .i64 0, .int .i64 0, .int .i64 0, .int .i64 0]) ?_ 3 _ rfl; (with_reducible repeat (first | refine blk_drewN ?_ _ | refine blk_drew ?_ | refine blk_alloc ?_ _)); refine blk_put (cs := #[.int .i64 ((rd_T26 l0_1 x9_1).f0), .int .i64 ((rd_T26 l0_1 x9_1).f1), .int .i64 0, .int .i64 0, .int .i64 0, .int .i64 0, .int .i64 0]) ?_ 2 _ rfl; (with_reducible repeat (first | refine blk_drewN ?_ _ | refine blk_drew ?_ | refine blk_alloc ?_ _)); refine blk_put (cs := #[.int .i64 ((rd_T26 l0_1 x9_1).f0), .int .i64 0, .int .i64 0, .int .i64 0, .int .i64 0, .int .i64 0, .int .i64 0]) ?_ 1 _ rfl; (with_reducible repeat (first | refine blk_drewN ?_ _ | refine blk_drew ?_ | refine blk_alloc ?_ _)); refine blk_put (cs := #[.int .i64 0, .int .i64 0, .int .i64 0, .int .i64 0, .int .i64 0, .int .i64 0, .int .i64 0]) ?_ 0 _ rfl; (with_reducible repeat (first | refine blk_drewN ?_ _ | refine blk_drew ?_ | refine blk_alloc ?_ _)); exact BK128.out) hb); have n2_ := Aside0.mk (below_step (by repeat (first | (with_reducible first | exact HB.out | apply below_alloc | apply pw_below_drewN | apply below_drew1 | refine below_set ?_ GE125.out | refine below_set ?_ GE128.out) | exact HB.out)) hb); clear BK125; clear BK128; clear HB; have BK125 := n0_; have BK128 := n1_; have HB := n2_; clear n0_ n1_ n2_; (try clear hb); (try clear hb2); (try clear hk); (try clear hi); have hcz19_0 : w18.cell? ⟨gb128, 0, none⟩ = some (.int .i64 ((rd_T26 l0_1 x9_1).f0)) := (blk_cell BK128.out 0).trans rfl; have hcz19_1 : w18.cell? ⟨gb128, 1, none⟩ = some (.int .i64 ((rd_T26 l0_1 x9_1).f1)) := (blk_cell BK128.out 1).trans rfl; have hcz19_2 : w18.cell? ⟨gb128, 2, none⟩ = some (.int .i64 ((rd_T26 l0_1 x9_1).f2)) := (blk_cell BK128.out 2).trans rfl; have hcz19_3 : w18.cell? ⟨gb128, 3, none⟩ = some (.int .i64 ((rd_T26 l0_1 x9_1).f3)) := (blk_cell BK128.out 3).trans rfl; have hcz19_4 : w18.cell? ⟨gb128, 4, none⟩ = some (.int .i64 ((rd_T26 l0_1 x9_1).f4)) := (blk_cell BK128.out 4).trans rfl; have hcz19_5 : w18.cell? ⟨gb128, 5, none⟩ = some (.int .i64 ((rd_T26 l0_1 x9_1).f5)) := (blk_cell BK128.out 5).trans rfl; have hcz19_6 : w18.cell? ⟨gb128, 6, none⟩ = some (.int .i64 ((rd_T26 l0_1 x9_1).f6)) := (blk_cell BK128.out 6).trans rfl; have hfz19_0 := blk_frozen BK128.out 0; have hfz19_1 := blk_frozen BK128.out 1; have hfz19_2 := blk_frozen BK128.out 2; have hfz19_3 := blk_frozen BK128.out 3; have hfz19_4 := blk_frozen BK128.out 4; have hfz19_5 := blk_frozen BK128.out 5; have hfz19_6 := blk_frozen BK128.out 6))
        go_roundg k1
        case measure => have := HK1.out; omega
        case rel => exact ⟨(x3_1), (wrap64 (x9_1 + 1)), (by first | rfl | (simp; done) | (simp [*]; done)), (by first | rfl | (simp; done) | (simp [*]; done)), H', ⟨by have := HK1.out; omega⟩, ⟨by (with_reducible repeat (first | refine blk_drewN ?_ _ | refine blk_drew ?_ | refine blk_alloc ?_ _)); exact BK125.out⟩, ⟨by repeat (first | (with_reducible first | exact HB.out | apply below_alloc | apply pw_below_drewN | apply below_drew1 | refine below_set ?_ GE125.out | refine below_set ?_ GE128.out) | exact HB.out)⟩⟩
      ·replace c8 := Bool.eq_false_iff.mpr c8
       subst c8
       have H1 : (some false) = some r := by rw [if_neg (show ¬ (false = true) by decide)] at H; exact H
       clear H
       have H := H1
       clear H1
       obtain rfl := Option.some.inj H
       have p127 : 0 ≤ (x9_1 : Int) := of_decide_eq_true (by first | (with_reducible assumption) | assumption)
       have q127 : x9_1 < (l0_1.length : Int) := of_decide_eq_true (by first | (with_reducible assumption) | assumption)
       obtain ⟨ad127, e127, hx127_0, hx127_1, hx127_2, hx127_3, hx127_4, hx127_5, hx127_6⟩ := at_T26 HR0_1.out x9_1 p127 q127
       cases e127
       replace hx127_0 := (HB.out.cell (World.block_lt_of_cell? w _ hx127_0)).trans hx127_0
       replace hx127_1 := (HB.out.cell (World.block_lt_of_cell? w _ hx127_1)).trans hx127_1
       replace hx127_2 := (HB.out.cell (World.block_lt_of_cell? w _ hx127_2)).trans hx127_2
       replace hx127_3 := (HB.out.cell (World.block_lt_of_cell? w _ hx127_3)).trans hx127_3
       replace hx127_4 := (HB.out.cell (World.block_lt_of_cell? w _ hx127_4)).trans hx127_4
       replace hx127_5 := (HB.out.cell (World.block_lt_of_cell? w _ hx127_5)).trans hx127_5
       replace hx127_6 := (HB.out.cell (World.block_lt_of_cell? w _ hx127_6)).trans hx127_6
       replace p127 := eq_true p127
       replace q127 := eq_true q127
       go_wp2_with (first | ((with_reducible refine gate_dst (N := 5) rfl ?_); (try (refine gate_guard (by rfl) ?_; dsimp only)); refine box_event ?hg (N := 5) ?hd (cs := #[.int .i64 0, .int .i64 0, .int .i64 0, .int .i64 0, .int .i64 0, .int .i64 0, .int .i64 0]) (t := 26) ?hr ?_; (case hd => rfl); (case hg => rfl); (case hr => first | (go_simp; done) | (go_simp; rfl)); intro gb128 hg w20 hbox hb; have n0_ := Aside0.mk (blk_below (g := gb125) (o := .cells #[.string a0_0, .slice (some ad127) l0_1.length c0_1] 24 (0, 0)) (by (with_reducible repeat (first | refine blk_drewN ?_ _ | refine blk_drew ?_ | refine blk_alloc ?_ _)); exact BK125.out) hb); have n1_ := Aside0.mk (below_step (by repeat (first | (with_reducible first | exact HB.out | apply below_alloc | apply pw_below_drewN | apply below_drew1 | refine below_set ?_ GE125.out) | exact HB.out)) hb); have n2_ := Aside0.mk (hbox); have n3_ := Aside0.mk ((by rw [hg]; exact (below_size (by repeat (first | (with_reducible first | exact HB.out | apply below_alloc | apply pw_below_drewN | apply below_drew1 | refine below_set ?_ GE125.out) | exact HB.out))) : w.heap.size ≤ gb128)); have n4_ := Aside0.mk ((by rw [hg]; exact (below_size (by repeat (first | (with_reducible first | exact HB.out | apply below_alloc | apply pw_below_drewN | apply below_drew1 | refine below_set ?_ GE125.out) | exact HB.out))) : w.heap.size ≤ gb128)); have n5_ := Aside0.mk ((by rw [hg]; exact Nat.ne_of_lt (blk_lt (g := gb125) (o := .cells #[.string a0_0, .slice (some ad127) l0_1.length c0_1] 24 (0, 0)) (by (with_reducible repeat (first | refine blk_drewN ?_ _ | refine blk_drew ?_ | refine blk_alloc ?_ _)); exact BK125.out)) : gb125 ≠ gb128)); have n6_ := Aside0.mk ((by rw [hg]; exact Nat.ne_of_gt (blk_lt (g := gb125) (o := .cells #[.string a0_0, .slice (some ad127) l0_1.length c0_1] 24 (0, 0)) (by (with_reducible repeat (first | refine blk_drewN ?_ _ | refine blk_drew ?_ | refine blk_alloc ?_ _)); exact BK125.out)) : gb128 ≠ gb125)); clear BK125; clear HB; have BK125 := n0_; have HB := n1_; have BK128 := n2_; have GW128 := n3_; have GE128 := n4_; have NB125_128 := n5_; have NB128_125 := n6_; clear n0_ n1_ n2_ n3_ n4_ n5_ n6_; clear hb hbox hg; have hnb21 := NB128_125.out; have hnc21 := NB125_128.out; have hcz22_0 : w20.cell? ⟨gb128, 0, none⟩ = some (.int .i64 0) := (blk_cell BK128.out 0).trans rfl; have hcz22_1 : w20.cell? ⟨gb128, 1, none⟩ = some (.int .i64 0) := (blk_cell BK128.out 1).trans rfl; have hcz22_2 : w20.cell? ⟨gb128, 2, none⟩ = some (.int .i64 0) := (blk_cell BK128.out 2).trans rfl; have hcz22_3 : w20.cell? ⟨gb128, 3, none⟩ = some (.int .i64 0) := (blk_cell BK128.out 3).trans rfl; have hcz22_4 : w20.cell? ⟨gb128, 4, none⟩ = some (.int .i64 0) := (blk_cell BK128.out 4).trans rfl; have hcz22_5 : w20.cell? ⟨gb128, 5, none⟩ = some (.int .i64 0) := (blk_cell BK128.out 5).trans rfl; have hcz22_6 : w20.cell? ⟨gb128, 6, none⟩ = some (.int .i64 0) := (blk_cell BK128.out 6).trans rfl; have hfz22_0 := blk_frozen BK128.out 0; have hfz22_1 := blk_frozen BK128.out 1; have hfz22_2 := blk_frozen BK128.out 2; have hfz22_3 := blk_frozen BK128.out 3; have hfz22_4 := blk_frozen BK128.out 4; have hfz22_5 := blk_frozen BK128.out 5; have hfz22_6 := blk_frozen BK128.out 6) | ((with_reducible refine gate_callee (f := 72) rfl ?_); refine goesL_ (some 14) rfl rfl Try.func72 (by kernel_rfl) rfl #[.agg #[.int .i64 ((rd_T26 l0_1 x9_1).f0), .int .i64 ((rd_T26 l0_1 x9_1).f1), .int .i64 ((rd_T26 l0_1 x9_1).f2), .int .i64 ((rd_T26 l0_1 x9_1).f3), .int .i64 ((rd_T26 l0_1 x9_1).f4), .int .i64 ((rd_T26 l0_1 x9_1).f5), .int .i64 ((rd_T26 l0_1 x9_1).f6)]] rfl (by (try simp only [List.map_toArray, List.map_cons, List.map_nil]); first | done | rfl | (simp only [List.length_drop, List.length_take]; rfl)) ?_; (with_reducible refine (tariff_isArticle.calls k1 ((rd_T26 l0_1 x9_1).f0) ((rd_T26 l0_1 x9_1).f1) ((rd_T26 l0_1 x9_1).f2) ((rd_T26 l0_1 x9_1).f3) ((rd_T26 l0_1 x9_1).f4) ((rd_T26 l0_1 x9_1).f5) ((rd_T26 l0_1 x9_1).f6) false _ A7.out).mono ?_); rintro e w23 ⟨rfl, hb⟩; refine ⟨_, rfl, ?_⟩; have n0_ := Aside0.mk (blk_below (g := gb125) (o := .cells #[.string a0_0, .slice (some ad127) l0_1.length c0_1] 24 (0, 0)) (by (with_reducible repeat (first | refine blk_drewN ?_ _ | refine blk_drew ?_ | refine blk_alloc ?_ _)); refine blk_far ?_ NB125_128.out _; (with_reducible repeat (first | refine blk_drewN ?_ _ | refine blk_drew ?_ | refine blk_alloc ?_ _)); refine blk_far ?_ NB125_128.out _; (with_reducible repeat (first | refine blk_drewN ?_ _ | refine blk_drew ?_ | refine blk_alloc ?_ _)); refine blk_far ?_ NB125_128.out _; (with_reducible repeat (first | refine blk_drewN ?_ _ | refine blk_drew ?_ | refine blk_alloc ?_ _)); refine blk_far ?_ NB125_128.out _; (with_reducible repeat (first | refine blk_drewN ?_ _ | refine blk_drew ?_ | refine blk_alloc ?_ _)); refine blk_far ?_ NB125_128.out _; (with_reducible repeat (first | refine blk_drewN ?_ _ | refine blk_drew ?_ | refine blk_alloc ?_ _)); refine blk_far ?_ NB125_128.out _; (with_reducible repeat (first | refine blk_drewN ?_ _ | refine blk_drew ?_ | refine blk_alloc ?_ _)); refine blk_far ?_ NB125_128.out _; (with_reducible repeat (first | refine blk_drewN ?_ _ | refine blk_drew ?_ | refine blk_alloc ?_ _)); exact BK125.out) hb); have n1_ := Aside0.mk (blk_below (g := gb128) (o := .cells #[.int .i64 ((rd_T26 l0_1 x9_1).f0), .int .i64 ((rd_T26 l0_1 x9_1).f1), .int .i64 ((rd_T26 l0_1 x9_1).f2), .int .i64 ((rd_T26 l0_1 x9_1).f3), .int .i64 ((rd_T26 l0_1 x9_1).f4), .int .i64 ((rd_T26 l0_1 x9_1).f5), .int .i64 ((rd_T26 l0_1 x9_1).f6)] 26 (0, 0)) (by (with_reducible repeat (first | refine blk_drewN ?_ _ | refine blk_drew ?_ | refine blk_alloc ?_ _)); refine blk_put (cs := #[.int .i64 ((rd_T26 l0_1 x9_1).f0), .int .i64 ((rd_T26 l0_1 x9_1).f1), .int .i64 ((rd_T26 l0_1 x9_1).f2), .int .i64 ((rd_T26 l0_1 x9_1).f3), .int .i64 ((rd_T26 l0_1 x9_1).f4), .int .i64 ((rd_T26 l0_1 x9_1).f5), .int .i64 0]) ?_ 6 _ rfl; (with_reducible repeat (first | refine blk_drewN ?_ _ | refine blk_drew ?_ | refine blk_alloc ?_ _)); refine blk_put (cs := #[.int .i64 ((rd_T26 l0_1 x9_1).f0), .int .i64 ((rd_T26 l0_1 x9_1).f1), .int .i64 ((rd_T26 l0_1 x9_1).f2), .int .i64 ((rd_T26 l0_1 x9_1).f3), .int .i64 ((rd_T26 l0_1 x9_1).f4), .int .i64 0, .int .i64 0]) ?_ 5 _ rfl; (with_reducible repeat (first | refine blk_drewN ?_ _ | refine blk_drew ?_ | refine blk_alloc ?_ _)); refine blk_put (cs := #[.int .i64 ((rd_T26 l0_1 x9_1).f0), .int .i64 ((rd_T26 l0_1 x9_1).f1), .int .i64 ((rd_T26 l0_1 x9_1).f2), .int .i64 ((rd_T26 l0_1 x9_1).f3), .int .i64 0, .int .i64 0, .int .i64 0]) ?_ 4 _ rfl; (with_reducible repeat (first | refine blk_drewN ?_ _ | refine blk_drew ?_ | refine blk_alloc ?_ _)); refine blk_put (cs := #[.int .i64 ((rd_T26 l0_1 x9_1).f0), .int .i64 ((rd_T26 l0_1 x9_1).f1), .int .i64 ((rd_T26 l0_1 x9_1).f2), .int .i64 0, .int .i64 0, .int .i64 0, .int .i64 0]) ?_ 3 _ rfl; (with_reducible repeat (first | refine blk_drewN ?_ _ | refine blk_drew ?_ | refine blk_alloc ?_ _)); refine blk_put (cs := #[.int .i64 ((rd_T26 l0_1 x9_1).f0), .int .i64 ((rd_T26 l0_1 x9_1).f1), .int .i64 0, .int .i64 0, .int .i64 0, .int .i64 0, .int .i64 0]) ?_ 2 _ rfl; (with_reducible repeat (first | refine blk_drewN ?_ _ | refine blk_drew ?_ | refine blk_alloc ?_ _)); refine blk_put (cs := #[.int .i64 ((rd_T26 l0_1 x9_1).f0), .int .i64 0, .int .i64 0, .int .i64 0, .int .i64 0, .int .i64 0, .int .i64 0]) ?_ 1 _ rfl; (with_reducible repeat (first | refine blk_drewN ?_ _ | refine blk_drew ?_ | refine blk_alloc ?_ _)); refine blk_put (cs := #[.int .i64 0, .int .i64 0, .int .i64 0, .int .i64 0, .int .i64 0, .int .i64 0, .int .i64 0]) ?_ 0 _ rfl; (with_reducible repeat (first | refine blk_drewN ?_ _ | refine blk_drew ?_ | refine blk_alloc ?_ _)); exact BK128.out) hb); have n2_ := Aside0.mk (below_step (by repeat (first | (with_reducible first | exact HB.out | apply below_alloc | apply pw_below_drewN | apply below_drew1 | refine below_set ?_ GE125.out | refine below_set ?_ GE128.out) | exact HB.out)) hb); clear BK125; clear BK128; clear HB; have BK125 := n0_; have BK128 := n1_; have HB := n2_; clear n0_ n1_ n2_; (try clear hb); (try clear hb2); (try clear hk); (try clear hi)))
       go_ret
       exact ⟨by first | rfl | (simp [errW_none, errW_some] <;> rfl) | (simp [*, errW_none, errW_some] <;> rfl), by repeat (first | (with_reducible first | exact HB.out | apply below_alloc | apply pw_below_drewN | apply below_drew1 | refine below_set ?_ GE125.out | refine below_set ?_ GE128.out) | exact HB.out)⟩
     ·rw [if_neg c6] at H
      exact absurd H (by simp)
    ·rw [if_neg c5] at H
     exact absurd H (by simp)
   ·rw [if_neg c4] at H
    have c4b0 : decide (x9_1 < (l0_1.length : Int)) = false := decide_eq_false c4
    clear c4
    by_cases c24 : x3_1 ≤ 1
    ·rw [if_pos c24] at H
     have c24b0 : decide (x3_1 ≤ 1) = true := decide_eq_true c24
     clear c24
     by_cases c25 : (l0_1.length : Int) ≤ 12
     ·rw [if_pos c25] at H
      have c25b0 : decide ((l0_1.length : Int) ≤ 12) = true := decide_eq_true c25
      have c25b1 : decide (l0_1.length ≤ 12) = true := decide_eq_true (by omega)
      clear c25
      replace H := Option.bind_eq_some_iff.mp H
      obtain ⟨t126, A260, H⟩ := H
      replace H : (some t126) = some r := H
      have A26 := Aside0.mk A260
      clear A260
      obtain rfl := Option.some.inj H
      have hcz27_0 : wr.cell? ⟨gb125, 0, none⟩ = some (.string a0_0) := (blk_cell BK125.out 0).trans rfl
      have hcz27_1 : wr.cell? ⟨gb125, 1, none⟩ = some (.slice A0_1 l0_1.length c0_1) := (blk_cell BK125.out 1).trans rfl
      have hfz27_0 := blk_frozen BK125.out 0
      have hfz27_1 := blk_frozen BK125.out 1
      go_wp2_with (first | (go_at_call 90; (with_reducible refine (tariff_isName.calls a0_0 t126 _ A26.out).mono ?_); rintro e w28 ⟨rfl, hb⟩; have n0_ := Aside0.mk (blk_below (g := gb125) (o := .cells #[.string a0_0, .slice A0_1 l0_1.length c0_1] 24 (0, 0)) (by (with_reducible repeat (first | refine blk_drewN ?_ _ | refine blk_drew ?_ | refine blk_alloc ?_ _)); exact BK125.out) hb); have n1_ := Aside0.mk (below_step (by repeat (first | (with_reducible first | exact HB.out | apply below_alloc | apply pw_below_drewN | apply below_drew1 | refine below_set ?_ GE125.out) | exact HB.out)) hb); clear BK125; clear HB; have BK125 := n0_; have HB := n1_; clear n0_ n1_; (try clear hb); (try clear hb2); (try clear hk); (try clear hi)))
      go_ret
      exact ⟨by first | rfl | (simp [errW_none, errW_some] <;> rfl) | (simp [*, errW_none, errW_some] <;> rfl), by repeat (first | (with_reducible first | exact HB.out | apply below_alloc | apply pw_below_drewN | apply below_drew1 | refine below_set ?_ GE125.out) | exact HB.out)⟩
     ·rw [if_neg c25] at H
      have c25b0 : decide ((l0_1.length : Int) ≤ 12) = false := decide_eq_false c25
      have c25b1 : decide (l0_1.length ≤ 12) = false := decide_eq_false (by omega)
      clear c25
      obtain rfl := Option.some.inj H
      have hcz29_0 : wr.cell? ⟨gb125, 0, none⟩ = some (.string a0_0) := (blk_cell BK125.out 0).trans rfl
      have hcz29_1 : wr.cell? ⟨gb125, 1, none⟩ = some (.slice A0_1 l0_1.length c0_1) := (blk_cell BK125.out 1).trans rfl
      have hfz29_0 := blk_frozen BK125.out 0
      have hfz29_1 := blk_frozen BK125.out 1
      go_wp2
      go_ret
      exact ⟨by first | rfl | (simp [errW_none, errW_some] <;> rfl) | (simp [*, errW_none, errW_some] <;> rfl), by repeat (first | (with_reducible first | exact HB.out | apply below_alloc | apply pw_below_drewN | apply below_drew1 | refine below_set ?_ GE125.out) | exact HB.out)⟩
    ·rw [if_neg c24] at H
     have c24b0 : decide (x3_1 ≤ 1) = false := decide_eq_false c24
     clear c24
     obtain rfl := Option.some.inj H
     go_wp2
     go_ret
     exact ⟨by first | rfl | (simp [errW_none, errW_some] <;> rfl) | (simp [*, errW_none, errW_some] <;> rfl), by repeat (first | (with_reducible first | exact HB.out | apply below_alloc | apply pw_below_drewN | apply below_drew1 | refine below_set ?_ GE125.out) | exact HB.out)⟩

end Go.Proofs.Ytbkkgaiokmnmgaa.Pr
