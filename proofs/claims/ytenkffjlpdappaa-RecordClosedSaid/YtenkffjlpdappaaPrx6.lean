-- Printed by hprint.py (a program of this claim's session over the kit's printer).
import Derived.Test.YtenkffjlpdappaaPrx0
namespace Go.Proofs.Ytenkffjlpdappaa.Pr
open Go.RowKit Go.Proofs.YtenkffjlpdappaaW.PrintWords Go.Proofs.YtenkffjlpdappaaW.PrintLast
set_option linter.unusedVariables false
set_option linter.unusedSimpArgs false

/-! ### chargeparkref41_Valid: function 25 -/
def chargeparkref41_Valid.j0 : Nat → Bool → Int → Int → Int → Int → Int → Int → Int → Int → Int → Int → Int → Int → Int → Option (Bool)
 | 0, _, _, _, _, _, _, _, _, _, _, _, _, _, _ => none
 | k + 1, x30, x176000, x176001, x176002, x176003, x176004, x176005, x176006, x176007, x176008, x176009, x176010, x176011, x176012 => if x30 = true then (some false) else (if x176003 < 0 then (some false) else (if x176003 ≥ 8 then (some false) else (if x176004 < 0 then (some false) else (if x176004 ≥ 8 then (some false) else (if x176005 < 1 then (some false) else (if x176005 > x176006 then (some false) else (if x176006 > 64 then (some false) else (if x176007 ≥ 0 then (if x176007 ≤ 64000000000 then (if x176008 ≥ 0 then (some (decide (x176008 ≤ 1000000000))) else (some false)) else (some false)) else (some false)))))))))
def chargeparkref41_Valid.f (k : Nat) (a0_0 : Int) (a0_1 : Int) (a0_2 : Int) (a0_3 : Int) (a0_4 : Int) (a0_5 : Int) (a0_6 : Int) (a0_7 : Int) (a0_8 : Int) (a0_9 : Int) (a0_10 : Int) (a0_11 : Int) (a0_12 : Int) : Option (Bool) := if a0_0 < 1 then (chargeparkref41_Valid.j0 k true a0_0 a0_1 a0_2 a0_3 a0_4 a0_5 a0_6 a0_7 a0_8 a0_9 a0_10 a0_11 a0_12) else (if a0_0 > 1000000 then (chargeparkref41_Valid.j0 k true a0_0 a0_1 a0_2 a0_3 a0_4 a0_5 a0_6 a0_7 a0_8 a0_9 a0_10 a0_11 a0_12) else (if a0_2 < 1 then (chargeparkref41_Valid.j0 k true a0_0 a0_1 a0_2 a0_3 a0_4 a0_5 a0_6 a0_7 a0_8 a0_9 a0_10 a0_11 a0_12) else (if a0_2 > 1000000 then (chargeparkref41_Valid.j0 k true a0_0 a0_1 a0_2 a0_3 a0_4 a0_5 a0_6 a0_7 a0_8 a0_9 a0_10 a0_11 a0_12) else (if a0_1 < 0 then (chargeparkref41_Valid.j0 k true a0_0 a0_1 a0_2 a0_3 a0_4 a0_5 a0_6 a0_7 a0_8 a0_9 a0_10 a0_11 a0_12) else (chargeparkref41_Valid.j0 k (decide (a0_1 ≥ 16)) a0_0 a0_1 a0_2 a0_3 a0_4 a0_5 a0_6 a0_7 a0_8 a0_9 a0_10 a0_11 a0_12)))))
theorem chargeparkref41_Valid.mono_l : ∀ k, (∀ y0 y1 y2 y3 y4 y5 y6 y7 y8 y9 y10 y11 y12 y13, LeO (chargeparkref41_Valid.j0 k y0 y1 y2 y3 y4 y5 y6 y7 y8 y9 y10 y11 y12 y13) (chargeparkref41_Valid.j0 (k + 1) y0 y1 y2 y3 y4 y5 y6 y7 y8 y9 y10 y11 y12 y13))
 | 0 => fun _ _ _ _ _ _ _ _ _ _ _ _ _ _ r h => by simp [chargeparkref41_Valid.j0] at h
 | k + 1 => by
  have ih0 := chargeparkref41_Valid.mono_l k
  ·intro y0 y1 y2 y3 y4 y5 y6 y7 y8 y9 y10 y11 y12 y13
   unfold chargeparkref41_Valid.j0
   repeat' first
   | (with_reducible exact ih0 _ _ _ _ _ _ _ _ _ _ _ _ _ _)
   | (with_reducible exact LeO.refl _)
   | (with_reducible exact LeO.none _)
   | (with_reducible refine LeO.ite ?_ ?_)
   | (with_reducible refine LeO.bind ?_ (fun _ => ?_))
   | exact ih0 _ _ _ _ _ _ _ _ _ _ _ _ _ _
   | exact LeO.none _
   | refine LeO.ite ?_ ?_
   | refine LeO.bind ?_ (fun _ => ?_)
theorem chargeparkref41_Valid.mono : ∀ a0 a1 a2 a3 a4 a5 a6 a7 a8 a9 a10 a11 a12 k, LeO (chargeparkref41_Valid.f k a0 a1 a2 a3 a4 a5 a6 a7 a8 a9 a10 a11 a12) (chargeparkref41_Valid.f (k + 1) a0 a1 a2 a3 a4 a5 a6 a7 a8 a9 a10 a11 a12) := by
 intro a0 a1 a2 a3 a4 a5 a6 a7 a8 a9 a10 a11 a12 k
 have ih0 := chargeparkref41_Valid.mono_l k
 unfold chargeparkref41_Valid.f
 repeat' first
   | (with_reducible exact ih0 _ _ _ _ _ _ _ _ _ _ _ _ _ _)
   | (with_reducible exact LeO.refl _)
   | (with_reducible exact LeO.none _)
   | (with_reducible refine LeO.ite ?_ ?_)
   | (with_reducible refine LeO.bind ?_ (fun _ => ?_))
   | exact ih0 _ _ _ _ _ _ _ _ _ _ _ _ _ _
   | exact LeO.none _
   | refine LeO.ite ?_ ?_
   | refine LeO.bind ?_ (fun _ => ?_)
set_option maxHeartbeats 8000000 in
set_option maxRecDepth 100000 in
theorem chargeparkref41_Valid.calls (k : Nat) (a0_0 : Int) (a0_1 : Int) (a0_2 : Int) (a0_3 : Int) (a0_4 : Int) (a0_5 : Int) (a0_6 : Int) (a0_7 : Int) (a0_8 : Int) (a0_9 : Int) (a0_10 : Int) (a0_11 : Int) (a0_12 : Int) (r : Bool) (w : World) (h : chargeparkref41_Valid.f k a0_0 a0_1 a0_2 a0_3 a0_4 a0_5 a0_6 a0_7 a0_8 a0_9 a0_10 a0_11 a0_12 = some r) :
  Calls Try.prog 25 #[.agg #[.int .i64 a0_0, .int .i64 a0_1, .int .i64 a0_2, .int .i64 a0_3, .int .i64 a0_4, .int .i64 a0_5, .int .i64 a0_6, .int .i64 a0_7, .int .i64 a0_8, .int .u64 a0_9, .int .u64 a0_10, .int .u64 a0_11, .int .u64 a0_12]] w fun e w' => e = .returned (.bool r) ∧ Below w.heap.size w w' := by
 have hu25 := Try.underlying25
 have HB := Aside0.mk (Below.refl w.heap.size w)
 have H : (if a0_0 < 1 then (chargeparkref41_Valid.j0 k true a0_0 a0_1 a0_2 a0_3 a0_4 a0_5 a0_6 a0_7 a0_8 a0_9 a0_10 a0_11 a0_12) else (if a0_0 > 1000000 then (chargeparkref41_Valid.j0 k true a0_0 a0_1 a0_2 a0_3 a0_4 a0_5 a0_6 a0_7 a0_8 a0_9 a0_10 a0_11 a0_12) else (if a0_2 < 1 then (chargeparkref41_Valid.j0 k true a0_0 a0_1 a0_2 a0_3 a0_4 a0_5 a0_6 a0_7 a0_8 a0_9 a0_10 a0_11 a0_12) else (if a0_2 > 1000000 then (chargeparkref41_Valid.j0 k true a0_0 a0_1 a0_2 a0_3 a0_4 a0_5 a0_6 a0_7 a0_8 a0_9 a0_10 a0_11 a0_12) else (if a0_1 < 0 then (chargeparkref41_Valid.j0 k true a0_0 a0_1 a0_2 a0_3 a0_4 a0_5 a0_6 a0_7 a0_8 a0_9 a0_10 a0_11 a0_12) else (chargeparkref41_Valid.j0 k (decide (a0_1 ≥ 16)) a0_0 a0_1 a0_2 a0_3 a0_4 a0_5 a0_6 a0_7 a0_8 a0_9 a0_10 a0_11 a0_12)))))) = some r := h
 clear h
 have HC2 := Aside0.mk H
 clear H
 go_enter Try.func25, Try.ntmps25
 go_upto_region 1 with (first | ((with_reducible refine gate_dst (N := 1) rfl ?_); refine box_event ?hg (N := 1) ?hd (cs := #[.int .i64 a0_0, .int .i64 a0_1, .int .i64 a0_2, .int .i64 a0_3, .int .i64 a0_4, .int .i64 a0_5, .int .i64 a0_6, .int .i64 a0_7, .int .i64 a0_8, .int .u64 a0_9, .int .u64 a0_10, .int .u64 a0_11, .int .u64 a0_12]) (t := 25) ?hr ?_; (case hd => rfl); (case hg => rfl); (case hr => first | (go_simp; done) | (go_simp; rfl)); intro gb175 hg w3 hbox hb; have n0_ := Aside0.mk (below_step (by repeat (first | (with_reducible first | exact HB.out | apply below_alloc | apply pw_below_drewN | apply below_drew1) | exact HB.out)) hb); have n1_ := Aside0.mk (hbox); have n2_ := Aside0.mk ((by rw [hg]; exact (below_size (by repeat (first | (with_reducible first | exact HB.out | apply below_alloc | apply pw_below_drewN | apply below_drew1) | exact HB.out))) : w.heap.size ≤ gb175)); have n3_ := Aside0.mk ((by rw [hg]; exact (below_size (by repeat (first | (with_reducible first | exact HB.out | apply below_alloc | apply pw_below_drewN | apply below_drew1) | exact HB.out))) : w.heap.size ≤ gb175)); clear HB; have HB := n0_; have BK175 := n1_; have GW175 := n2_; have GE175 := n3_; clear n0_ n1_ n2_ n3_; clear hb hbox hg))
 (try simp only [Act.put, List.setIfInBounds_toArray, List.set_cons_zero, List.set_cons_succ])
 go_cut [30] (fun v30 wc => ∃ (kq : Nat) (x30_1 : Bool), v30 = .bool x30_1 ∧ Aside0 (chargeparkref41_Valid.j0 kq x30_1 a0_0 a0_1 a0_2 a0_3 a0_4 a0_5 a0_6 a0_7 a0_8 a0_9 a0_10 a0_11 a0_12 = some r) ∧ Aside0 (kq ≤ k) ∧ Aside0 (wc.heap[gb175]? = some (.cells #[.int .i64 a0_0, .int .i64 a0_1, .int .i64 a0_2, .int .i64 a0_3, .int .i64 a0_4, .int .i64 a0_5, .int .i64 a0_6, .int .i64 a0_7, .int .i64 a0_8, .int .u64 a0_9, .int .u64 a0_10, .int .u64 a0_11, .int .u64 a0_12] 25 (0, 0))) ∧ Aside0 (Below w.heap.size w wc))
 case first =>
  have H := HC2.out
  clear HC2
  by_cases c4 : a0_0 < 1
  ·rw [if_pos c4] at H
   have c4b0 : decide (a0_0 < 1) = true := decide_eq_true c4
   clear c4
   (first | rw [c4b0] | (simp only [i64_w, i32_w]; rw [c4b0]) | skip)
   have H' := Aside0.mk H
   clear H
   have hcz5_0 : w3.cell? ⟨gb175, 0, none⟩ = some (.int .i64 a0_0) := (blk_cell BK175.out 0).trans rfl
   have hcz5_1 : w3.cell? ⟨gb175, 1, none⟩ = some (.int .i64 a0_1) := (blk_cell BK175.out 1).trans rfl
   have hcz5_2 : w3.cell? ⟨gb175, 2, none⟩ = some (.int .i64 a0_2) := (blk_cell BK175.out 2).trans rfl
   have hcz5_3 : w3.cell? ⟨gb175, 3, none⟩ = some (.int .i64 a0_3) := (blk_cell BK175.out 3).trans rfl
   have hcz5_4 : w3.cell? ⟨gb175, 4, none⟩ = some (.int .i64 a0_4) := (blk_cell BK175.out 4).trans rfl
   have hcz5_5 : w3.cell? ⟨gb175, 5, none⟩ = some (.int .i64 a0_5) := (blk_cell BK175.out 5).trans rfl
   have hcz5_6 : w3.cell? ⟨gb175, 6, none⟩ = some (.int .i64 a0_6) := (blk_cell BK175.out 6).trans rfl
   have hcz5_7 : w3.cell? ⟨gb175, 7, none⟩ = some (.int .i64 a0_7) := (blk_cell BK175.out 7).trans rfl
   have hcz5_8 : w3.cell? ⟨gb175, 8, none⟩ = some (.int .i64 a0_8) := (blk_cell BK175.out 8).trans rfl
   have hcz5_9 : w3.cell? ⟨gb175, 9, none⟩ = some (.int .u64 a0_9) := (blk_cell BK175.out 9).trans rfl
   have hcz5_10 : w3.cell? ⟨gb175, 10, none⟩ = some (.int .u64 a0_10) := (blk_cell BK175.out 10).trans rfl
   have hcz5_11 : w3.cell? ⟨gb175, 11, none⟩ = some (.int .u64 a0_11) := (blk_cell BK175.out 11).trans rfl
   have hcz5_12 : w3.cell? ⟨gb175, 12, none⟩ = some (.int .u64 a0_12) := (blk_cell BK175.out 12).trans rfl
   have hfz5_0 := blk_frozen BK175.out 0
   have hfz5_1 := blk_frozen BK175.out 1
   have hfz5_2 := blk_frozen BK175.out 2
   have hfz5_3 := blk_frozen BK175.out 3
   have hfz5_4 := blk_frozen BK175.out 4
   have hfz5_5 := blk_frozen BK175.out 5
   have hfz5_6 := blk_frozen BK175.out 6
   have hfz5_7 := blk_frozen BK175.out 7
   have hfz5_8 := blk_frozen BK175.out 8
   have hfz5_9 := blk_frozen BK175.out 9
   have hfz5_10 := blk_frozen BK175.out 10
   have hfz5_11 := blk_frozen BK175.out 11
   have hfz5_12 := blk_frozen BK175.out 12
   go_wp2
   go_meet
   case rel => exact ⟨_, (true), (by first | rfl | (simp; done) | (simp [*]; done) | kernel_rfl), H', ⟨by first | omega | exact Nat.le_refl _⟩, ⟨by (with_reducible repeat (first | refine blk_drewN ?_ _ | refine blk_drew ?_ | refine blk_alloc ?_ _)); exact BK175.out⟩, ⟨by repeat (first | (with_reducible first | exact HB.out | apply below_alloc | apply pw_below_drewN | apply below_drew1 | refine below_set ?_ GE175.out) | exact HB.out)⟩⟩
  ·rw [if_neg c4] at H
   have c4b0 : decide (a0_0 < 1) = false := decide_eq_false c4
   clear c4
   (first | rw [c4b0] | (simp only [i64_w, i32_w]; rw [c4b0]) | skip)
   by_cases c6 : a0_0 > 1000000
   ·rw [if_pos c6] at H
    have c6b0 : decide (1000000 < a0_0) = true := decide_eq_true c6
    clear c6
    have H' := Aside0.mk H
    clear H
    have hcz7_0 : w3.cell? ⟨gb175, 0, none⟩ = some (.int .i64 a0_0) := (blk_cell BK175.out 0).trans rfl
    have hcz7_1 : w3.cell? ⟨gb175, 1, none⟩ = some (.int .i64 a0_1) := (blk_cell BK175.out 1).trans rfl
    have hcz7_2 : w3.cell? ⟨gb175, 2, none⟩ = some (.int .i64 a0_2) := (blk_cell BK175.out 2).trans rfl
    have hcz7_3 : w3.cell? ⟨gb175, 3, none⟩ = some (.int .i64 a0_3) := (blk_cell BK175.out 3).trans rfl
    have hcz7_4 : w3.cell? ⟨gb175, 4, none⟩ = some (.int .i64 a0_4) := (blk_cell BK175.out 4).trans rfl
    have hcz7_5 : w3.cell? ⟨gb175, 5, none⟩ = some (.int .i64 a0_5) := (blk_cell BK175.out 5).trans rfl
    have hcz7_6 : w3.cell? ⟨gb175, 6, none⟩ = some (.int .i64 a0_6) := (blk_cell BK175.out 6).trans rfl
    have hcz7_7 : w3.cell? ⟨gb175, 7, none⟩ = some (.int .i64 a0_7) := (blk_cell BK175.out 7).trans rfl
    have hcz7_8 : w3.cell? ⟨gb175, 8, none⟩ = some (.int .i64 a0_8) := (blk_cell BK175.out 8).trans rfl
    have hcz7_9 : w3.cell? ⟨gb175, 9, none⟩ = some (.int .u64 a0_9) := (blk_cell BK175.out 9).trans rfl
    have hcz7_10 : w3.cell? ⟨gb175, 10, none⟩ = some (.int .u64 a0_10) := (blk_cell BK175.out 10).trans rfl
    have hcz7_11 : w3.cell? ⟨gb175, 11, none⟩ = some (.int .u64 a0_11) := (blk_cell BK175.out 11).trans rfl
    have hcz7_12 : w3.cell? ⟨gb175, 12, none⟩ = some (.int .u64 a0_12) := (blk_cell BK175.out 12).trans rfl
    have hfz7_0 := blk_frozen BK175.out 0
    have hfz7_1 := blk_frozen BK175.out 1
    have hfz7_2 := blk_frozen BK175.out 2
    have hfz7_3 := blk_frozen BK175.out 3
    have hfz7_4 := blk_frozen BK175.out 4
    have hfz7_5 := blk_frozen BK175.out 5
    have hfz7_6 := blk_frozen BK175.out 6
    have hfz7_7 := blk_frozen BK175.out 7
    have hfz7_8 := blk_frozen BK175.out 8
    have hfz7_9 := blk_frozen BK175.out 9
    have hfz7_10 := blk_frozen BK175.out 10
    have hfz7_11 := blk_frozen BK175.out 11
    have hfz7_12 := blk_frozen BK175.out 12
    go_wp2
    go_meet
    case rel => exact ⟨_, (true), (by first | rfl | (simp; done) | (simp [*]; done) | kernel_rfl), H', ⟨by first | omega | exact Nat.le_refl _⟩, ⟨by (with_reducible repeat (first | refine blk_drewN ?_ _ | refine blk_drew ?_ | refine blk_alloc ?_ _)); exact BK175.out⟩, ⟨by repeat (first | (with_reducible first | exact HB.out | apply below_alloc | apply pw_below_drewN | apply below_drew1 | refine below_set ?_ GE175.out) | exact HB.out)⟩⟩
   ·rw [if_neg c6] at H
    have c6b0 : decide (1000000 < a0_0) = false := decide_eq_false c6
    clear c6
    by_cases c8 : a0_2 < 1
    ·rw [if_pos c8] at H
     have c8b0 : decide (a0_2 < 1) = true := decide_eq_true c8
     clear c8
     have H' := Aside0.mk H
     clear H
     have hcz9_0 : w3.cell? ⟨gb175, 0, none⟩ = some (.int .i64 a0_0) := (blk_cell BK175.out 0).trans rfl
     have hcz9_1 : w3.cell? ⟨gb175, 1, none⟩ = some (.int .i64 a0_1) := (blk_cell BK175.out 1).trans rfl
     have hcz9_2 : w3.cell? ⟨gb175, 2, none⟩ = some (.int .i64 a0_2) := (blk_cell BK175.out 2).trans rfl
     have hcz9_3 : w3.cell? ⟨gb175, 3, none⟩ = some (.int .i64 a0_3) := (blk_cell BK175.out 3).trans rfl
     have hcz9_4 : w3.cell? ⟨gb175, 4, none⟩ = some (.int .i64 a0_4) := (blk_cell BK175.out 4).trans rfl
     have hcz9_5 : w3.cell? ⟨gb175, 5, none⟩ = some (.int .i64 a0_5) := (blk_cell BK175.out 5).trans rfl
     have hcz9_6 : w3.cell? ⟨gb175, 6, none⟩ = some (.int .i64 a0_6) := (blk_cell BK175.out 6).trans rfl
     have hcz9_7 : w3.cell? ⟨gb175, 7, none⟩ = some (.int .i64 a0_7) := (blk_cell BK175.out 7).trans rfl
     have hcz9_8 : w3.cell? ⟨gb175, 8, none⟩ = some (.int .i64 a0_8) := (blk_cell BK175.out 8).trans rfl
     have hcz9_9 : w3.cell? ⟨gb175, 9, none⟩ = some (.int .u64 a0_9) := (blk_cell BK175.out 9).trans rfl
     have hcz9_10 : w3.cell? ⟨gb175, 10, none⟩ = some (.int .u64 a0_10) := (blk_cell BK175.out 10).trans rfl
     have hcz9_11 : w3.cell? ⟨gb175, 11, none⟩ = some (.int .u64 a0_11) := (blk_cell BK175.out 11).trans rfl
     have hcz9_12 : w3.cell? ⟨gb175, 12, none⟩ = some (.int .u64 a0_12) := (blk_cell BK175.out 12).trans rfl
     have hfz9_0 := blk_frozen BK175.out 0
     have hfz9_1 := blk_frozen BK175.out 1
     have hfz9_2 := blk_frozen BK175.out 2
     have hfz9_3 := blk_frozen BK175.out 3
     have hfz9_4 := blk_frozen BK175.out 4
     have hfz9_5 := blk_frozen BK175.out 5
     have hfz9_6 := blk_frozen BK175.out 6
     have hfz9_7 := blk_frozen BK175.out 7
     have hfz9_8 := blk_frozen BK175.out 8
     have hfz9_9 := blk_frozen BK175.out 9
     have hfz9_10 := blk_frozen BK175.out 10
     have hfz9_11 := blk_frozen BK175.out 11
     have hfz9_12 := blk_frozen BK175.out 12
     go_wp2
     go_meet
     case rel => exact ⟨_, (true), (by first | rfl | (simp; done) | (simp [*]; done) | kernel_rfl), H', ⟨by first | omega | exact Nat.le_refl _⟩, ⟨by (with_reducible repeat (first | refine blk_drewN ?_ _ | refine blk_drew ?_ | refine blk_alloc ?_ _)); exact BK175.out⟩, ⟨by repeat (first | (with_reducible first | exact HB.out | apply below_alloc | apply pw_below_drewN | apply below_drew1 | refine below_set ?_ GE175.out) | exact HB.out)⟩⟩
    ·rw [if_neg c8] at H
     have c8b0 : decide (a0_2 < 1) = false := decide_eq_false c8
     clear c8
     by_cases c10 : a0_2 > 1000000
     ·rw [if_pos c10] at H
      have c10b0 : decide (1000000 < a0_2) = true := decide_eq_true c10
      clear c10
      have H' := Aside0.mk H
      clear H
      have hcz11_0 : w3.cell? ⟨gb175, 0, none⟩ = some (.int .i64 a0_0) := (blk_cell BK175.out 0).trans rfl
      have hcz11_1 : w3.cell? ⟨gb175, 1, none⟩ = some (.int .i64 a0_1) := (blk_cell BK175.out 1).trans rfl
      have hcz11_2 : w3.cell? ⟨gb175, 2, none⟩ = some (.int .i64 a0_2) := (blk_cell BK175.out 2).trans rfl
      have hcz11_3 : w3.cell? ⟨gb175, 3, none⟩ = some (.int .i64 a0_3) := (blk_cell BK175.out 3).trans rfl
      have hcz11_4 : w3.cell? ⟨gb175, 4, none⟩ = some (.int .i64 a0_4) := (blk_cell BK175.out 4).trans rfl
      have hcz11_5 : w3.cell? ⟨gb175, 5, none⟩ = some (.int .i64 a0_5) := (blk_cell BK175.out 5).trans rfl
      have hcz11_6 : w3.cell? ⟨gb175, 6, none⟩ = some (.int .i64 a0_6) := (blk_cell BK175.out 6).trans rfl
      have hcz11_7 : w3.cell? ⟨gb175, 7, none⟩ = some (.int .i64 a0_7) := (blk_cell BK175.out 7).trans rfl
      have hcz11_8 : w3.cell? ⟨gb175, 8, none⟩ = some (.int .i64 a0_8) := (blk_cell BK175.out 8).trans rfl
      have hcz11_9 : w3.cell? ⟨gb175, 9, none⟩ = some (.int .u64 a0_9) := (blk_cell BK175.out 9).trans rfl
      have hcz11_10 : w3.cell? ⟨gb175, 10, none⟩ = some (.int .u64 a0_10) := (blk_cell BK175.out 10).trans rfl
      have hcz11_11 : w3.cell? ⟨gb175, 11, none⟩ = some (.int .u64 a0_11) := (blk_cell BK175.out 11).trans rfl
      have hcz11_12 : w3.cell? ⟨gb175, 12, none⟩ = some (.int .u64 a0_12) := (blk_cell BK175.out 12).trans rfl
      have hfz11_0 := blk_frozen BK175.out 0
      have hfz11_1 := blk_frozen BK175.out 1
      have hfz11_2 := blk_frozen BK175.out 2
      have hfz11_3 := blk_frozen BK175.out 3
      have hfz11_4 := blk_frozen BK175.out 4
      have hfz11_5 := blk_frozen BK175.out 5
      have hfz11_6 := blk_frozen BK175.out 6
      have hfz11_7 := blk_frozen BK175.out 7
      have hfz11_8 := blk_frozen BK175.out 8
      have hfz11_9 := blk_frozen BK175.out 9
      have hfz11_10 := blk_frozen BK175.out 10
      have hfz11_11 := blk_frozen BK175.out 11
      have hfz11_12 := blk_frozen BK175.out 12
      go_wp2
      go_meet
      case rel => exact ⟨_, (true), (by first | rfl | (simp; done) | (simp [*]; done) | kernel_rfl), H', ⟨by first | omega | exact Nat.le_refl _⟩, ⟨by (with_reducible repeat (first | refine blk_drewN ?_ _ | refine blk_drew ?_ | refine blk_alloc ?_ _)); exact BK175.out⟩, ⟨by repeat (first | (with_reducible first | exact HB.out | apply below_alloc | apply pw_below_drewN | apply below_drew1 | refine below_set ?_ GE175.out) | exact HB.out)⟩⟩
     ·rw [if_neg c10] at H
      have c10b0 : decide (1000000 < a0_2) = false := decide_eq_false c10
      clear c10
      by_cases c12 : a0_1 < 0
      ·rw [if_pos c12] at H
       have c12b0 : decide (a0_1 < 0) = true := decide_eq_true c12
       clear c12
       have H' := Aside0.mk H
       clear H
       have hcz13_0 : w3.cell? ⟨gb175, 0, none⟩ = some (.int .i64 a0_0) := (blk_cell BK175.out 0).trans rfl
       have hcz13_1 : w3.cell? ⟨gb175, 1, none⟩ = some (.int .i64 a0_1) := (blk_cell BK175.out 1).trans rfl
       have hcz13_2 : w3.cell? ⟨gb175, 2, none⟩ = some (.int .i64 a0_2) := (blk_cell BK175.out 2).trans rfl
       have hcz13_3 : w3.cell? ⟨gb175, 3, none⟩ = some (.int .i64 a0_3) := (blk_cell BK175.out 3).trans rfl
       have hcz13_4 : w3.cell? ⟨gb175, 4, none⟩ = some (.int .i64 a0_4) := (blk_cell BK175.out 4).trans rfl
       have hcz13_5 : w3.cell? ⟨gb175, 5, none⟩ = some (.int .i64 a0_5) := (blk_cell BK175.out 5).trans rfl
       have hcz13_6 : w3.cell? ⟨gb175, 6, none⟩ = some (.int .i64 a0_6) := (blk_cell BK175.out 6).trans rfl
       have hcz13_7 : w3.cell? ⟨gb175, 7, none⟩ = some (.int .i64 a0_7) := (blk_cell BK175.out 7).trans rfl
       have hcz13_8 : w3.cell? ⟨gb175, 8, none⟩ = some (.int .i64 a0_8) := (blk_cell BK175.out 8).trans rfl
       have hcz13_9 : w3.cell? ⟨gb175, 9, none⟩ = some (.int .u64 a0_9) := (blk_cell BK175.out 9).trans rfl
       have hcz13_10 : w3.cell? ⟨gb175, 10, none⟩ = some (.int .u64 a0_10) := (blk_cell BK175.out 10).trans rfl
       have hcz13_11 : w3.cell? ⟨gb175, 11, none⟩ = some (.int .u64 a0_11) := (blk_cell BK175.out 11).trans rfl
       have hcz13_12 : w3.cell? ⟨gb175, 12, none⟩ = some (.int .u64 a0_12) := (blk_cell BK175.out 12).trans rfl
       have hfz13_0 := blk_frozen BK175.out 0
       have hfz13_1 := blk_frozen BK175.out 1
       have hfz13_2 := blk_frozen BK175.out 2
       have hfz13_3 := blk_frozen BK175.out 3
       have hfz13_4 := blk_frozen BK175.out 4
       have hfz13_5 := blk_frozen BK175.out 5
       have hfz13_6 := blk_frozen BK175.out 6
       have hfz13_7 := blk_frozen BK175.out 7
       have hfz13_8 := blk_frozen BK175.out 8
       have hfz13_9 := blk_frozen BK175.out 9
       have hfz13_10 := blk_frozen BK175.out 10
       have hfz13_11 := blk_frozen BK175.out 11
       have hfz13_12 := blk_frozen BK175.out 12
       go_wp2
       go_meet
       case rel => exact ⟨_, (true), (by first | rfl | (simp; done) | (simp [*]; done) | kernel_rfl), H', ⟨by first | omega | exact Nat.le_refl _⟩, ⟨by (with_reducible repeat (first | refine blk_drewN ?_ _ | refine blk_drew ?_ | refine blk_alloc ?_ _)); exact BK175.out⟩, ⟨by repeat (first | (with_reducible first | exact HB.out | apply below_alloc | apply pw_below_drewN | apply below_drew1 | refine below_set ?_ GE175.out) | exact HB.out)⟩⟩
      ·rw [if_neg c12] at H
       have c12b0 : decide (a0_1 < 0) = false := decide_eq_false c12
       clear c12
       have H' := Aside0.mk H
       clear H
       have hcz14_0 : w3.cell? ⟨gb175, 0, none⟩ = some (.int .i64 a0_0) := (blk_cell BK175.out 0).trans rfl
       have hcz14_1 : w3.cell? ⟨gb175, 1, none⟩ = some (.int .i64 a0_1) := (blk_cell BK175.out 1).trans rfl
       have hcz14_2 : w3.cell? ⟨gb175, 2, none⟩ = some (.int .i64 a0_2) := (blk_cell BK175.out 2).trans rfl
       have hcz14_3 : w3.cell? ⟨gb175, 3, none⟩ = some (.int .i64 a0_3) := (blk_cell BK175.out 3).trans rfl
       have hcz14_4 : w3.cell? ⟨gb175, 4, none⟩ = some (.int .i64 a0_4) := (blk_cell BK175.out 4).trans rfl
       have hcz14_5 : w3.cell? ⟨gb175, 5, none⟩ = some (.int .i64 a0_5) := (blk_cell BK175.out 5).trans rfl
       have hcz14_6 : w3.cell? ⟨gb175, 6, none⟩ = some (.int .i64 a0_6) := (blk_cell BK175.out 6).trans rfl
       have hcz14_7 : w3.cell? ⟨gb175, 7, none⟩ = some (.int .i64 a0_7) := (blk_cell BK175.out 7).trans rfl
       have hcz14_8 : w3.cell? ⟨gb175, 8, none⟩ = some (.int .i64 a0_8) := (blk_cell BK175.out 8).trans rfl
       have hcz14_9 : w3.cell? ⟨gb175, 9, none⟩ = some (.int .u64 a0_9) := (blk_cell BK175.out 9).trans rfl
       have hcz14_10 : w3.cell? ⟨gb175, 10, none⟩ = some (.int .u64 a0_10) := (blk_cell BK175.out 10).trans rfl
       have hcz14_11 : w3.cell? ⟨gb175, 11, none⟩ = some (.int .u64 a0_11) := (blk_cell BK175.out 11).trans rfl
       have hcz14_12 : w3.cell? ⟨gb175, 12, none⟩ = some (.int .u64 a0_12) := (blk_cell BK175.out 12).trans rfl
       have hfz14_0 := blk_frozen BK175.out 0
       have hfz14_1 := blk_frozen BK175.out 1
       have hfz14_2 := blk_frozen BK175.out 2
       have hfz14_3 := blk_frozen BK175.out 3
       have hfz14_4 := blk_frozen BK175.out 4
       have hfz14_5 := blk_frozen BK175.out 5
       have hfz14_6 := blk_frozen BK175.out 6
       have hfz14_7 := blk_frozen BK175.out 7
       have hfz14_8 := blk_frozen BK175.out 8
       have hfz14_9 := blk_frozen BK175.out 9
       have hfz14_10 := blk_frozen BK175.out 10
       have hfz14_11 := blk_frozen BK175.out 11
       have hfz14_12 := blk_frozen BK175.out 12
       go_wp2
       go_meet
       case rel => exact ⟨_, (decide (a0_1 ≥ 16)), (by first | rfl | (simp; done) | (simp [*]; done) | kernel_rfl), H', ⟨by first | omega | exact Nat.le_refl _⟩, ⟨by (with_reducible repeat (first | refine blk_drewN ?_ _ | refine blk_drew ?_ | refine blk_alloc ?_ _)); exact BK175.out⟩, ⟨by repeat (first | (with_reducible first | exact HB.out | apply below_alloc | apply pw_below_drewN | apply below_drew1 | refine below_set ?_ GE175.out) | exact HB.out)⟩⟩
 case rest =>
  clear HC2
  try clear c1
  try clear c2
  try clear p2
  try clear c4
  try clear c4b0
  try clear c6
  try clear c6b0
  try clear c8
  try clear c8b0
  try clear c10
  try clear c10b0
  try clear c12
  try clear c12b0
  try clear hcz11_0
  try clear hcz11_1
  try clear hcz11_10
  try clear hcz11_11
  try clear hcz11_12
  try clear hcz11_2
  try clear hcz11_3
  try clear hcz11_4
  try clear hcz11_5
  try clear hcz11_6
  try clear hcz11_7
  try clear hcz11_8
  try clear hcz11_9
  try clear hcz13_0
  try clear hcz13_1
  try clear hcz13_10
  try clear hcz13_11
  try clear hcz13_12
  try clear hcz13_2
  try clear hcz13_3
  try clear hcz13_4
  try clear hcz13_5
  try clear hcz13_6
  try clear hcz13_7
  try clear hcz13_8
  try clear hcz13_9
  try clear hcz14_0
  try clear hcz14_1
  try clear hcz14_10
  try clear hcz14_11
  try clear hcz14_12
  try clear hcz14_2
  try clear hcz14_3
  try clear hcz14_4
  try clear hcz14_5
  try clear hcz14_6
  try clear hcz14_7
  try clear hcz14_8
  try clear hcz14_9
  try clear hcz5_0
  try clear hcz5_1
  try clear hcz5_10
  try clear hcz5_11
  try clear hcz5_12
  try clear hcz5_2
  try clear hcz5_3
  try clear hcz5_4
  try clear hcz5_5
  try clear hcz5_6
  try clear hcz5_7
  try clear hcz5_8
  try clear hcz5_9
  try clear hcz7_0
  try clear hcz7_1
  try clear hcz7_10
  try clear hcz7_11
  try clear hcz7_12
  try clear hcz7_2
  try clear hcz7_3
  try clear hcz7_4
  try clear hcz7_5
  try clear hcz7_6
  try clear hcz7_7
  try clear hcz7_8
  try clear hcz7_9
  try clear hcz9_0
  try clear hcz9_1
  try clear hcz9_10
  try clear hcz9_11
  try clear hcz9_12
  try clear hcz9_2
  try clear hcz9_3
  try clear hcz9_4
  try clear hcz9_5
  try clear hcz9_6
  try clear hcz9_7
  try clear hcz9_8
  try clear hcz9_9
  try clear hfz11_0
  try clear hfz11_1
  try clear hfz11_10
  try clear hfz11_11
  try clear hfz11_12
  try clear hfz11_2
  try clear hfz11_3
  try clear hfz11_4
  try clear hfz11_5
  try clear hfz11_6
  try clear hfz11_7
  try clear hfz11_8
  try clear hfz11_9
  try clear hfz13_0
  try clear hfz13_1
  try clear hfz13_10
  try clear hfz13_11
  try clear hfz13_12
  try clear hfz13_2
  try clear hfz13_3
  try clear hfz13_4
  try clear hfz13_5
  try clear hfz13_6
  try clear hfz13_7
  try clear hfz13_8
  try clear hfz13_9
  try clear hfz14_0
  try clear hfz14_1
  try clear hfz14_10
  try clear hfz14_11
  try clear hfz14_12
  try clear hfz14_2
  try clear hfz14_3
  try clear hfz14_4
  try clear hfz14_5
  try clear hfz14_6
  try clear hfz14_7
  try clear hfz14_8
  try clear hfz14_9
  try clear hfz5_0
  try clear hfz5_1
  try clear hfz5_10
  try clear hfz5_11
  try clear hfz5_12
  try clear hfz5_2
  try clear hfz5_3
  try clear hfz5_4
  try clear hfz5_5
  try clear hfz5_6
  try clear hfz5_7
  try clear hfz5_8
  try clear hfz5_9
  try clear hfz7_0
  try clear hfz7_1
  try clear hfz7_10
  try clear hfz7_11
  try clear hfz7_12
  try clear hfz7_2
  try clear hfz7_3
  try clear hfz7_4
  try clear hfz7_5
  try clear hfz7_6
  try clear hfz7_7
  try clear hfz7_8
  try clear hfz7_9
  try clear hfz9_0
  try clear hfz9_1
  try clear hfz9_10
  try clear hfz9_11
  try clear hfz9_12
  try clear hfz9_2
  try clear hfz9_3
  try clear hfz9_4
  try clear hfz9_5
  try clear hfz9_6
  try clear hfz9_7
  try clear hfz9_8
  try clear hfz9_9
  obtain ⟨kq, x30_1, rfl, HA, HJ1, BK175, HB⟩ := hcut
  cases kq with
  | zero => exact absurd HA.out (by simp [chargeparkref41_Valid.j0])
  | succ kj1 =>
   have H := HA.out
   clear HA
   simp only [chargeparkref41_Valid.j0] at H
   by_cases c15 : x30_1 = true
   ·subst c15
    have H1 : (some false) = some r := by rw [if_pos rfl] at H; exact H
    clear H
    have H := H1
    clear H1
    obtain rfl := Option.some.inj H
    go_wp2
    go_ret
    exact ⟨by first | rfl | (simp [errW_none, errW_some] <;> rfl) | (simp [*, errW_none, errW_some] <;> rfl), by repeat (first | (with_reducible first | exact HB.out | apply below_alloc | apply pw_below_drewN | apply below_drew1 | refine below_set ?_ GE175.out) | exact HB.out)⟩
   ·replace c15 := Bool.eq_false_iff.mpr c15
    subst c15
    have H1 : (if a0_3 < 0 then (some false) else (if a0_3 ≥ 8 then (some false) else (if a0_4 < 0 then (some false) else (if a0_4 ≥ 8 then (some false) else (if a0_5 < 1 then (some false) else (if a0_5 > a0_6 then (some false) else (if a0_6 > 64 then (some false) else (if a0_7 ≥ 0 then (if a0_7 ≤ 64000000000 then (if a0_8 ≥ 0 then (some (decide (a0_8 ≤ 1000000000))) else (some false)) else (some false)) else (some false))))))))) = some r := by rw [if_neg (show ¬ (false = true) by decide)] at H; exact H
    clear H
    have H := H1
    clear H1
    by_cases c16 : a0_3 < 0
    ·rw [if_pos c16] at H
     have c16b0 : decide (a0_3 < 0) = true := decide_eq_true c16
     clear c16
     obtain rfl := Option.some.inj H
     have hcz17_0 : wc.cell? ⟨gb175, 0, none⟩ = some (.int .i64 a0_0) := (blk_cell BK175.out 0).trans rfl
     have hcz17_1 : wc.cell? ⟨gb175, 1, none⟩ = some (.int .i64 a0_1) := (blk_cell BK175.out 1).trans rfl
     have hcz17_2 : wc.cell? ⟨gb175, 2, none⟩ = some (.int .i64 a0_2) := (blk_cell BK175.out 2).trans rfl
     have hcz17_3 : wc.cell? ⟨gb175, 3, none⟩ = some (.int .i64 a0_3) := (blk_cell BK175.out 3).trans rfl
     have hcz17_4 : wc.cell? ⟨gb175, 4, none⟩ = some (.int .i64 a0_4) := (blk_cell BK175.out 4).trans rfl
     have hcz17_5 : wc.cell? ⟨gb175, 5, none⟩ = some (.int .i64 a0_5) := (blk_cell BK175.out 5).trans rfl
     have hcz17_6 : wc.cell? ⟨gb175, 6, none⟩ = some (.int .i64 a0_6) := (blk_cell BK175.out 6).trans rfl
     have hcz17_7 : wc.cell? ⟨gb175, 7, none⟩ = some (.int .i64 a0_7) := (blk_cell BK175.out 7).trans rfl
     have hcz17_8 : wc.cell? ⟨gb175, 8, none⟩ = some (.int .i64 a0_8) := (blk_cell BK175.out 8).trans rfl
     have hcz17_9 : wc.cell? ⟨gb175, 9, none⟩ = some (.int .u64 a0_9) := (blk_cell BK175.out 9).trans rfl
     have hcz17_10 : wc.cell? ⟨gb175, 10, none⟩ = some (.int .u64 a0_10) := (blk_cell BK175.out 10).trans rfl
     have hcz17_11 : wc.cell? ⟨gb175, 11, none⟩ = some (.int .u64 a0_11) := (blk_cell BK175.out 11).trans rfl
     have hcz17_12 : wc.cell? ⟨gb175, 12, none⟩ = some (.int .u64 a0_12) := (blk_cell BK175.out 12).trans rfl
     have hfz17_0 := blk_frozen BK175.out 0
     have hfz17_1 := blk_frozen BK175.out 1
     have hfz17_2 := blk_frozen BK175.out 2
     have hfz17_3 := blk_frozen BK175.out 3
     have hfz17_4 := blk_frozen BK175.out 4
     have hfz17_5 := blk_frozen BK175.out 5
     have hfz17_6 := blk_frozen BK175.out 6
     have hfz17_7 := blk_frozen BK175.out 7
     have hfz17_8 := blk_frozen BK175.out 8
     have hfz17_9 := blk_frozen BK175.out 9
     have hfz17_10 := blk_frozen BK175.out 10
     have hfz17_11 := blk_frozen BK175.out 11
     have hfz17_12 := blk_frozen BK175.out 12
     go_wp2
     go_ret
     exact ⟨by first | rfl | (simp [errW_none, errW_some] <;> rfl) | (simp [*, errW_none, errW_some] <;> rfl), by repeat (first | (with_reducible first | exact HB.out | apply below_alloc | apply pw_below_drewN | apply below_drew1 | refine below_set ?_ GE175.out) | exact HB.out)⟩
    ·rw [if_neg c16] at H
     have c16b0 : decide (a0_3 < 0) = false := decide_eq_false c16
     clear c16
     by_cases c18 : a0_3 ≥ 8
     ·rw [if_pos c18] at H
      have c18b0 : decide (8 ≤ a0_3) = true := decide_eq_true c18
      clear c18
      obtain rfl := Option.some.inj H
      have hcz19_0 : wc.cell? ⟨gb175, 0, none⟩ = some (.int .i64 a0_0) := (blk_cell BK175.out 0).trans rfl
      have hcz19_1 : wc.cell? ⟨gb175, 1, none⟩ = some (.int .i64 a0_1) := (blk_cell BK175.out 1).trans rfl
      have hcz19_2 : wc.cell? ⟨gb175, 2, none⟩ = some (.int .i64 a0_2) := (blk_cell BK175.out 2).trans rfl
      have hcz19_3 : wc.cell? ⟨gb175, 3, none⟩ = some (.int .i64 a0_3) := (blk_cell BK175.out 3).trans rfl
      have hcz19_4 : wc.cell? ⟨gb175, 4, none⟩ = some (.int .i64 a0_4) := (blk_cell BK175.out 4).trans rfl
      have hcz19_5 : wc.cell? ⟨gb175, 5, none⟩ = some (.int .i64 a0_5) := (blk_cell BK175.out 5).trans rfl
      have hcz19_6 : wc.cell? ⟨gb175, 6, none⟩ = some (.int .i64 a0_6) := (blk_cell BK175.out 6).trans rfl
      have hcz19_7 : wc.cell? ⟨gb175, 7, none⟩ = some (.int .i64 a0_7) := (blk_cell BK175.out 7).trans rfl
      have hcz19_8 : wc.cell? ⟨gb175, 8, none⟩ = some (.int .i64 a0_8) := (blk_cell BK175.out 8).trans rfl
      have hcz19_9 : wc.cell? ⟨gb175, 9, none⟩ = some (.int .u64 a0_9) := (blk_cell BK175.out 9).trans rfl
      have hcz19_10 : wc.cell? ⟨gb175, 10, none⟩ = some (.int .u64 a0_10) := (blk_cell BK175.out 10).trans rfl
      have hcz19_11 : wc.cell? ⟨gb175, 11, none⟩ = some (.int .u64 a0_11) := (blk_cell BK175.out 11).trans rfl
      have hcz19_12 : wc.cell? ⟨gb175, 12, none⟩ = some (.int .u64 a0_12) := (blk_cell BK175.out 12).trans rfl
      have hfz19_0 := blk_frozen BK175.out 0
      have hfz19_1 := blk_frozen BK175.out 1
      have hfz19_2 := blk_frozen BK175.out 2
      have hfz19_3 := blk_frozen BK175.out 3
      have hfz19_4 := blk_frozen BK175.out 4
      have hfz19_5 := blk_frozen BK175.out 5
      have hfz19_6 := blk_frozen BK175.out 6
      have hfz19_7 := blk_frozen BK175.out 7
      have hfz19_8 := blk_frozen BK175.out 8
      have hfz19_9 := blk_frozen BK175.out 9
      have hfz19_10 := blk_frozen BK175.out 10
      have hfz19_11 := blk_frozen BK175.out 11
      have hfz19_12 := blk_frozen BK175.out 12
      go_wp2
      go_ret
      exact ⟨by first | rfl | (simp [errW_none, errW_some] <;> rfl) | (simp [*, errW_none, errW_some] <;> rfl), by repeat (first | (with_reducible first | exact HB.out | apply below_alloc | apply pw_below_drewN | apply below_drew1 | refine below_set ?_ GE175.out) | exact HB.out)⟩
     ·rw [if_neg c18] at H
      have c18b0 : decide (8 ≤ a0_3) = false := decide_eq_false c18
      clear c18
      by_cases c20 : a0_4 < 0
      ·rw [if_pos c20] at H
       have c20b0 : decide (a0_4 < 0) = true := decide_eq_true c20
       clear c20
       obtain rfl := Option.some.inj H
       have hcz21_0 : wc.cell? ⟨gb175, 0, none⟩ = some (.int .i64 a0_0) := (blk_cell BK175.out 0).trans rfl
       have hcz21_1 : wc.cell? ⟨gb175, 1, none⟩ = some (.int .i64 a0_1) := (blk_cell BK175.out 1).trans rfl
       have hcz21_2 : wc.cell? ⟨gb175, 2, none⟩ = some (.int .i64 a0_2) := (blk_cell BK175.out 2).trans rfl
       have hcz21_3 : wc.cell? ⟨gb175, 3, none⟩ = some (.int .i64 a0_3) := (blk_cell BK175.out 3).trans rfl
       have hcz21_4 : wc.cell? ⟨gb175, 4, none⟩ = some (.int .i64 a0_4) := (blk_cell BK175.out 4).trans rfl
       have hcz21_5 : wc.cell? ⟨gb175, 5, none⟩ = some (.int .i64 a0_5) := (blk_cell BK175.out 5).trans rfl
       have hcz21_6 : wc.cell? ⟨gb175, 6, none⟩ = some (.int .i64 a0_6) := (blk_cell BK175.out 6).trans rfl
       have hcz21_7 : wc.cell? ⟨gb175, 7, none⟩ = some (.int .i64 a0_7) := (blk_cell BK175.out 7).trans rfl
       have hcz21_8 : wc.cell? ⟨gb175, 8, none⟩ = some (.int .i64 a0_8) := (blk_cell BK175.out 8).trans rfl
       have hcz21_9 : wc.cell? ⟨gb175, 9, none⟩ = some (.int .u64 a0_9) := (blk_cell BK175.out 9).trans rfl
       have hcz21_10 : wc.cell? ⟨gb175, 10, none⟩ = some (.int .u64 a0_10) := (blk_cell BK175.out 10).trans rfl
       have hcz21_11 : wc.cell? ⟨gb175, 11, none⟩ = some (.int .u64 a0_11) := (blk_cell BK175.out 11).trans rfl
       have hcz21_12 : wc.cell? ⟨gb175, 12, none⟩ = some (.int .u64 a0_12) := (blk_cell BK175.out 12).trans rfl
       have hfz21_0 := blk_frozen BK175.out 0
       have hfz21_1 := blk_frozen BK175.out 1
       have hfz21_2 := blk_frozen BK175.out 2
       have hfz21_3 := blk_frozen BK175.out 3
       have hfz21_4 := blk_frozen BK175.out 4
       have hfz21_5 := blk_frozen BK175.out 5
       have hfz21_6 := blk_frozen BK175.out 6
       have hfz21_7 := blk_frozen BK175.out 7
       have hfz21_8 := blk_frozen BK175.out 8
       have hfz21_9 := blk_frozen BK175.out 9
       have hfz21_10 := blk_frozen BK175.out 10
       have hfz21_11 := blk_frozen BK175.out 11
       have hfz21_12 := blk_frozen BK175.out 12
       go_wp2
       go_ret
       exact ⟨by first | rfl | (simp [errW_none, errW_some] <;> rfl) | (simp [*, errW_none, errW_some] <;> rfl), by repeat (first | (with_reducible first | exact HB.out | apply below_alloc | apply pw_below_drewN | apply below_drew1 | refine below_set ?_ GE175.out) | exact HB.out)⟩
      ·rw [if_neg c20] at H
       have c20b0 : decide (a0_4 < 0) = false := decide_eq_false c20
       clear c20
       by_cases c22 : a0_4 ≥ 8
       ·rw [if_pos c22] at H
        have c22b0 : decide (8 ≤ a0_4) = true := decide_eq_true c22
        clear c22
        obtain rfl := Option.some.inj H
        have hcz23_0 : wc.cell? ⟨gb175, 0, none⟩ = some (.int .i64 a0_0) := (blk_cell BK175.out 0).trans rfl
        have hcz23_1 : wc.cell? ⟨gb175, 1, none⟩ = some (.int .i64 a0_1) := (blk_cell BK175.out 1).trans rfl
        have hcz23_2 : wc.cell? ⟨gb175, 2, none⟩ = some (.int .i64 a0_2) := (blk_cell BK175.out 2).trans rfl
        have hcz23_3 : wc.cell? ⟨gb175, 3, none⟩ = some (.int .i64 a0_3) := (blk_cell BK175.out 3).trans rfl
        have hcz23_4 : wc.cell? ⟨gb175, 4, none⟩ = some (.int .i64 a0_4) := (blk_cell BK175.out 4).trans rfl
        have hcz23_5 : wc.cell? ⟨gb175, 5, none⟩ = some (.int .i64 a0_5) := (blk_cell BK175.out 5).trans rfl
        have hcz23_6 : wc.cell? ⟨gb175, 6, none⟩ = some (.int .i64 a0_6) := (blk_cell BK175.out 6).trans rfl
        have hcz23_7 : wc.cell? ⟨gb175, 7, none⟩ = some (.int .i64 a0_7) := (blk_cell BK175.out 7).trans rfl
        have hcz23_8 : wc.cell? ⟨gb175, 8, none⟩ = some (.int .i64 a0_8) := (blk_cell BK175.out 8).trans rfl
        have hcz23_9 : wc.cell? ⟨gb175, 9, none⟩ = some (.int .u64 a0_9) := (blk_cell BK175.out 9).trans rfl
        have hcz23_10 : wc.cell? ⟨gb175, 10, none⟩ = some (.int .u64 a0_10) := (blk_cell BK175.out 10).trans rfl
        have hcz23_11 : wc.cell? ⟨gb175, 11, none⟩ = some (.int .u64 a0_11) := (blk_cell BK175.out 11).trans rfl
        have hcz23_12 : wc.cell? ⟨gb175, 12, none⟩ = some (.int .u64 a0_12) := (blk_cell BK175.out 12).trans rfl
        have hfz23_0 := blk_frozen BK175.out 0
        have hfz23_1 := blk_frozen BK175.out 1
        have hfz23_2 := blk_frozen BK175.out 2
        have hfz23_3 := blk_frozen BK175.out 3
        have hfz23_4 := blk_frozen BK175.out 4
        have hfz23_5 := blk_frozen BK175.out 5
        have hfz23_6 := blk_frozen BK175.out 6
        have hfz23_7 := blk_frozen BK175.out 7
        have hfz23_8 := blk_frozen BK175.out 8
        have hfz23_9 := blk_frozen BK175.out 9
        have hfz23_10 := blk_frozen BK175.out 10
        have hfz23_11 := blk_frozen BK175.out 11
        have hfz23_12 := blk_frozen BK175.out 12
        go_wp2
        go_ret
        exact ⟨by first | rfl | (simp [errW_none, errW_some] <;> rfl) | (simp [*, errW_none, errW_some] <;> rfl), by repeat (first | (with_reducible first | exact HB.out | apply below_alloc | apply pw_below_drewN | apply below_drew1 | refine below_set ?_ GE175.out) | exact HB.out)⟩
       ·rw [if_neg c22] at H
        have c22b0 : decide (8 ≤ a0_4) = false := decide_eq_false c22
        clear c22
        by_cases c24 : a0_5 < 1
        ·rw [if_pos c24] at H
         have c24b0 : decide (a0_5 < 1) = true := decide_eq_true c24
         clear c24
         obtain rfl := Option.some.inj H
         have hcz25_0 : wc.cell? ⟨gb175, 0, none⟩ = some (.int .i64 a0_0) := (blk_cell BK175.out 0).trans rfl
         have hcz25_1 : wc.cell? ⟨gb175, 1, none⟩ = some (.int .i64 a0_1) := (blk_cell BK175.out 1).trans rfl
         have hcz25_2 : wc.cell? ⟨gb175, 2, none⟩ = some (.int .i64 a0_2) := (blk_cell BK175.out 2).trans rfl
         have hcz25_3 : wc.cell? ⟨gb175, 3, none⟩ = some (.int .i64 a0_3) := (blk_cell BK175.out 3).trans rfl
         have hcz25_4 : wc.cell? ⟨gb175, 4, none⟩ = some (.int .i64 a0_4) := (blk_cell BK175.out 4).trans rfl
         have hcz25_5 : wc.cell? ⟨gb175, 5, none⟩ = some (.int .i64 a0_5) := (blk_cell BK175.out 5).trans rfl
         have hcz25_6 : wc.cell? ⟨gb175, 6, none⟩ = some (.int .i64 a0_6) := (blk_cell BK175.out 6).trans rfl
         have hcz25_7 : wc.cell? ⟨gb175, 7, none⟩ = some (.int .i64 a0_7) := (blk_cell BK175.out 7).trans rfl
         have hcz25_8 : wc.cell? ⟨gb175, 8, none⟩ = some (.int .i64 a0_8) := (blk_cell BK175.out 8).trans rfl
         have hcz25_9 : wc.cell? ⟨gb175, 9, none⟩ = some (.int .u64 a0_9) := (blk_cell BK175.out 9).trans rfl
         have hcz25_10 : wc.cell? ⟨gb175, 10, none⟩ = some (.int .u64 a0_10) := (blk_cell BK175.out 10).trans rfl
         have hcz25_11 : wc.cell? ⟨gb175, 11, none⟩ = some (.int .u64 a0_11) := (blk_cell BK175.out 11).trans rfl
         have hcz25_12 : wc.cell? ⟨gb175, 12, none⟩ = some (.int .u64 a0_12) := (blk_cell BK175.out 12).trans rfl
         have hfz25_0 := blk_frozen BK175.out 0
         have hfz25_1 := blk_frozen BK175.out 1
         have hfz25_2 := blk_frozen BK175.out 2
         have hfz25_3 := blk_frozen BK175.out 3
         have hfz25_4 := blk_frozen BK175.out 4
         have hfz25_5 := blk_frozen BK175.out 5
         have hfz25_6 := blk_frozen BK175.out 6
         have hfz25_7 := blk_frozen BK175.out 7
         have hfz25_8 := blk_frozen BK175.out 8
         have hfz25_9 := blk_frozen BK175.out 9
         have hfz25_10 := blk_frozen BK175.out 10
         have hfz25_11 := blk_frozen BK175.out 11
         have hfz25_12 := blk_frozen BK175.out 12
         go_wp2
         go_ret
         exact ⟨by first | rfl | (simp [errW_none, errW_some] <;> rfl) | (simp [*, errW_none, errW_some] <;> rfl), by repeat (first | (with_reducible first | exact HB.out | apply below_alloc | apply pw_below_drewN | apply below_drew1 | refine below_set ?_ GE175.out) | exact HB.out)⟩
        ·rw [if_neg c24] at H
         have c24b0 : decide (a0_5 < 1) = false := decide_eq_false c24
         clear c24
         by_cases c26 : a0_5 > a0_6
         ·rw [if_pos c26] at H
          have c26b0 : decide (a0_6 < a0_5) = true := decide_eq_true c26
          clear c26
          obtain rfl := Option.some.inj H
          have hcz27_0 : wc.cell? ⟨gb175, 0, none⟩ = some (.int .i64 a0_0) := (blk_cell BK175.out 0).trans rfl
          have hcz27_1 : wc.cell? ⟨gb175, 1, none⟩ = some (.int .i64 a0_1) := (blk_cell BK175.out 1).trans rfl
          have hcz27_2 : wc.cell? ⟨gb175, 2, none⟩ = some (.int .i64 a0_2) := (blk_cell BK175.out 2).trans rfl
          have hcz27_3 : wc.cell? ⟨gb175, 3, none⟩ = some (.int .i64 a0_3) := (blk_cell BK175.out 3).trans rfl
          have hcz27_4 : wc.cell? ⟨gb175, 4, none⟩ = some (.int .i64 a0_4) := (blk_cell BK175.out 4).trans rfl
          have hcz27_5 : wc.cell? ⟨gb175, 5, none⟩ = some (.int .i64 a0_5) := (blk_cell BK175.out 5).trans rfl
          have hcz27_6 : wc.cell? ⟨gb175, 6, none⟩ = some (.int .i64 a0_6) := (blk_cell BK175.out 6).trans rfl
          have hcz27_7 : wc.cell? ⟨gb175, 7, none⟩ = some (.int .i64 a0_7) := (blk_cell BK175.out 7).trans rfl
          have hcz27_8 : wc.cell? ⟨gb175, 8, none⟩ = some (.int .i64 a0_8) := (blk_cell BK175.out 8).trans rfl
          have hcz27_9 : wc.cell? ⟨gb175, 9, none⟩ = some (.int .u64 a0_9) := (blk_cell BK175.out 9).trans rfl
          have hcz27_10 : wc.cell? ⟨gb175, 10, none⟩ = some (.int .u64 a0_10) := (blk_cell BK175.out 10).trans rfl
          have hcz27_11 : wc.cell? ⟨gb175, 11, none⟩ = some (.int .u64 a0_11) := (blk_cell BK175.out 11).trans rfl
          have hcz27_12 : wc.cell? ⟨gb175, 12, none⟩ = some (.int .u64 a0_12) := (blk_cell BK175.out 12).trans rfl
          have hfz27_0 := blk_frozen BK175.out 0
          have hfz27_1 := blk_frozen BK175.out 1
          have hfz27_2 := blk_frozen BK175.out 2
          have hfz27_3 := blk_frozen BK175.out 3
          have hfz27_4 := blk_frozen BK175.out 4
          have hfz27_5 := blk_frozen BK175.out 5
          have hfz27_6 := blk_frozen BK175.out 6
          have hfz27_7 := blk_frozen BK175.out 7
          have hfz27_8 := blk_frozen BK175.out 8
          have hfz27_9 := blk_frozen BK175.out 9
          have hfz27_10 := blk_frozen BK175.out 10
          have hfz27_11 := blk_frozen BK175.out 11
          have hfz27_12 := blk_frozen BK175.out 12
          go_wp2
          go_ret
          exact ⟨by first | rfl | (simp [errW_none, errW_some] <;> rfl) | (simp [*, errW_none, errW_some] <;> rfl), by repeat (first | (with_reducible first | exact HB.out | apply below_alloc | apply pw_below_drewN | apply below_drew1 | refine below_set ?_ GE175.out) | exact HB.out)⟩
         ·rw [if_neg c26] at H
          have c26b0 : decide (a0_6 < a0_5) = false := decide_eq_false c26
          clear c26
          by_cases c28 : a0_6 > 64
          ·rw [if_pos c28] at H
           have c28b0 : decide (64 < a0_6) = true := decide_eq_true c28
           clear c28
           obtain rfl := Option.some.inj H
           have hcz29_0 : wc.cell? ⟨gb175, 0, none⟩ = some (.int .i64 a0_0) := (blk_cell BK175.out 0).trans rfl
           have hcz29_1 : wc.cell? ⟨gb175, 1, none⟩ = some (.int .i64 a0_1) := (blk_cell BK175.out 1).trans rfl
           have hcz29_2 : wc.cell? ⟨gb175, 2, none⟩ = some (.int .i64 a0_2) := (blk_cell BK175.out 2).trans rfl
           have hcz29_3 : wc.cell? ⟨gb175, 3, none⟩ = some (.int .i64 a0_3) := (blk_cell BK175.out 3).trans rfl
           have hcz29_4 : wc.cell? ⟨gb175, 4, none⟩ = some (.int .i64 a0_4) := (blk_cell BK175.out 4).trans rfl
           have hcz29_5 : wc.cell? ⟨gb175, 5, none⟩ = some (.int .i64 a0_5) := (blk_cell BK175.out 5).trans rfl
           have hcz29_6 : wc.cell? ⟨gb175, 6, none⟩ = some (.int .i64 a0_6) := (blk_cell BK175.out 6).trans rfl
           have hcz29_7 : wc.cell? ⟨gb175, 7, none⟩ = some (.int .i64 a0_7) := (blk_cell BK175.out 7).trans rfl
           have hcz29_8 : wc.cell? ⟨gb175, 8, none⟩ = some (.int .i64 a0_8) := (blk_cell BK175.out 8).trans rfl
           have hcz29_9 : wc.cell? ⟨gb175, 9, none⟩ = some (.int .u64 a0_9) := (blk_cell BK175.out 9).trans rfl
           have hcz29_10 : wc.cell? ⟨gb175, 10, none⟩ = some (.int .u64 a0_10) := (blk_cell BK175.out 10).trans rfl
           have hcz29_11 : wc.cell? ⟨gb175, 11, none⟩ = some (.int .u64 a0_11) := (blk_cell BK175.out 11).trans rfl
           have hcz29_12 : wc.cell? ⟨gb175, 12, none⟩ = some (.int .u64 a0_12) := (blk_cell BK175.out 12).trans rfl
           have hfz29_0 := blk_frozen BK175.out 0
           have hfz29_1 := blk_frozen BK175.out 1
           have hfz29_2 := blk_frozen BK175.out 2
           have hfz29_3 := blk_frozen BK175.out 3
           have hfz29_4 := blk_frozen BK175.out 4
           have hfz29_5 := blk_frozen BK175.out 5
           have hfz29_6 := blk_frozen BK175.out 6
           have hfz29_7 := blk_frozen BK175.out 7
           have hfz29_8 := blk_frozen BK175.out 8
           have hfz29_9 := blk_frozen BK175.out 9
           have hfz29_10 := blk_frozen BK175.out 10
           have hfz29_11 := blk_frozen BK175.out 11
           have hfz29_12 := blk_frozen BK175.out 12
           go_wp2
           go_ret
           exact ⟨by first | rfl | (simp [errW_none, errW_some] <;> rfl) | (simp [*, errW_none, errW_some] <;> rfl), by repeat (first | (with_reducible first | exact HB.out | apply below_alloc | apply pw_below_drewN | apply below_drew1 | refine below_set ?_ GE175.out) | exact HB.out)⟩
          ·rw [if_neg c28] at H
           have c28b0 : decide (64 < a0_6) = false := decide_eq_false c28
           clear c28
           by_cases c30 : a0_7 ≥ 0
           ·rw [if_pos c30] at H
            have c30b0 : decide (0 ≤ a0_7) = true := decide_eq_true c30
            clear c30
            by_cases c31 : a0_7 ≤ 64000000000
            ·rw [if_pos c31] at H
             have c31b0 : decide (a0_7 ≤ 64000000000) = true := decide_eq_true c31
             clear c31
             by_cases c32 : a0_8 ≥ 0
             ·rw [if_pos c32] at H
              have c32b0 : decide (0 ≤ a0_8) = true := decide_eq_true c32
              clear c32
              obtain rfl := Option.some.inj H
              have hcz33_0 : wc.cell? ⟨gb175, 0, none⟩ = some (.int .i64 a0_0) := (blk_cell BK175.out 0).trans rfl
              have hcz33_1 : wc.cell? ⟨gb175, 1, none⟩ = some (.int .i64 a0_1) := (blk_cell BK175.out 1).trans rfl
              have hcz33_2 : wc.cell? ⟨gb175, 2, none⟩ = some (.int .i64 a0_2) := (blk_cell BK175.out 2).trans rfl
              have hcz33_3 : wc.cell? ⟨gb175, 3, none⟩ = some (.int .i64 a0_3) := (blk_cell BK175.out 3).trans rfl
              have hcz33_4 : wc.cell? ⟨gb175, 4, none⟩ = some (.int .i64 a0_4) := (blk_cell BK175.out 4).trans rfl
              have hcz33_5 : wc.cell? ⟨gb175, 5, none⟩ = some (.int .i64 a0_5) := (blk_cell BK175.out 5).trans rfl
              have hcz33_6 : wc.cell? ⟨gb175, 6, none⟩ = some (.int .i64 a0_6) := (blk_cell BK175.out 6).trans rfl
              have hcz33_7 : wc.cell? ⟨gb175, 7, none⟩ = some (.int .i64 a0_7) := (blk_cell BK175.out 7).trans rfl
              have hcz33_8 : wc.cell? ⟨gb175, 8, none⟩ = some (.int .i64 a0_8) := (blk_cell BK175.out 8).trans rfl
              have hcz33_9 : wc.cell? ⟨gb175, 9, none⟩ = some (.int .u64 a0_9) := (blk_cell BK175.out 9).trans rfl
              have hcz33_10 : wc.cell? ⟨gb175, 10, none⟩ = some (.int .u64 a0_10) := (blk_cell BK175.out 10).trans rfl
              have hcz33_11 : wc.cell? ⟨gb175, 11, none⟩ = some (.int .u64 a0_11) := (blk_cell BK175.out 11).trans rfl
              have hcz33_12 : wc.cell? ⟨gb175, 12, none⟩ = some (.int .u64 a0_12) := (blk_cell BK175.out 12).trans rfl
              have hfz33_0 := blk_frozen BK175.out 0
              have hfz33_1 := blk_frozen BK175.out 1
              have hfz33_2 := blk_frozen BK175.out 2
              have hfz33_3 := blk_frozen BK175.out 3
              have hfz33_4 := blk_frozen BK175.out 4
              have hfz33_5 := blk_frozen BK175.out 5
              have hfz33_6 := blk_frozen BK175.out 6
              have hfz33_7 := blk_frozen BK175.out 7
              have hfz33_8 := blk_frozen BK175.out 8
              have hfz33_9 := blk_frozen BK175.out 9
              have hfz33_10 := blk_frozen BK175.out 10
              have hfz33_11 := blk_frozen BK175.out 11
              have hfz33_12 := blk_frozen BK175.out 12
              go_wp2
              go_ret
              exact ⟨by first | rfl | (simp [errW_none, errW_some] <;> rfl) | (simp [*, errW_none, errW_some] <;> rfl), by repeat (first | (with_reducible first | exact HB.out | apply below_alloc | apply pw_below_drewN | apply below_drew1 | refine below_set ?_ GE175.out) | exact HB.out)⟩
             ·rw [if_neg c32] at H
              have c32b0 : decide (0 ≤ a0_8) = false := decide_eq_false c32
              clear c32
              obtain rfl := Option.some.inj H
              have hcz34_0 : wc.cell? ⟨gb175, 0, none⟩ = some (.int .i64 a0_0) := (blk_cell BK175.out 0).trans rfl
              have hcz34_1 : wc.cell? ⟨gb175, 1, none⟩ = some (.int .i64 a0_1) := (blk_cell BK175.out 1).trans rfl
              have hcz34_2 : wc.cell? ⟨gb175, 2, none⟩ = some (.int .i64 a0_2) := (blk_cell BK175.out 2).trans rfl
              have hcz34_3 : wc.cell? ⟨gb175, 3, none⟩ = some (.int .i64 a0_3) := (blk_cell BK175.out 3).trans rfl
              have hcz34_4 : wc.cell? ⟨gb175, 4, none⟩ = some (.int .i64 a0_4) := (blk_cell BK175.out 4).trans rfl
              have hcz34_5 : wc.cell? ⟨gb175, 5, none⟩ = some (.int .i64 a0_5) := (blk_cell BK175.out 5).trans rfl
              have hcz34_6 : wc.cell? ⟨gb175, 6, none⟩ = some (.int .i64 a0_6) := (blk_cell BK175.out 6).trans rfl
              have hcz34_7 : wc.cell? ⟨gb175, 7, none⟩ = some (.int .i64 a0_7) := (blk_cell BK175.out 7).trans rfl
              have hcz34_8 : wc.cell? ⟨gb175, 8, none⟩ = some (.int .i64 a0_8) := (blk_cell BK175.out 8).trans rfl
              have hcz34_9 : wc.cell? ⟨gb175, 9, none⟩ = some (.int .u64 a0_9) := (blk_cell BK175.out 9).trans rfl
              have hcz34_10 : wc.cell? ⟨gb175, 10, none⟩ = some (.int .u64 a0_10) := (blk_cell BK175.out 10).trans rfl
              have hcz34_11 : wc.cell? ⟨gb175, 11, none⟩ = some (.int .u64 a0_11) := (blk_cell BK175.out 11).trans rfl
              have hcz34_12 : wc.cell? ⟨gb175, 12, none⟩ = some (.int .u64 a0_12) := (blk_cell BK175.out 12).trans rfl
              have hfz34_0 := blk_frozen BK175.out 0
              have hfz34_1 := blk_frozen BK175.out 1
              have hfz34_2 := blk_frozen BK175.out 2
              have hfz34_3 := blk_frozen BK175.out 3
              have hfz34_4 := blk_frozen BK175.out 4
              have hfz34_5 := blk_frozen BK175.out 5
              have hfz34_6 := blk_frozen BK175.out 6
              have hfz34_7 := blk_frozen BK175.out 7
              have hfz34_8 := blk_frozen BK175.out 8
              have hfz34_9 := blk_frozen BK175.out 9
              have hfz34_10 := blk_frozen BK175.out 10
              have hfz34_11 := blk_frozen BK175.out 11
              have hfz34_12 := blk_frozen BK175.out 12
              go_wp2
              go_ret
              exact ⟨by first | rfl | (simp [errW_none, errW_some] <;> rfl) | (simp [*, errW_none, errW_some] <;> rfl), by repeat (first | (with_reducible first | exact HB.out | apply below_alloc | apply pw_below_drewN | apply below_drew1 | refine below_set ?_ GE175.out) | exact HB.out)⟩
            ·rw [if_neg c31] at H
             have c31b0 : decide (a0_7 ≤ 64000000000) = false := decide_eq_false c31
             clear c31
             obtain rfl := Option.some.inj H
             have hcz35_0 : wc.cell? ⟨gb175, 0, none⟩ = some (.int .i64 a0_0) := (blk_cell BK175.out 0).trans rfl
             have hcz35_1 : wc.cell? ⟨gb175, 1, none⟩ = some (.int .i64 a0_1) := (blk_cell BK175.out 1).trans rfl
             have hcz35_2 : wc.cell? ⟨gb175, 2, none⟩ = some (.int .i64 a0_2) := (blk_cell BK175.out 2).trans rfl
             have hcz35_3 : wc.cell? ⟨gb175, 3, none⟩ = some (.int .i64 a0_3) := (blk_cell BK175.out 3).trans rfl
             have hcz35_4 : wc.cell? ⟨gb175, 4, none⟩ = some (.int .i64 a0_4) := (blk_cell BK175.out 4).trans rfl
             have hcz35_5 : wc.cell? ⟨gb175, 5, none⟩ = some (.int .i64 a0_5) := (blk_cell BK175.out 5).trans rfl
             have hcz35_6 : wc.cell? ⟨gb175, 6, none⟩ = some (.int .i64 a0_6) := (blk_cell BK175.out 6).trans rfl
             have hcz35_7 : wc.cell? ⟨gb175, 7, none⟩ = some (.int .i64 a0_7) := (blk_cell BK175.out 7).trans rfl
             have hcz35_8 : wc.cell? ⟨gb175, 8, none⟩ = some (.int .i64 a0_8) := (blk_cell BK175.out 8).trans rfl
             have hcz35_9 : wc.cell? ⟨gb175, 9, none⟩ = some (.int .u64 a0_9) := (blk_cell BK175.out 9).trans rfl
             have hcz35_10 : wc.cell? ⟨gb175, 10, none⟩ = some (.int .u64 a0_10) := (blk_cell BK175.out 10).trans rfl
             have hcz35_11 : wc.cell? ⟨gb175, 11, none⟩ = some (.int .u64 a0_11) := (blk_cell BK175.out 11).trans rfl
             have hcz35_12 : wc.cell? ⟨gb175, 12, none⟩ = some (.int .u64 a0_12) := (blk_cell BK175.out 12).trans rfl
             have hfz35_0 := blk_frozen BK175.out 0
             have hfz35_1 := blk_frozen BK175.out 1
             have hfz35_2 := blk_frozen BK175.out 2
             have hfz35_3 := blk_frozen BK175.out 3
             have hfz35_4 := blk_frozen BK175.out 4
             have hfz35_5 := blk_frozen BK175.out 5
             have hfz35_6 := blk_frozen BK175.out 6
             have hfz35_7 := blk_frozen BK175.out 7
             have hfz35_8 := blk_frozen BK175.out 8
             have hfz35_9 := blk_frozen BK175.out 9
             have hfz35_10 := blk_frozen BK175.out 10
             have hfz35_11 := blk_frozen BK175.out 11
             have hfz35_12 := blk_frozen BK175.out 12
             go_wp2
             go_ret
             exact ⟨by first | rfl | (simp [errW_none, errW_some] <;> rfl) | (simp [*, errW_none, errW_some] <;> rfl), by repeat (first | (with_reducible first | exact HB.out | apply below_alloc | apply pw_below_drewN | apply below_drew1 | refine below_set ?_ GE175.out) | exact HB.out)⟩
           ·rw [if_neg c30] at H
            have c30b0 : decide (0 ≤ a0_7) = false := decide_eq_false c30
            clear c30
            obtain rfl := Option.some.inj H
            have hcz36_0 : wc.cell? ⟨gb175, 0, none⟩ = some (.int .i64 a0_0) := (blk_cell BK175.out 0).trans rfl
            have hcz36_1 : wc.cell? ⟨gb175, 1, none⟩ = some (.int .i64 a0_1) := (blk_cell BK175.out 1).trans rfl
            have hcz36_2 : wc.cell? ⟨gb175, 2, none⟩ = some (.int .i64 a0_2) := (blk_cell BK175.out 2).trans rfl
            have hcz36_3 : wc.cell? ⟨gb175, 3, none⟩ = some (.int .i64 a0_3) := (blk_cell BK175.out 3).trans rfl
            have hcz36_4 : wc.cell? ⟨gb175, 4, none⟩ = some (.int .i64 a0_4) := (blk_cell BK175.out 4).trans rfl
            have hcz36_5 : wc.cell? ⟨gb175, 5, none⟩ = some (.int .i64 a0_5) := (blk_cell BK175.out 5).trans rfl
            have hcz36_6 : wc.cell? ⟨gb175, 6, none⟩ = some (.int .i64 a0_6) := (blk_cell BK175.out 6).trans rfl
            have hcz36_7 : wc.cell? ⟨gb175, 7, none⟩ = some (.int .i64 a0_7) := (blk_cell BK175.out 7).trans rfl
            have hcz36_8 : wc.cell? ⟨gb175, 8, none⟩ = some (.int .i64 a0_8) := (blk_cell BK175.out 8).trans rfl
            have hcz36_9 : wc.cell? ⟨gb175, 9, none⟩ = some (.int .u64 a0_9) := (blk_cell BK175.out 9).trans rfl
            have hcz36_10 : wc.cell? ⟨gb175, 10, none⟩ = some (.int .u64 a0_10) := (blk_cell BK175.out 10).trans rfl
            have hcz36_11 : wc.cell? ⟨gb175, 11, none⟩ = some (.int .u64 a0_11) := (blk_cell BK175.out 11).trans rfl
            have hcz36_12 : wc.cell? ⟨gb175, 12, none⟩ = some (.int .u64 a0_12) := (blk_cell BK175.out 12).trans rfl
            have hfz36_0 := blk_frozen BK175.out 0
            have hfz36_1 := blk_frozen BK175.out 1
            have hfz36_2 := blk_frozen BK175.out 2
            have hfz36_3 := blk_frozen BK175.out 3
            have hfz36_4 := blk_frozen BK175.out 4
            have hfz36_5 := blk_frozen BK175.out 5
            have hfz36_6 := blk_frozen BK175.out 6
            have hfz36_7 := blk_frozen BK175.out 7
            have hfz36_8 := blk_frozen BK175.out 8
            have hfz36_9 := blk_frozen BK175.out 9
            have hfz36_10 := blk_frozen BK175.out 10
            have hfz36_11 := blk_frozen BK175.out 11
            have hfz36_12 := blk_frozen BK175.out 12
            go_wp2
            go_ret
            exact ⟨by first | rfl | (simp [errW_none, errW_some] <;> rfl) | (simp [*, errW_none, errW_some] <;> rfl), by repeat (first | (with_reducible first | exact HB.out | apply below_alloc | apply pw_below_drewN | apply below_drew1 | refine below_set ?_ GE175.out) | exact HB.out)⟩

end Go.Proofs.Ytenkffjlpdappaa.Pr
