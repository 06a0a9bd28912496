-- Printed by hprint.py (a program of this claim's session over the kit's printer).
import Derived.Test.YtenkffjlpdappaaPrx0
import Derived.Test.YtenkffjlpdappaaPrx5
import Derived.Test.YtenkffjlpdappaaPrx6
import Derived.Test.YtenkffjlpdappaaPrx9
namespace Go.Proofs.Ytenkffjlpdappaa.Pr
open Go.RowKit Go.Proofs.YtenkffjlpdappaaW.PrintWords Go.Proofs.YtenkffjlpdappaaW.PrintLast
set_option linter.unusedVariables false
set_option linter.unusedSimpArgs false

/-! ### chargeparkref41_Close: function 19 -/
def chargeparkref41_Close.l0 : Nat → Int → Int → Int → Int → Int → Int → Int → Int → Int → Int → Int → Int → Int → Int → Int → Int → Int → Int → Option (Int × Int × Int × Int × Int × Int × Int × Int × Int × Int × Int × Int × Int × Int)
 | 0, _, _, _, _, _, _, _, _, _, _, _, _, _, _, _, _, _, _ => none
 | k + 1, x10, x192000, x192001, x192002, x192003, x192004, x192005, x192006, x192007, x192008, x192009, x192010, x192011, x192012, x193000, x193001, x193002, x193003 => if x10 < 4 then (if x10 = 0 then ((chargeparkref41_Sign.f k x192000 x192001 x192002 x192003 x192004 x192005 x192006 x192007 x192008 x192009 x192010 x192011 x192012 x193000).bind fun t197 => (chargeparkref41_Close.l0 k (wrap64 (x10 + 1)) x192000 x192001 x192002 x192003 x192004 x192005 x192006 x192007 x192008 t197 x192010 x192011 x192012 x193000 x193001 x193002 x193003)) else (if x10 = 1 then ((chargeparkref41_Sign.f k x192000 x192001 x192002 x192003 x192004 x192005 x192006 x192007 x192008 x192009 x192010 x192011 x192012 x193001).bind fun t198 => (chargeparkref41_Close.l0 k (wrap64 (x10 + 1)) x192000 x192001 x192002 x192003 x192004 x192005 x192006 x192007 x192008 x192009 t198 x192011 x192012 x193000 x193001 x193002 x193003)) else (if x10 = 2 then ((chargeparkref41_Sign.f k x192000 x192001 x192002 x192003 x192004 x192005 x192006 x192007 x192008 x192009 x192010 x192011 x192012 x193002).bind fun t199 => (chargeparkref41_Close.l0 k (wrap64 (x10 + 1)) x192000 x192001 x192002 x192003 x192004 x192005 x192006 x192007 x192008 x192009 x192010 t199 x192012 x193000 x193001 x193002 x193003)) else (if x10 = 3 then ((chargeparkref41_Sign.f k x192000 x192001 x192002 x192003 x192004 x192005 x192006 x192007 x192008 x192009 x192010 x192011 x192012 x193003).bind fun t200 => (chargeparkref41_Close.l0 k (wrap64 (x10 + 1)) x192000 x192001 x192002 x192003 x192004 x192005 x192006 x192007 x192008 x192009 x192010 x192011 t200 x193000 x193001 x193002 x193003)) else (none))))) else (some (x192000, x192001, x192002, x192003, x192004, x192005, x192006, x192007, x192008, x192009, x192010, x192011, x192012, 0))
def chargeparkref41_Close.f (k : Nat) (a0_0 : Int) (a0_1 : Int) (a0_2 : Int) (a0_3 : Int) (a0_4 : Int) (a0_5 : Int) (a0_6 : Int) (a0_7 : Int) (a0_8 : Int) (a0_9 : Int) (a0_10 : Int) (a0_11 : Int) (a0_12 : Int) (l1 : List (S44)) (a2_0 : Int) (a2_1 : Int) (a2_2 : Int) (a2_3 : Int) : Option (Int × Int × Int × Int × Int × Int × Int × Int × Int × Int × Int × Int × Int × Int) := (chargeparkref41_Valid.f k a0_0 a0_1 a0_2 a0_3 a0_4 a0_5 a0_6 0 a0_8 a0_9 a0_10 a0_11 a0_12).bind fun t194 => (if t194 = true then ((chargeparkref40_Energy.f k l1 a0_5 a0_6).bind fun bt195 => (if bt195.2 = 0 then (chargeparkref41_Close.l0 k 0 a0_0 a0_1 a0_2 a0_3 a0_4 a0_5 a0_6 bt195.1 a0_8 a0_9 a0_10 a0_11 a0_12 a2_0 a2_1 a2_2 a2_3) else (some (0, 0, 0, 0, 0, 0, 0, 0, 0, 0, 0, 0, 0, bt195.2)))) else (some (0, 0, 0, 0, 0, 0, 0, 0, 0, 0, 0, 0, 0, 1)))
theorem chargeparkref41_Close.mono_l : ∀ k, (∀ y0 y1 y2 y3 y4 y5 y6 y7 y8 y9 y10 y11 y12 y13 y14 y15 y16 y17, LeO (chargeparkref41_Close.l0 k y0 y1 y2 y3 y4 y5 y6 y7 y8 y9 y10 y11 y12 y13 y14 y15 y16 y17) (chargeparkref41_Close.l0 (k + 1) y0 y1 y2 y3 y4 y5 y6 y7 y8 y9 y10 y11 y12 y13 y14 y15 y16 y17))
 | 0 => fun _ _ _ _ _ _ _ _ _ _ _ _ _ _ _ _ _ _ r h => by simp [chargeparkref41_Close.l0] at h
 | k + 1 => by
  have ih0 := chargeparkref41_Close.mono_l k
  ·intro y0 y1 y2 y3 y4 y5 y6 y7 y8 y9 y10 y11 y12 y13 y14 y15 y16 y17
   unfold chargeparkref41_Close.l0
   repeat' first
   | (with_reducible exact ih0 _ _ _ _ _ _ _ _ _ _ _ _ _ _ _ _ _ _)
   | (with_reducible exact chargeparkref40_Energy.mono _ _ _ _)
   | (with_reducible exact chargeparkref41_Sign.mono _ _ _ _ _ _ _ _ _ _ _ _ _ _ _)
   | (with_reducible exact chargeparkref41_Valid.mono _ _ _ _ _ _ _ _ _ _ _ _ _ _)
   | (with_reducible exact LeO.refl _)
   | (with_reducible exact LeO.none _)
   | (with_reducible refine LeO.ite ?_ ?_)
   | (with_reducible refine LeO.bind ?_ (fun _ => ?_))
   | exact ih0 _ _ _ _ _ _ _ _ _ _ _ _ _ _ _ _ _ _
   | exact chargeparkref40_Energy.mono _ _ _ _
   | exact chargeparkref41_Sign.mono _ _ _ _ _ _ _ _ _ _ _ _ _ _ _
   | exact chargeparkref41_Valid.mono _ _ _ _ _ _ _ _ _ _ _ _ _ _
   | exact LeO.none _
   | refine LeO.ite ?_ ?_
   | refine LeO.bind ?_ (fun _ => ?_)
theorem chargeparkref41_Close.mono : ∀ a0 a1 a2 a3 a4 a5 a6 a7 a8 a9 a10 a11 a12 a13 a14 a15 a16 a17 k, LeO (chargeparkref41_Close.f k a0 a1 a2 a3 a4 a5 a6 a7 a8 a9 a10 a11 a12 a13 a14 a15 a16 a17) (chargeparkref41_Close.f (k + 1) a0 a1 a2 a3 a4 a5 a6 a7 a8 a9 a10 a11 a12 a13 a14 a15 a16 a17) := by
 intro a0 a1 a2 a3 a4 a5 a6 a7 a8 a9 a10 a11 a12 a13 a14 a15 a16 a17 k
 have ih0 := chargeparkref41_Close.mono_l k
 unfold chargeparkref41_Close.f
 repeat' first
   | (with_reducible exact ih0 _ _ _ _ _ _ _ _ _ _ _ _ _ _ _ _ _ _)
   | (with_reducible exact chargeparkref40_Energy.mono _ _ _ _)
   | (with_reducible exact chargeparkref41_Sign.mono _ _ _ _ _ _ _ _ _ _ _ _ _ _ _)
   | (with_reducible exact chargeparkref41_Valid.mono _ _ _ _ _ _ _ _ _ _ _ _ _ _)
   | (with_reducible exact LeO.refl _)
   | (with_reducible exact LeO.none _)
   | (with_reducible refine LeO.ite ?_ ?_)
   | (with_reducible refine LeO.bind ?_ (fun _ => ?_))
   | exact ih0 _ _ _ _ _ _ _ _ _ _ _ _ _ _ _ _ _ _
   | exact chargeparkref40_Energy.mono _ _ _ _
   | exact chargeparkref41_Sign.mono _ _ _ _ _ _ _ _ _ _ _ _ _ _ _
   | exact chargeparkref41_Valid.mono _ _ _ _ _ _ _ _ _ _ _ _ _ _
   | exact LeO.none _
   | refine LeO.ite ?_ ?_
   | refine LeO.bind ?_ (fun _ => ?_)
def chargeparkref41_Close.T11 : Bool × List (List Nat × List Nat) := (true, [([], []), ([], []), ([], []), ([2], [2]), ([3], [3]), ([1, 4], [1, 4]), ([], []), ([6, 0, 0, 1, 2, 3, 4, 5], [0, 6]), ([7, 5, 5, 0, 1, 2, 3, 4, 5], [5, 7])])
def chargeparkref41_Close.B11 : List Nat := [0, 0, 0, 4, 12, 30, 0, 127, 255]
theorem chargeparkref41_Close.tab11 : rtab .any (opsOf Try.f19 11) = chargeparkref41_Close.T11 := by kernel_rfl
theorem chargeparkref41_Close.bits11 : waitsOk chargeparkref41_Close.T11.2 chargeparkref41_Close.B11 = true := by kernel_rfl
set_option maxHeartbeats 8000000 in
set_option maxRecDepth 100000 in
theorem chargeparkref41_Close.calls (k : Nat) (a0_0 : Int) (a0_1 : Int) (a0_2 : Int) (a0_3 : Int) (a0_4 : Int) (a0_5 : Int) (a0_6 : Int) (a0_7 : Int) (a0_8 : Int) (a0_9 : Int) (a0_10 : Int) (a0_11 : Int) (a0_12 : Int) (A1 : Option Addr) (c1 : Nat) (l1 : List (S44)) (a2_0 : Int) (a2_1 : Int) (a2_2 : Int) (a2_3 : Int) (r1 : Int) (r2 : Int) (r3 : Int) (r4 : Int) (r5 : Int) (r6 : Int) (r7 : Int) (r8 : Int) (r9 : Int) (r10 : Int) (r11 : Int) (r12 : Int) (r13 : Int) (r14 : Int) (w : World) (hr1 : Kd.C k44 w A1 l1.length l1) (hc1 : l1.length ≤ c1) (h : chargeparkref41_Close.f k a0_0 a0_1 a0_2 a0_3 a0_4 a0_5 a0_6 a0_7 a0_8 a0_9 a0_10 a0_11 a0_12 l1 a2_0 a2_1 a2_2 a2_3 = some (r1, r2, r3, r4, r5, r6, r7, r8, r9, r10, r11, r12, r13, r14)) :
  Calls Try.prog 19 #[.agg #[.int .i64 a0_0, .int .i64 a0_1, .int .i64 a0_2, .int .i64 a0_3, .int .i64 a0_4, .int .i64 a0_5, .int .i64 a0_6, .int .i64 a0_7, .int .i64 a0_8, .int .u64 a0_9, .int .u64 a0_10, .int .u64 a0_11, .int .u64 a0_12], .slice A1 l1.length c1, .agg #[.int .u64 a2_0, .int .u64 a2_1, .int .u64 a2_2, .int .u64 a2_3]] w fun e w' => e = .returned (.tuple #[.agg #[.int .i64 r1, .int .i64 r2, .int .i64 r3, .int .i64 r4, .int .i64 r5, .int .i64 r6, .int .i64 r7, .int .i64 r8, .int .i64 r9, .int .u64 r10, .int .u64 r11, .int .u64 r12, .int .u64 r13], .int .i64 r14]) ∧ Below w.heap.size w w' := by
 have hu25 := Try.underlying25
 have hu23 := Try.underlying23
 have HR1 := Aside0.mk hr1
 have HC1 := Aside0.mk hc1
 clear hr1 hc1
 have HB := Aside0.mk (Below.refl w.heap.size w)
 have H : ((chargeparkref41_Valid.f k a0_0 a0_1 a0_2 a0_3 a0_4 a0_5 a0_6 0 a0_8 a0_9 a0_10 a0_11 a0_12).bind fun t194 => (if t194 = true then ((chargeparkref40_Energy.f k l1 a0_5 a0_6).bind fun bt195 => (if bt195.2 = 0 then (chargeparkref41_Close.l0 k 0 a0_0 a0_1 a0_2 a0_3 a0_4 a0_5 a0_6 bt195.1 a0_8 a0_9 a0_10 a0_11 a0_12 a2_0 a2_1 a2_2 a2_3) else (some (0, 0, 0, 0, 0, 0, 0, 0, 0, 0, 0, 0, 0, bt195.2)))) else (some (0, 0, 0, 0, 0, 0, 0, 0, 0, 0, 0, 0, 0, 1)))) = some (r1, r2, r3, r4, r5, r6, r7, r8, r9, r10, r11, r12, r13, r14) := h
 clear h
 replace H := Option.bind_eq_some_iff.mp H
 obtain ⟨t194, A40, H⟩ := H
 replace H : (if t194 = true then ((chargeparkref40_Energy.f k l1 a0_5 a0_6).bind fun bt195 => (if bt195.2 = 0 then (chargeparkref41_Close.l0 k 0 a0_0 a0_1 a0_2 a0_3 a0_4 a0_5 a0_6 bt195.1 a0_8 a0_9 a0_10 a0_11 a0_12 a2_0 a2_1 a2_2 a2_3) else (some (0, 0, 0, 0, 0, 0, 0, 0, 0, 0, 0, 0, 0, bt195.2)))) else (some (0, 0, 0, 0, 0, 0, 0, 0, 0, 0, 0, 0, 0, 1))) = some (r1, r2, r3, r4, r5, r6, r7, r8, r9, r10, r11, r12, r13, r14) := H
 have A4 := Aside0.mk A40
 clear A40
 by_cases c5 : t194 = true
 ·subst c5
  have H1 : ((chargeparkref40_Energy.f k l1 a0_5 a0_6).bind fun bt195 => (if bt195.2 = 0 then (chargeparkref41_Close.l0 k 0 a0_0 a0_1 a0_2 a0_3 a0_4 a0_5 a0_6 bt195.1 a0_8 a0_9 a0_10 a0_11 a0_12 a2_0 a2_1 a2_2 a2_3) else (some (0, 0, 0, 0, 0, 0, 0, 0, 0, 0, 0, 0, 0, bt195.2)))) = some (r1, r2, r3, r4, r5, r6, r7, r8, r9, r10, r11, r12, r13, r14) := by rw [if_pos rfl] at H; exact H
  clear H
  have H := H1
  clear H1
  replace H := Option.bind_eq_some_iff.mp H
  obtain ⟨⟨t195, t196⟩, A60, H⟩ := H
  replace H : (if t196 = 0 then (chargeparkref41_Close.l0 k 0 a0_0 a0_1 a0_2 a0_3 a0_4 a0_5 a0_6 t195 a0_8 a0_9 a0_10 a0_11 a0_12 a2_0 a2_1 a2_2 a2_3) else (some (0, 0, 0, 0, 0, 0, 0, 0, 0, 0, 0, 0, 0, t196))) = some (r1, r2, r3, r4, r5, r6, r7, r8, r9, r10, r11, r12, r13, r14) := H
  have A6 := Aside0.mk A60
  clear A60
  by_cases c7 : t196 = 0
  ·rw [if_pos c7] at H
   have c7b0 : (t196 == 0) = true := beq_iff_eq.mpr c7
   have c7b1 : (t196 != 0) = false := bne_eq_false_iff_eq.mpr c7
   clear c7
   have H' := Aside0.mk H
   clear H
   go_enter Try.func19, Try.ntmps19
   go_wp2_with (first | ((with_reducible refine gate_dst (N := 3) rfl ?_); refine box_event ?hg (N := 3) ?hd (cs := #[.int .i64 a0_0, .int .i64 a0_1, .int .i64 a0_2, .int .i64 a0_3, .int .i64 a0_4, .int .i64 a0_5, .int .i64 a0_6, .int .i64 a0_7, .int .i64 a0_8, .int .u64 a0_9, .int .u64 a0_10, .int .u64 a0_11, .int .u64 a0_12]) (t := 25) ?hr ?_; (case hd => rfl); (case hg => rfl); (case hr => first | (go_simp; done) | (go_simp; rfl)); intro gb191 hg w8 hbox hb; have n0_ := Aside0.mk (below_step (by repeat (first | (with_reducible first | exact HB.out | apply below_alloc | apply pw_below_drewN | apply below_drew1) | exact HB.out)) hb); have n1_ := Aside0.mk (hbox); have n2_ := Aside0.mk ((by rw [hg]; exact (below_size (by repeat (first | (with_reducible first | exact HB.out | apply below_alloc | apply pw_below_drewN | apply below_drew1) | exact HB.out))) : w.heap.size ≤ gb191)); have n3_ := Aside0.mk ((by rw [hg]; exact (below_size (by repeat (first | (with_reducible first | exact HB.out | apply below_alloc | apply pw_below_drewN | apply below_drew1) | exact HB.out))) : w.heap.size ≤ gb191)); clear HB; have HB := n0_; have BK191 := n1_; have GW191 := n2_; have GE191 := n3_; clear n0_ n1_ n2_ n3_; clear hb hbox hg) | ((with_reducible refine gate_dst (N := 5) rfl ?_); refine box_event ?hg (N := 5) ?hd (cs := #[.int .u64 a2_0, .int .u64 a2_1, .int .u64 a2_2, .int .u64 a2_3]) (t := 23) ?hr ?_; (case hd => rfl); (case hg => rfl); (case hr => first | (go_simp; done) | (go_simp; rfl)); intro gb192 hg w9 hbox hb; have n0_ := Aside0.mk (blk_below (g := gb191) (o := .cells #[.int .i64 a0_0, .int .i64 a0_1, .int .i64 a0_2, .int .i64 a0_3, .int .i64 a0_4, .int .i64 a0_5, .int .i64 a0_6, .int .i64 a0_7, .int .i64 a0_8, .int .u64 a0_9, .int .u64 a0_10, .int .u64 a0_11, .int .u64 a0_12] 25 (0, 0)) (by (with_reducible repeat (first | refine blk_drewN ?_ _ | refine blk_drew ?_ | refine blk_alloc ?_ _)); exact BK191.out) hb); have n1_ := Aside0.mk (below_step (by repeat (first | (with_reducible first | exact HB.out | apply below_alloc | apply pw_below_drewN | apply below_drew1 | refine below_set ?_ GE191.out) | exact HB.out)) hb); have n2_ := Aside0.mk (hbox); have n3_ := Aside0.mk ((by rw [hg]; exact (below_size (by repeat (first | (with_reducible first | exact HB.out | apply below_alloc | apply pw_below_drewN | apply below_drew1 | refine below_set ?_ GE191.out) | exact HB.out))) : w.heap.size ≤ gb192)); have n4_ := Aside0.mk ((by rw [hg]; exact (below_size (by repeat (first | (with_reducible first | exact HB.out | apply below_alloc | apply pw_below_drewN | apply below_drew1 | refine below_set ?_ GE191.out) | exact HB.out))) : w.heap.size ≤ gb192)); have n5_ := Aside0.mk ((by rw [hg]; exact Nat.ne_of_lt (blk_lt (g := gb191) (o := .cells #[.int .i64 a0_0, .int .i64 a0_1, .int .i64 a0_2, .int .i64 a0_3, .int .i64 a0_4, .int .i64 a0_5, .int .i64 a0_6, .int .i64 a0_7, .int .i64 a0_8, .int .u64 a0_9, .int .u64 a0_10, .int .u64 a0_11, .int .u64 a0_12] 25 (0, 0)) (by (with_reducible repeat (first | refine blk_drewN ?_ _ | refine blk_drew ?_ | refine blk_alloc ?_ _)); exact BK191.out)) : gb191 ≠ gb192)); have n6_ := Aside0.mk ((by rw [hg]; exact Nat.ne_of_gt (blk_lt (g := gb191) (o := .cells #[.int .i64 a0_0, .int .i64 a0_1, .int .i64 a0_2, .int .i64 a0_3, .int .i64 a0_4, .int .i64 a0_5, .int .i64 a0_6, .int .i64 a0_7, .int .i64 a0_8, .int .u64 a0_9, .int .u64 a0_10, .int .u64 a0_11, .int .u64 a0_12] 25 (0, 0)) (by (with_reducible repeat (first | refine blk_drewN ?_ _ | refine blk_drew ?_ | refine blk_alloc ?_ _)); exact BK191.out)) : gb192 ≠ gb191)); clear BK191; clear HB; have BK191 := n0_; have HB := n1_; have BK192 := n2_; have GW192 := n3_; have GE192 := n4_; have NB191_192 := n5_; have NB192_191 := n6_; clear n0_ n1_ n2_ n3_ n4_ n5_ n6_; clear hb hbox hg) | ((with_reducible refine gate_dst (N := 6) rfl ?_); refine box_event ?hg (N := 6) ?hd (cs := #[.int .i64 0, .int .i64 0, .int .i64 0, .int .i64 0, .int .i64 0, .int .i64 0, .int .i64 0, .int .i64 0, .int .i64 0, .int .u64 0, .int .u64 0, .int .u64 0, .int .u64 0]) (t := 25) ?hr ?_; (case hd => rfl); (case hg => rfl); (case hr => first | (go_simp; done) | (go_simp; rfl)); intro gb193 hg w10 hbox hb; have n0_ := Aside0.mk (blk_below (g := gb191) (o := .cells #[.int .i64 a0_0, .int .i64 a0_1, .int .i64 a0_2, .int .i64 a0_3, .int .i64 a0_4, .int .i64 a0_5, .int .i64 a0_6, .int .i64 a0_7, .int .i64 a0_8, .int .u64 a0_9, .int .u64 a0_10, .int .u64 a0_11, .int .u64 a0_12] 25 (0, 0)) (by (with_reducible repeat (first | refine blk_drewN ?_ _ | refine blk_drew ?_ | refine blk_alloc ?_ _)); exact BK191.out) hb); have n1_ := Aside0.mk (blk_below (g := gb192) (o := .cells #[.int .u64 a2_0, .int .u64 a2_1, .int .u64 a2_2, .int .u64 a2_3] 23 (0, 0)) (by (with_reducible repeat (first | refine blk_drewN ?_ _ | refine blk_drew ?_ | refine blk_alloc ?_ _)); exact BK192.out) hb); have n2_ := Aside0.mk (below_step (by repeat (first | (with_reducible first | exact HB.out | apply below_alloc | apply pw_below_drewN | apply below_drew1 | refine below_set ?_ GE191.out | refine below_set ?_ GE192.out) | exact HB.out)) hb); have n3_ := Aside0.mk (hbox); have n4_ := Aside0.mk ((by rw [hg]; exact (below_size (by repeat (first | (with_reducible first | exact HB.out | apply below_alloc | apply pw_below_drewN | apply below_drew1 | refine below_set ?_ GE191.out | refine below_set ?_ GE192.out) | exact HB.out))) : w.heap.size ≤ gb193)); have n5_ := Aside0.mk ((by rw [hg]; exact (below_size (by repeat (first | (with_reducible first | exact HB.out | apply below_alloc | apply pw_below_drewN | apply below_drew1 | refine below_set ?_ GE191.out | refine below_set ?_ GE192.out) | exact HB.out))) : w.heap.size ≤ gb193)); have n6_ := Aside0.mk ((by rw [hg]; exact Nat.ne_of_lt (blk_lt (g := gb191) (o := .cells #[.int .i64 a0_0, .int .i64 a0_1, .int .i64 a0_2, .int .i64 a0_3, .int .i64 a0_4, .int .i64 a0_5, .int .i64 a0_6, .int .i64 a0_7, .int .i64 a0_8, .int .u64 a0_9, .int .u64 a0_10, .int .u64 a0_11, .int .u64 a0_12] 25 (0, 0)) (by (with_reducible repeat (first | refine blk_drewN ?_ _ | refine blk_drew ?_ | refine blk_alloc ?_ _)); exact BK191.out)) : gb191 ≠ gb193)); have n7_ := Aside0.mk ((by rw [hg]; exact Nat.ne_of_gt (blk_lt (g := gb191) (o := .cells #[.int .i64 a0_0, .int .i64 a0_1, .int .i64 a0_2, .int .i64 a0_3, .int .i64 a0_4, .int .i64 a0_5, .int .i64 a0_6, .int .i64 a0_7, .int .i64 a0_8, .int .u64 a0_9, .int .u64 a0_10, .int .u64 a0_11, .int .u64 a0_12] 25 (0, 0)) (by (with_reducible repeat (first | refine blk_drewN ?_ _ | refine blk_drew ?_ | refine blk_alloc ?_ _)); exact BK191.out)) : gb193 ≠ gb191)); have n8_ := Aside0.mk ((by rw [hg]; exact Nat.ne_of_lt (blk_lt (g := gb192) (o := .cells #[.int .u64 a2_0, .int .u64 a2_1, .int .u64 a2_2, .int .u64 a2_3] 23 (0, 0)) (by (with_reducible repeat (first | refine blk_drewN ?_ _ | refine blk_drew ?_ | refine blk_alloc ?_ _)); exact BK192.out)) : gb192 ≠ gb193)); have n9_ := Aside0.mk ((by rw [hg]; exact Nat.ne_of_gt (blk_lt (g := gb192) (o := .cells #[.int .u64 a2_0, .int .u64 a2_1, .int .u64 a2_2, .int .u64 a2_3] 23 (0, 0)) (by (with_reducible repeat (first | refine blk_drewN ?_ _ | refine blk_drew ?_ | refine blk_alloc ?_ _)); exact BK192.out)) : gb193 ≠ gb192)); clear BK191; clear BK192; clear HB; have BK191 := n0_; have BK192 := n1_; have HB := n2_; have BK193 := n3_; have GW193 := n4_; have GE193 := n5_; have NB191_193 := n6_; have NB193_191 := n7_; have NB192_193 := n8_; have NB193_192 := n9_; clear n0_ n1_ n2_ n3_ n4_ n5_ n6_ n7_ n8_ n9_; clear hb hbox hg; have hnb11 := NB191_192.out; have hnc11 := NB192_191.out; have hnb12 := NB191_193.out; have hnc12 := NB193_191.out; have hcz13_0 : w10.cell? ⟨gb191, 0, none⟩ = some (.int .i64 a0_0) := (blk_cell BK191.out 0).trans rfl; have hcz13_1 : w10.cell? ⟨gb191, 1, none⟩ = some (.int .i64 a0_1) := (blk_cell BK191.out 1).trans rfl; have hcz13_2 : w10.cell? ⟨gb191, 2, none⟩ = some (.int .i64 a0_2) := (blk_cell BK191.out 2).trans rfl; have hcz13_3 : w10.cell? ⟨gb191, 3, none⟩ = some (.int .i64 a0_3) := (blk_cell BK191.out 3).trans rfl; have hcz13_4 : w10.cell? ⟨gb191, 4, none⟩ = some (.int .i64 a0_4) := (blk_cell BK191.out 4).trans rfl; have hcz13_5 : w10.cell? ⟨gb191, 5, none⟩ = some (.int .i64 a0_5) := (blk_cell BK191.out 5).trans rfl; have hcz13_6 : w10.cell? ⟨gb191, 6, none⟩ = some (.int .i64 a0_6) := (blk_cell BK191.out 6).trans rfl; have hcz13_7 : w10.cell? ⟨gb191, 7, none⟩ = some (.int .i64 a0_7) := (blk_cell BK191.out 7).trans rfl; have hcz13_8 : w10.cell? ⟨gb191, 8, none⟩ = some (.int .i64 a0_8) := (blk_cell BK191.out 8).trans rfl; have hcz13_9 : w10.cell? ⟨gb191, 9, none⟩ = some (.int .u64 a0_9) := (blk_cell BK191.out 9).trans rfl; have hcz13_10 : w10.cell? ⟨gb191, 10, none⟩ = some (.int .u64 a0_10) := (blk_cell BK191.out 10).trans rfl; have hcz13_11 : w10.cell? ⟨gb191, 11, none⟩ = some (.int .u64 a0_11) := (blk_cell BK191.out 11).trans rfl; have hcz13_12 : w10.cell? ⟨gb191, 12, none⟩ = some (.int .u64 a0_12) := (blk_cell BK191.out 12).trans rfl; have hfz13_0 := blk_frozen BK191.out 0; have hfz13_1 := blk_frozen BK191.out 1; have hfz13_2 := blk_frozen BK191.out 2; have hfz13_3 := blk_frozen BK191.out 3; have hfz13_4 := blk_frozen BK191.out 4; have hfz13_5 := blk_frozen BK191.out 5; have hfz13_6 := blk_frozen BK191.out 6; have hfz13_7 := blk_frozen BK191.out 7; have hfz13_8 := blk_frozen BK191.out 8; have hfz13_9 := blk_frozen BK191.out 9; have hfz13_10 := blk_frozen BK191.out 10; have hfz13_11 := blk_frozen BK191.out 11; have hfz13_12 := blk_frozen BK191.out 12) | ((with_reducible refine gate_callee (f := 25) rfl ?_); refine goesL_ (some 13) rfl rfl Try.func25 (by kernel_rfl) rfl #[.agg #[.int .i64 a0_0, .int .i64 a0_1, .int .i64 a0_2, .int .i64 a0_3, .int .i64 a0_4, .int .i64 a0_5, .int .i64 a0_6, .int .i64 0, .int .i64 a0_8, .int .u64 a0_9, .int .u64 a0_10, .int .u64 a0_11, .int .u64 a0_12]] rfl (by (try simp only [List.map_toArray, List.map_cons, List.map_nil]); first | done | rfl | (simp only [List.length_drop, List.length_take]; rfl)) ?_; (with_reducible refine (chargeparkref41_Valid.calls k a0_0 a0_1 a0_2 a0_3 a0_4 a0_5 a0_6 0 a0_8 a0_9 a0_10 a0_11 a0_12 true _ A4.out).mono ?_); rintro e w14 ⟨rfl, hb⟩; refine ⟨_, rfl, ?_⟩; have n0_ := Aside0.mk (blk_below (g := gb191) (o := .cells #[.int .i64 a0_0, .int .i64 a0_1, .int .i64 a0_2, .int .i64 a0_3, .int .i64 a0_4, .int .i64 a0_5, .int .i64 a0_6, .int .i64 0, .int .i64 a0_8, .int .u64 a0_9, .int .u64 a0_10, .int .u64 a0_11, .int .u64 a0_12] 25 (0, 0)) (by (with_reducible repeat (first | refine blk_drewN ?_ _ | refine blk_drew ?_ | refine blk_alloc ?_ _)); refine blk_put (cs := #[.int .i64 a0_0, .int .i64 a0_1, .int .i64 a0_2, .int .i64 a0_3, .int .i64 a0_4, .int .i64 a0_5, .int .i64 a0_6, .int .i64 a0_7, .int .i64 a0_8, .int .u64 a0_9, .int .u64 a0_10, .int .u64 a0_11, .int .u64 a0_12]) ?_ 7 _ rfl; (with_reducible repeat (first | refine blk_drewN ?_ _ | refine blk_drew ?_ | refine blk_alloc ?_ _)); exact BK191.out) hb); have n1_ := Aside0.mk (blk_below (g := gb192) (o := .cells #[.int .u64 a2_0, .int .u64 a2_1, .int .u64 a2_2, .int .u64 a2_3] 23 (0, 0)) (by (with_reducible repeat (first | refine blk_drewN ?_ _ | refine blk_drew ?_ | refine blk_alloc ?_ _)); refine blk_far ?_ NB192_191.out _; (with_reducible repeat (first | refine blk_drewN ?_ _ | refine blk_drew ?_ | refine blk_alloc ?_ _)); exact BK192.out) hb); have n2_ := Aside0.mk (blk_below (g := gb193) (o := .cells #[.int .i64 0, .int .i64 0, .int .i64 0, .int .i64 0, .int .i64 0, .int .i64 0, .int .i64 0, .int .i64 0, .int .i64 0, .int .u64 0, .int .u64 0, .int .u64 0, .int .u64 0] 25 (0, 0)) (by (with_reducible repeat (first | refine blk_drewN ?_ _ | refine blk_drew ?_ | refine blk_alloc ?_ _)); refine blk_far ?_ NB193_191.out _; (with_reducible repeat (first | refine blk_drewN ?_ _ | refine blk_drew ?_ | refine blk_alloc ?_ _)); exact BK193.out) hb); have n3_ := Aside0.mk (below_step (by repeat (first | (with_reducible first | exact HB.out | apply below_alloc | apply pw_below_drewN | apply below_drew1 | refine below_set ?_ GE191.out | refine below_set ?_ GE192.out | refine below_set ?_ GE193.out) | exact HB.out)) hb); clear BK191; clear BK192; clear BK193; clear HB; have BK191 := n0_; have BK192 := n1_; have BK193 := n2_; have HB := n3_; clear n0_ n1_ n2_ n3_; (try clear hb); (try clear hb2); (try clear hk); (try clear hi); have hcz15_0 : w14.cell? ⟨gb191, 0, none⟩ = some (.int .i64 a0_0) := (blk_cell BK191.out 0).trans rfl; have hcz15_1 : w14.cell? ⟨gb191, 1, none⟩ = some (.int .i64 a0_1) := (blk_cell BK191.out 1).trans rfl; have hcz15_2 : w14.cell? ⟨gb191, 2, none⟩ = some (.int .i64 a0_2) := (blk_cell BK191.out 2).trans rfl; have hcz15_3 : w14.cell? ⟨gb191, 3, none⟩ = some (.int .i64 a0_3) := (blk_cell BK191.out 3).trans rfl; have hcz15_4 : w14.cell? ⟨gb191, 4, none⟩ = some (.int .i64 a0_4) := (blk_cell BK191.out 4).trans rfl; have hcz15_5 : w14.cell? ⟨gb191, 5, none⟩ = some (.int .i64 a0_5) := (blk_cell BK191.out 5).trans rfl; have hcz15_6 : w14.cell? ⟨gb191, 6, none⟩ = some (.int .i64 a0_6) := (blk_cell BK191.out 6).trans rfl; have hcz15_7 : w14.cell? ⟨gb191, 7, none⟩ = some (.int .i64 0) := (blk_cell BK191.out 7).trans rfl; have hcz15_8 : w14.cell? ⟨gb191, 8, none⟩ = some (.int .i64 a0_8) := (blk_cell BK191.out 8).trans rfl; have hcz15_9 : w14.cell? ⟨gb191, 9, none⟩ = some (.int .u64 a0_9) := (blk_cell BK191.out 9).trans rfl; have hcz15_10 : w14.cell? ⟨gb191, 10, none⟩ = some (.int .u64 a0_10) := (blk_cell BK191.out 10).trans rfl; have hcz15_11 : w14.cell? ⟨gb191, 11, none⟩ = some (.int .u64 a0_11) := (blk_cell BK191.out 11).trans rfl; have hcz15_12 : w14.cell? ⟨gb191, 12, none⟩ = some (.int .u64 a0_12) := (blk_cell BK191.out 12).trans rfl; have hfz15_0 := blk_frozen BK191.out 0; have hfz15_1 := blk_frozen BK191.out 1; have hfz15_2 := blk_frozen BK191.out 2; have hfz15_3 := blk_frozen BK191.out 3; have hfz15_4 := blk_frozen BK191.out 4; have hfz15_5 := blk_frozen BK191.out 5; have hfz15_6 := blk_frozen BK191.out 6; have hfz15_7 := blk_frozen BK191.out 7; have hfz15_8 := blk_frozen BK191.out 8; have hfz15_9 := blk_frozen BK191.out 9; have hfz15_10 := blk_frozen BK191.out 10; have hfz15_11 := blk_frozen BK191.out 11; have hfz15_12 := blk_frozen BK191.out 12) | ((with_reducible refine gate_callee (f := 31) rfl ?_); refine goesL_ (some 22) rfl rfl Try.func31 (by kernel_rfl) rfl #[.slice A1 l1.length c1, .int .i64 a0_5, .int .i64 a0_6] rfl (by (try simp only [List.map_toArray, List.map_cons, List.map_nil]); first | done | rfl | (simp only [List.length_drop, List.length_take]; rfl)) ?_; (with_reducible refine (chargeparkref40_Energy.calls k _ _ l1 a0_5 a0_6 t195 t196 _ ?side1 ?side2 A6.out).mono ?_); (case side1 => repeat (first | exact (Kd.C_below HR1.out HB.out) | (with_reducible refine Kd.C_alloc ?_ _) | (with_reducible refine Kd.C_drewN ?_ _) | (with_reducible refine Kd.C_drew ?_))); (case side2 => exact HC1.out); rintro e w16 ⟨rfl, hb⟩; refine ⟨_, rfl, ?_⟩; have n0_ := Aside0.mk (blk_below (g := gb191) (o := .cells #[.int .i64 a0_0, .int .i64 a0_1, .int .i64 a0_2, .int .i64 a0_3, .int .i64 a0_4, .int .i64 a0_5, .int .i64 a0_6, .int .i64 0, .int .i64 a0_8, .int .u64 a0_9, .int .u64 a0_10, .int .u64 a0_11, .int .u64 a0_12] 25 (0, 0)) (by (with_reducible repeat (first | refine blk_drewN ?_ _ | refine blk_drew ?_ | refine blk_alloc ?_ _)); exact BK191.out) hb); have n1_ := Aside0.mk (blk_below (g := gb192) (o := .cells #[.int .u64 a2_0, .int .u64 a2_1, .int .u64 a2_2, .int .u64 a2_3] 23 (0, 0)) (by (with_reducible repeat (first | refine blk_drewN ?_ _ | refine blk_drew ?_ | refine blk_alloc ?_ _)); exact BK192.out) hb); have n2_ := Aside0.mk (blk_below (g := gb193) (o := .cells #[.int .i64 0, .int .i64 0, .int .i64 0, .int .i64 0, .int .i64 0, .int .i64 0, .int .i64 0, .int .i64 0, .int .i64 0, .int .u64 0, .int .u64 0, .int .u64 0, .int .u64 0] 25 (0, 0)) (by (with_reducible repeat (first | refine blk_drewN ?_ _ | refine blk_drew ?_ | refine blk_alloc ?_ _)); exact BK193.out) hb); have n3_ := Aside0.mk (below_step (by repeat (first | (with_reducible first | exact HB.out | apply below_alloc | apply pw_below_drewN | apply below_drew1 | refine below_set ?_ GE191.out | refine below_set ?_ GE192.out | refine below_set ?_ GE193.out) | exact HB.out)) hb); clear BK191; clear BK192; clear BK193; clear HB; have BK191 := n0_; have BK192 := n1_; have BK193 := n2_; have HB := n3_; clear n0_ n1_ n2_ n3_; (try clear hb); (try clear hb2); (try clear hk); (try clear hi); have hcz17_0 : w16.cell? ⟨gb191, 0, none⟩ = some (.int .i64 a0_0) := (blk_cell BK191.out 0).trans rfl; have hcz17_1 : w16.cell? ⟨gb191, 1, none⟩ = some (.int .i64 a0_1) := (blk_cell BK191.out 1).trans rfl; have hcz17_2 : w16.cell? ⟨gb191, 2, none⟩ = some (.int .i64 a0_2) := (blk_cell BK191.out 2).trans rfl; have hcz17_3 : w16.cell? ⟨gb191, 3, none⟩ = some (.int .i64 a0_3) := (blk_cell BK191.out 3).trans rfl; have hcz17_4 : w16.cell? ⟨gb191, 4, none⟩ = some (.int .i64 a0_4) := (blk_cell BK191.out 4).trans rfl; have hcz17_5 : w16.cell? ⟨gb191, 5, none⟩ = some (.int .i64 a0_5) := (blk_cell BK191.out 5).trans rfl; have hcz17_6 : w16.cell? ⟨gb191, 6, none⟩ = some (.int .i64 a0_6) := (blk_cell BK191.out 6).trans rfl; have hcz17_7 : w16.cell? ⟨gb191, 7, none⟩ = some (.int .i64 0) := (blk_cell BK191.out 7).trans rfl; have hcz17_8 : w16.cell? ⟨gb191, 8, none⟩ = some (.int .i64 a0_8) := (blk_cell BK191.out 8).trans rfl; have hcz17_9 : w16.cell? ⟨gb191, 9, none⟩ = some (.int .u64 a0_9) := (blk_cell BK191.out 9).trans rfl; have hcz17_10 : w16.cell? ⟨gb191, 10, none⟩ = some (.int .u64 a0_10) := (blk_cell BK191.out 10).trans rfl; have hcz17_11 : w16.cell? ⟨gb191, 11, none⟩ = some (.int .u64 a0_11) := (blk_cell BK191.out 11).trans rfl; have hcz17_12 : w16.cell? ⟨gb191, 12, none⟩ = some (.int .u64 a0_12) := (blk_cell BK191.out 12).trans rfl; have hfz17_0 := blk_frozen BK191.out 0; have hfz17_1 := blk_frozen BK191.out 1; have hfz17_2 := blk_frozen BK191.out 2; have hfz17_3 := blk_frozen BK191.out 3; have hfz17_4 := blk_frozen BK191.out 4; have hfz17_5 := blk_frozen BK191.out 5; have hfz17_6 := blk_frozen BK191.out 6; have hfz17_7 := blk_frozen BK191.out 7; have hfz17_8 := blk_frozen BK191.out 8; have hfz17_9 := blk_frozen BK191.out 9; have hfz17_10 := blk_frozen BK191.out 10; have hfz17_11 := blk_frozen BK191.out 11; have hfz17_12 := blk_frozen BK191.out 12))
   go_loopg [10] k (fun kq v10 w' => ∃ (x10_1 : Int) (x192009_1 : Int) (x192010_1 : Int) (x192011_1 : Int) (x192012_1 : Int), v10 = .int .i64 x10_1 ∧ Aside0 (chargeparkref41_Close.l0 kq x10_1 a0_0 a0_1 a0_2 a0_3 a0_4 a0_5 a0_6 t195 a0_8 x192009_1 x192010_1 x192011_1 x192012_1 a2_0 a2_1 a2_2 a2_3 = some (r1, r2, r3, r4, r5, r6, r7, r8, r9, r10, r11, r12, r13, r14)) ∧ Aside0 (kq ≤ k) ∧ Aside0 (w'.heap[gb191]? = some (.cells #[.int .i64 a0_0, .int .i64 a0_1, .int .i64 a0_2, .int .i64 a0_3, .int .i64 a0_4, .int .i64 a0_5, .int .i64 a0_6, .int .i64 t195, .int .i64 a0_8, .int .u64 x192009_1, .int .u64 x192010_1, .int .u64 x192011_1, .int .u64 x192012_1] 25 (0, 0))) ∧ Aside0 (w'.heap[gb192]? = some (.cells #[.int .u64 a2_0, .int .u64 a2_1, .int .u64 a2_2, .int .u64 a2_3] 23 (0, 0))) ∧ Aside0 (w'.heap[gb193]? = some (.cells #[.int .i64 0, .int .i64 0, .int .i64 0, .int .i64 0, .int .i64 0, .int .i64 0, .int .i64 0, .int .i64 0, .int .i64 0, .int .u64 0, .int .u64 0, .int .u64 0, .int .u64 0] 25 (0, 0))) ∧ Aside0 (Below w.heap.size w w'))
   case atStart => exact ⟨(0), (a0_9), (a0_10), (a0_11), (a0_12), (by first | rfl | (simp; done) | (simp [*]; done) | kernel_rfl), H', ⟨Nat.le_refl _⟩, ⟨by (with_reducible repeat (first | refine blk_drewN ?_ _ | refine blk_drew ?_ | refine blk_alloc ?_ _)); refine blk_put (cs := #[.int .i64 a0_0, .int .i64 a0_1, .int .i64 a0_2, .int .i64 a0_3, .int .i64 a0_4, .int .i64 a0_5, .int .i64 a0_6, .int .i64 0, .int .i64 a0_8, .int .u64 a0_9, .int .u64 a0_10, .int .u64 a0_11, .int .u64 a0_12]) ?_ 7 _ rfl; (with_reducible repeat (first | refine blk_drewN ?_ _ | refine blk_drew ?_ | refine blk_alloc ?_ _)); exact BK191.out⟩, ⟨by (with_reducible repeat (first | refine blk_drewN ?_ _ | refine blk_drew ?_ | refine blk_alloc ?_ _)); refine blk_far ?_ NB192_191.out _; (with_reducible repeat (first | refine blk_drewN ?_ _ | refine blk_drew ?_ | refine blk_alloc ?_ _)); exact BK192.out⟩, ⟨by (with_reducible repeat (first | refine blk_drewN ?_ _ | refine blk_drew ?_ | refine blk_alloc ?_ _)); refine blk_far ?_ NB193_191.out _; (with_reducible repeat (first | refine blk_drewN ?_ _ | refine blk_drew ?_ | refine blk_alloc ?_ _)); exact BK193.out⟩, ⟨by repeat (first | (with_reducible first | exact HB.out | apply below_alloc | apply pw_below_drewN | apply below_drew1 | refine below_set ?_ GE191.out | refine below_set ?_ GE192.out | refine below_set ?_ GE193.out) | exact HB.out)⟩⟩
   case round =>
    clear H'
    try clear c1
    try clear c2
    try clear p2
    try clear c3
    try clear c5
    try clear c7
    try clear c7b0
    try clear c7b1
    try clear c11
    try clear c12
    try clear hcz13_0
    try clear hcz13_1
    try clear hcz13_10
    try clear hcz13_11
    try clear hcz13_12
    try clear hcz13_2
    try clear hcz13_3
    try clear hcz13_4
    try clear hcz13_5
    try clear hcz13_6
    try clear hcz13_7
    try clear hcz13_8
    try clear hcz13_9
    try clear hcz15_0
    try clear hcz15_1
    try clear hcz15_10
    try clear hcz15_11
    try clear hcz15_12
    try clear hcz15_2
    try clear hcz15_3
    try clear hcz15_4
    try clear hcz15_5
    try clear hcz15_6
    try clear hcz15_7
    try clear hcz15_8
    try clear hcz15_9
    try clear hcz17_0
    try clear hcz17_1
    try clear hcz17_10
    try clear hcz17_11
    try clear hcz17_12
    try clear hcz17_2
    try clear hcz17_3
    try clear hcz17_4
    try clear hcz17_5
    try clear hcz17_6
    try clear hcz17_7
    try clear hcz17_8
    try clear hcz17_9
    try clear hfz13_0
    try clear hfz13_1
    try clear hfz13_10
    try clear hfz13_11
    try clear hfz13_12
    try clear hfz13_2
    try clear hfz13_3
    try clear hfz13_4
    try clear hfz13_5
    try clear hfz13_6
    try clear hfz13_7
    try clear hfz13_8
    try clear hfz13_9
    try clear hfz15_0
    try clear hfz15_1
    try clear hfz15_10
    try clear hfz15_11
    try clear hfz15_12
    try clear hfz15_2
    try clear hfz15_3
    try clear hfz15_4
    try clear hfz15_5
    try clear hfz15_6
    try clear hfz15_7
    try clear hfz15_8
    try clear hfz15_9
    try clear hfz17_0
    try clear hfz17_1
    try clear hfz17_10
    try clear hfz17_11
    try clear hfz17_12
    try clear hfz17_2
    try clear hfz17_3
    try clear hfz17_4
    try clear hfz17_5
    try clear hfz17_6
    try clear hfz17_7
    try clear hfz17_8
    try clear hfz17_9
    obtain ⟨x10_1, x192009_1, x192010_1, x192011_1, x192012_1, rfl, HA, HK1, BK191, BK192, BK193, HB⟩ := hrel
    cases gk with
    | zero => exact absurd HA.out (by simp [chargeparkref41_Close.l0])
    | succ k1 =>
     have H := HA.out
     clear HA
     simp only [chargeparkref41_Close.l0] at H
     by_cases c18 : x10_1 < 4
     ·rw [if_pos c18] at H
      have c18b0 : decide (x10_1 < 4) = true := decide_eq_true c18
      clear c18
      by_cases c19 : x10_1 = 0
      ·rw [if_pos c19] at H
       subst c19
       replace H : ((chargeparkref41_Sign.f k1 a0_0 a0_1 a0_2 a0_3 a0_4 a0_5 a0_6 t195 a0_8 x192009_1 x192010_1 x192011_1 x192012_1 a2_0).bind fun t197 => (chargeparkref41_Close.l0 k1 (wrap64 (0 + 1)) a0_0 a0_1 a0_2 a0_3 a0_4 a0_5 a0_6 t195 a0_8 t197 x192010_1 x192011_1 x192012_1 a2_0 a2_1 a2_2 a2_3)) = some (r1, r2, r3, r4, r5, r6, r7, r8, r9, r10, r11, r12, r13, r14) := H
       replace H := Option.bind_eq_some_iff.mp H
       obtain ⟨t197, A200, H⟩ := H
       replace H : (chargeparkref41_Close.l0 k1 (wrap64 (0 + 1)) a0_0 a0_1 a0_2 a0_3 a0_4 a0_5 a0_6 t195 a0_8 t197 x192010_1 x192011_1 x192012_1 a2_0 a2_1 a2_2 a2_3) = some (r1, r2, r3, r4, r5, r6, r7, r8, r9, r10, r11, r12, r13, r14) := H
       have A20 := Aside0.mk A200
       clear A200
       have H' := Aside0.mk H
       clear H
       try go_wp2
       have n0_ := Aside0.mk (blk_drew BK191.out)
       have n1_ := Aside0.mk (blk_drew BK192.out)
       have n2_ := Aside0.mk (blk_drew BK193.out)
       have n3_ := Aside0.mk (below_drew1 HB.out)
       clear BK191
       clear BK192
       clear BK193
       clear HB
       have BK191 := n0_
       have BK192 := n1_
       have BK193 := n2_
       have HB := n3_
       clear n0_ n1_ n2_ n3_
       refine start_ (n := 9) (S := fun w' => w'.cell? ⟨gb191, 0, none⟩ = some (.int .i64 a0_0) ∧ w'.cell? ⟨gb191, 1, none⟩ = some (.int .i64 a0_1) ∧ w'.cell? ⟨gb191, 2, none⟩ = some (.int .i64 a0_2) ∧ w'.cell? ⟨gb191, 3, none⟩ = some (.int .i64 a0_3) ∧ w'.cell? ⟨gb191, 4, none⟩ = some (.int .i64 a0_4) ∧ w'.cell? ⟨gb191, 5, none⟩ = some (.int .i64 a0_5) ∧ w'.cell? ⟨gb191, 6, none⟩ = some (.int .i64 a0_6) ∧ w'.cell? ⟨gb191, 7, none⟩ = some (.int .i64 t195) ∧ w'.cell? ⟨gb191, 8, none⟩ = some (.int .i64 a0_8) ∧ w'.cell? ⟨gb191, 9, none⟩ = some (.int .u64 x192009_1) ∧ w'.cell? ⟨gb191, 10, none⟩ = some (.int .u64 x192010_1) ∧ w'.cell? ⟨gb191, 11, none⟩ = some (.int .u64 x192011_1) ∧ w'.cell? ⟨gb191, 12, none⟩ = some (.int .u64 x192012_1) ∧ w'.cell? ⟨gb192, 0, none⟩ = some (.int .u64 a2_0) ∧ w'.cell? ⟨gb192, 1, none⟩ = some (.int .u64 a2_1) ∧ w'.cell? ⟨gb192, 2, none⟩ = some (.int .u64 a2_2) ∧ w'.cell? ⟨gb192, 3, none⟩ = some (.int .u64 a2_3)) (ds := [8]) #[false, false, false, false, false, false, false, false, false] (by kernel_rfl) rfl rfl ⟨(blk_cell BK191.out 0).trans rfl, (blk_cell BK191.out 1).trans rfl, (blk_cell BK191.out 2).trans rfl, (blk_cell BK191.out 3).trans rfl, (blk_cell BK191.out 4).trans rfl, (blk_cell BK191.out 5).trans rfl, (blk_cell BK191.out 6).trans rfl, (blk_cell BK191.out 7).trans rfl, (blk_cell BK191.out 8).trans rfl, (blk_cell BK191.out 9).trans rfl, (blk_cell BK191.out 10).trans rfl, (blk_cell BK191.out 11).trans rfl, (blk_cell BK191.out 12).trans rfl, (blk_cell BK192.out 0).trans rfl, (blk_cell BK192.out 1).trans rfl, (blk_cell BK192.out 2).trans rfl, (blk_cell BK192.out 3).trans rfl⟩ (fun hHeld => ?_); refine with_tabW chargeparkref41_Close.tab11 chargeparkref41_Close.bits11 (fun HT_ HW_ => ?_)
       generalize wr.drew = w21 at BK191 BK192 BK193 HB hHeld ⊢
       refine pure_ (i := 0) (N := some 35) (v := ?_) (a' := ?_) #[true, false, false, false, false, false, false, false, false] rfl rfl (any_of HT_.out (by kernel_rfl)) (fun _ _ _ h => h) (Or.inl ⟨by rfl, ?_⟩) ?_ ?_
       rotate_left
       ·intro w'
        go_simp
        with_reducible rfl
       rotate_left
       ·simp only [Act.put, List.setIfInBounds_toArray, List.set_cons_zero, List.set_cons_succ, i64_w, i32_w]
        rfl
       refine pure_ (i := 2) (N := some 37) (v := ?_) (a' := ?_) #[true, false, true, false, false, false, false, false, false] rfl rfl (any_of HT_.out (by kernel_rfl)) (fun _ _ _ h => h) (Or.inl ⟨by rfl, ?_⟩) ?_ ?_
       rotate_left
       ·intro w'
        go_simp
        with_reducible rfl
       rotate_left
       ·simp only [Act.put, List.setIfInBounds_toArray, List.set_cons_zero, List.set_cons_succ, i64_w, i32_w]
        rfl
       refine pure_ (i := 3) (N := some 38) (v := ?_) (a' := ?_) #[true, false, true, true, false, false, false, false, false] rfl rfl (any_of HT_.out (by kernel_rfl)) (fun _ _ _ h => h) (Or.inl ⟨by rfl, ?_⟩) ?_ ?_
       rotate_left
       ·intro w'
        go_simp
        with_reducible rfl
       rotate_left
       ·simp only [Act.put, List.setIfInBounds_toArray, List.set_cons_zero, List.set_cons_succ, i64_w, i32_w]
        rfl
       refine pure_ (i := 6) (N := some 41) (v := ?_) (a' := ?_) #[true, false, true, true, false, false, true, false, false] rfl rfl (any_of HT_.out (by kernel_rfl)) (fun _ _ _ h => h) (Or.inl ⟨by rfl, ?_⟩) ?_ ?_
       rotate_left
       ·intro w'
        go_simp
        with_reducible rfl
       rotate_left
       ·simp only [Act.put, List.setIfInBounds_toArray, List.set_cons_zero, List.set_cons_succ, i64_w, i32_w]
        rfl
       refine take_ (i := 1) (N := some 36) (v := ?_) (a' := ?_) #[true, true, true, true, false, false, true, false, false] rfl rfl (take_ofW HT_.out HW_.out (by kernel_rfl)) (fun _ _ _ h => h) (Or.inl ⟨by rfl, ?_⟩) hHeld ?_ ?_
       rotate_left
       ·rintro w' ⟨s0, s1, s2, s3, s4, s5, s6, s7, s8, s9, s10, s11, s12, s13, s14, s15, s16⟩
        go_simp
        with_reducible rfl
       rotate_left
       ·simp only [Act.put, List.setIfInBounds_toArray, List.set_cons_zero, List.set_cons_succ, i64_w, i32_w]
        rfl
       refine take_ (i := 4) (N := some 39) (v := ?_) (a' := ?_) #[true, true, true, true, true, false, true, false, false] rfl rfl (take_ofW HT_.out HW_.out (by kernel_rfl)) (fun _ _ _ h => h) (Or.inl ⟨by rfl, ?_⟩) hHeld ?_ ?_
       rotate_left
       ·rintro w' ⟨s0, s1, s2, s3, s4, s5, s6, s7, s8, s9, s10, s11, s12, s13, s14, s15, s16⟩
        go_simp
        with_reducible rfl
       rotate_left
       ·simp only [Act.put, List.setIfInBounds_toArray, List.set_cons_zero, List.set_cons_succ, i64_w, i32_w]
        rfl
       refine one_ (i := 5) (N := some 40) #[true, true, true, true, true, true, true, false, false] rfl rfl (one_of HT_.out (by kernel_rfl)) (by decide) (fun K hK => ?_)
       refine goes_ Try.func21 (by kernel_rfl) rfl #[.agg #[.int .i64 a0_0, .int .i64 a0_1, .int .i64 a0_2, .int .i64 a0_3, .int .i64 a0_4, .int .i64 a0_5, .int .i64 a0_6, .int .i64 t195, .int .i64 a0_8, .int .u64 x192009_1, .int .u64 x192010_1, .int .u64 x192011_1, .int .u64 x192012_1], .int .u64 a2_0] (by rfl) rfl rfl (by (try simp only [List.map_toArray, List.map_cons, List.map_nil]); first | done | rfl | (simp only [List.length_drop, List.length_take]; rfl)) ?_
       with_reducible refine (chargeparkref41_Sign.calls k1 a0_0 a0_1 a0_2 a0_3 a0_4 a0_5 a0_6 t195 a0_8 x192009_1 x192010_1 x192011_1 x192012_1 a2_0 t197 _ A20.out).mono ?_
       rintro e w22 ⟨rfl, hb⟩
       refine ⟨_, rfl, ?_⟩
       have n0_ := Aside0.mk (blk_below (g := gb191) (o := .cells #[.int .i64 a0_0, .int .i64 a0_1, .int .i64 a0_2, .int .i64 a0_3, .int .i64 a0_4, .int .i64 a0_5, .int .i64 a0_6, .int .i64 t195, .int .i64 a0_8, .int .u64 x192009_1, .int .u64 x192010_1, .int .u64 x192011_1, .int .u64 x192012_1] 25 (0, 0)) (by (with_reducible repeat (first | refine blk_drewN ?_ _ | refine blk_drew ?_ | refine blk_alloc ?_ _)); exact BK191.out) hb)
       have n1_ := Aside0.mk (blk_below (g := gb192) (o := .cells #[.int .u64 a2_0, .int .u64 a2_1, .int .u64 a2_2, .int .u64 a2_3] 23 (0, 0)) (by (with_reducible repeat (first | refine blk_drewN ?_ _ | refine blk_drew ?_ | refine blk_alloc ?_ _)); exact BK192.out) hb)
       have n2_ := Aside0.mk (blk_below (g := gb193) (o := .cells #[.int .i64 0, .int .i64 0, .int .i64 0, .int .i64 0, .int .i64 0, .int .i64 0, .int .i64 0, .int .i64 0, .int .i64 0, .int .u64 0, .int .u64 0, .int .u64 0, .int .u64 0] 25 (0, 0)) (by (with_reducible repeat (first | refine blk_drewN ?_ _ | refine blk_drew ?_ | refine blk_alloc ?_ _)); exact BK193.out) hb)
       have n3_ := Aside0.mk (below_step (by repeat (first | (with_reducible first | exact HB.out | apply below_alloc | apply pw_below_drewN | apply below_drew1 | refine below_set ?_ GE191.out | refine below_set ?_ GE192.out | refine below_set ?_ GE193.out) | exact HB.out)) hb)
       clear BK191
       clear BK192
       clear BK193
       clear HB
       have BK191 := n0_
       have BK192 := n1_
       have BK193 := n2_
       have HB := n3_
       clear n0_ n1_ n2_ n3_
       (try clear hb)
       (try clear hb2)
       (try clear hk)
       (try clear hi)
       refine hK.out _ _ ⟨(blk_cell BK191.out 0).trans rfl, (blk_cell BK191.out 1).trans rfl, (blk_cell BK191.out 2).trans rfl, (blk_cell BK191.out 3).trans rfl, (blk_cell BK191.out 4).trans rfl, (blk_cell BK191.out 5).trans rfl, (blk_cell BK191.out 6).trans rfl, (blk_cell BK191.out 7).trans rfl, (blk_cell BK191.out 8).trans rfl, (blk_cell BK191.out 9).trans rfl, (blk_cell BK191.out 10).trans rfl, (blk_cell BK191.out 11).trans rfl, (blk_cell BK191.out 12).trans rfl, (blk_cell BK192.out 0).trans rfl, (blk_cell BK192.out 1).trans rfl, (blk_cell BK192.out 2).trans rfl, (blk_cell BK192.out 3).trans rfl⟩ (fun hHeld => ?_)
       clear hK K
       refine norm_ (a' := ?_) ?_ ?_
       rotate_left
       ·show Act.put _ (some 40) _ = _
        simp only [Act.put, List.setIfInBounds_toArray, List.set_cons_zero, List.set_cons_succ, i64_w, i32_w]
        rfl
       refine pure_ (i := 7) (N := some 42) (v := ?_) (a' := ?_) #[true, true, true, true, true, true, true, true, false] rfl rfl (any_of HT_.out (by kernel_rfl)) (fun _ _ _ h => h) (Or.inl ⟨by rfl, ?_⟩) ?_ ?_
       rotate_left
       ·intro w'
        go_simp
        with_reducible rfl
       rotate_left
       ·simp only [Act.put, List.setIfInBounds_toArray, List.set_cons_zero, List.set_cons_succ, i64_w, i32_w]
        rfl
       refine last_ (i := 8) (N := none) #[true, true, true, true, true, true, true, true, true] rfl rfl (one_of HT_.out (by kernel_rfl)) (by decide) (fun K hK => ?_)
       have hs23 : w22.cell? ⟨gb191, 9, none⟩ = some (.int .u64 x192009_1) := (blk_cell BK191.out 9).trans rfl
       have hfs23 := blk_frozen BK191.out 9
       have hns23_1 := NB192_191.out
       have hns23_2 := NB193_191.out
       have hms23_1 := NB191_192.out
       have hms23_2 := NB191_193.out
       refine skip_ (w1 := ?_) (by rfl) rfl ?_ ?_
       rotate_left
       ·go_simp
        rfl
       refine hK.out _ _ ?_
       clear hK K
       refine done_ (done_of HT_.out (by kernel_rfl)) ?_
       try go_wp2
       go_roundg k1
       case measure => have := HK1.out; omega
       case rel => exact ⟨(wrap64 (0 + 1)), (t197), (x192010_1), (x192011_1), (x192012_1), (by first | rfl | (simp; done) | (simp [*]; done) | kernel_rfl), H', ⟨by have := HK1.out; omega⟩, ⟨by (with_reducible repeat (first | refine blk_drewN ?_ _ | refine blk_drew ?_ | refine blk_alloc ?_ _)); refine blk_put (cs := #[.int .i64 a0_0, .int .i64 a0_1, .int .i64 a0_2, .int .i64 a0_3, .int .i64 a0_4, .int .i64 a0_5, .int .i64 a0_6, .int .i64 t195, .int .i64 a0_8, .int .u64 x192009_1, .int .u64 x192010_1, .int .u64 x192011_1, .int .u64 x192012_1]) ?_ 9 _ rfl; (with_reducible repeat (first | refine blk_drewN ?_ _ | refine blk_drew ?_ | refine blk_alloc ?_ _)); exact BK191.out⟩, ⟨by (with_reducible repeat (first | refine blk_drewN ?_ _ | refine blk_drew ?_ | refine blk_alloc ?_ _)); refine blk_far ?_ NB192_191.out _; (with_reducible repeat (first | refine blk_drewN ?_ _ | refine blk_drew ?_ | refine blk_alloc ?_ _)); exact BK192.out⟩, ⟨by (with_reducible repeat (first | refine blk_drewN ?_ _ | refine blk_drew ?_ | refine blk_alloc ?_ _)); refine blk_far ?_ NB193_191.out _; (with_reducible repeat (first | refine blk_drewN ?_ _ | refine blk_drew ?_ | refine blk_alloc ?_ _)); exact BK193.out⟩, ⟨by repeat (first | (with_reducible first | exact HB.out | apply below_alloc | apply pw_below_drewN | apply below_drew1 | refine below_set ?_ GE191.out | refine below_set ?_ GE192.out | refine below_set ?_ GE193.out) | exact HB.out)⟩⟩
      ·rw [if_neg c19] at H
       clear c19
       by_cases c24 : x10_1 = 1
       ·rw [if_pos c24] at H
        subst c24
        replace H : ((chargeparkref41_Sign.f k1 a0_0 a0_1 a0_2 a0_3 a0_4 a0_5 a0_6 t195 a0_8 x192009_1 x192010_1 x192011_1 x192012_1 a2_1).bind fun t198 => (chargeparkref41_Close.l0 k1 (wrap64 (1 + 1)) a0_0 a0_1 a0_2 a0_3 a0_4 a0_5 a0_6 t195 a0_8 x192009_1 t198 x192011_1 x192012_1 a2_0 a2_1 a2_2 a2_3)) = some (r1, r2, r3, r4, r5, r6, r7, r8, r9, r10, r11, r12, r13, r14) := H
        replace H := Option.bind_eq_some_iff.mp H
        obtain ⟨t198, A250, H⟩ := H
        replace H : (chargeparkref41_Close.l0 k1 (wrap64 (1 + 1)) a0_0 a0_1 a0_2 a0_3 a0_4 a0_5 a0_6 t195 a0_8 x192009_1 t198 x192011_1 x192012_1 a2_0 a2_1 a2_2 a2_3) = some (r1, r2, r3, r4, r5, r6, r7, r8, r9, r10, r11, r12, r13, r14) := H
        have A25 := Aside0.mk A250
        clear A250
        have H' := Aside0.mk H
        clear H
        try go_wp2
        have n0_ := Aside0.mk (blk_drew BK191.out)
        have n1_ := Aside0.mk (blk_drew BK192.out)
        have n2_ := Aside0.mk (blk_drew BK193.out)
        have n3_ := Aside0.mk (below_drew1 HB.out)
        clear BK191
        clear BK192
        clear BK193
        clear HB
        have BK191 := n0_
        have BK192 := n1_
        have BK193 := n2_
        have HB := n3_
        clear n0_ n1_ n2_ n3_
        refine start_ (n := 9) (S := fun w' => w'.cell? ⟨gb191, 0, none⟩ = some (.int .i64 a0_0) ∧ w'.cell? ⟨gb191, 1, none⟩ = some (.int .i64 a0_1) ∧ w'.cell? ⟨gb191, 2, none⟩ = some (.int .i64 a0_2) ∧ w'.cell? ⟨gb191, 3, none⟩ = some (.int .i64 a0_3) ∧ w'.cell? ⟨gb191, 4, none⟩ = some (.int .i64 a0_4) ∧ w'.cell? ⟨gb191, 5, none⟩ = some (.int .i64 a0_5) ∧ w'.cell? ⟨gb191, 6, none⟩ = some (.int .i64 a0_6) ∧ w'.cell? ⟨gb191, 7, none⟩ = some (.int .i64 t195) ∧ w'.cell? ⟨gb191, 8, none⟩ = some (.int .i64 a0_8) ∧ w'.cell? ⟨gb191, 9, none⟩ = some (.int .u64 x192009_1) ∧ w'.cell? ⟨gb191, 10, none⟩ = some (.int .u64 x192010_1) ∧ w'.cell? ⟨gb191, 11, none⟩ = some (.int .u64 x192011_1) ∧ w'.cell? ⟨gb191, 12, none⟩ = some (.int .u64 x192012_1) ∧ w'.cell? ⟨gb192, 0, none⟩ = some (.int .u64 a2_0) ∧ w'.cell? ⟨gb192, 1, none⟩ = some (.int .u64 a2_1) ∧ w'.cell? ⟨gb192, 2, none⟩ = some (.int .u64 a2_2) ∧ w'.cell? ⟨gb192, 3, none⟩ = some (.int .u64 a2_3)) (ds := [8]) #[false, false, false, false, false, false, false, false, false] (by kernel_rfl) rfl rfl ⟨(blk_cell BK191.out 0).trans rfl, (blk_cell BK191.out 1).trans rfl, (blk_cell BK191.out 2).trans rfl, (blk_cell BK191.out 3).trans rfl, (blk_cell BK191.out 4).trans rfl, (blk_cell BK191.out 5).trans rfl, (blk_cell BK191.out 6).trans rfl, (blk_cell BK191.out 7).trans rfl, (blk_cell BK191.out 8).trans rfl, (blk_cell BK191.out 9).trans rfl, (blk_cell BK191.out 10).trans rfl, (blk_cell BK191.out 11).trans rfl, (blk_cell BK191.out 12).trans rfl, (blk_cell BK192.out 0).trans rfl, (blk_cell BK192.out 1).trans rfl, (blk_cell BK192.out 2).trans rfl, (blk_cell BK192.out 3).trans rfl⟩ (fun hHeld => ?_); refine with_tabW chargeparkref41_Close.tab11 chargeparkref41_Close.bits11 (fun HT_ HW_ => ?_)
        generalize wr.drew = w26 at BK191 BK192 BK193 HB hHeld ⊢
        refine pure_ (i := 0) (N := some 35) (v := ?_) (a' := ?_) #[true, false, false, false, false, false, false, false, false] rfl rfl (any_of HT_.out (by kernel_rfl)) (fun _ _ _ h => h) (Or.inl ⟨by rfl, ?_⟩) ?_ ?_
        rotate_left
        ·intro w'
         go_simp
         with_reducible rfl
        rotate_left
        ·simp only [Act.put, List.setIfInBounds_toArray, List.set_cons_zero, List.set_cons_succ, i64_w, i32_w]
         rfl
        refine pure_ (i := 2) (N := some 37) (v := ?_) (a' := ?_) #[true, false, true, false, false, false, false, false, false] rfl rfl (any_of HT_.out (by kernel_rfl)) (fun _ _ _ h => h) (Or.inl ⟨by rfl, ?_⟩) ?_ ?_
        rotate_left
        ·intro w'
         go_simp
         with_reducible rfl
        rotate_left
        ·simp only [Act.put, List.setIfInBounds_toArray, List.set_cons_zero, List.set_cons_succ, i64_w, i32_w]
         rfl
        refine pure_ (i := 3) (N := some 38) (v := ?_) (a' := ?_) #[true, false, true, true, false, false, false, false, false] rfl rfl (any_of HT_.out (by kernel_rfl)) (fun _ _ _ h => h) (Or.inl ⟨by rfl, ?_⟩) ?_ ?_
        rotate_left
        ·intro w'
         go_simp
         with_reducible rfl
        rotate_left
        ·simp only [Act.put, List.setIfInBounds_toArray, List.set_cons_zero, List.set_cons_succ, i64_w, i32_w]
         rfl
        refine pure_ (i := 6) (N := some 41) (v := ?_) (a' := ?_) #[true, false, true, true, false, false, true, false, false] rfl rfl (any_of HT_.out (by kernel_rfl)) (fun _ _ _ h => h) (Or.inl ⟨by rfl, ?_⟩) ?_ ?_
        rotate_left
        ·intro w'
         go_simp
         with_reducible rfl
        rotate_left
        ·simp only [Act.put, List.setIfInBounds_toArray, List.set_cons_zero, List.set_cons_succ, i64_w, i32_w]
         rfl
        refine take_ (i := 1) (N := some 36) (v := ?_) (a' := ?_) #[true, true, true, true, false, false, true, false, false] rfl rfl (take_ofW HT_.out HW_.out (by kernel_rfl)) (fun _ _ _ h => h) (Or.inl ⟨by rfl, ?_⟩) hHeld ?_ ?_
        rotate_left
        ·rintro w' ⟨s0, s1, s2, s3, s4, s5, s6, s7, s8, s9, s10, s11, s12, s13, s14, s15, s16⟩
         go_simp
         with_reducible rfl
        rotate_left
        ·simp only [Act.put, List.setIfInBounds_toArray, List.set_cons_zero, List.set_cons_succ, i64_w, i32_w]
         rfl
        refine take_ (i := 4) (N := some 39) (v := ?_) (a' := ?_) #[true, true, true, true, true, false, true, false, false] rfl rfl (take_ofW HT_.out HW_.out (by kernel_rfl)) (fun _ _ _ h => h) (Or.inl ⟨by rfl, ?_⟩) hHeld ?_ ?_
        rotate_left
        ·rintro w' ⟨s0, s1, s2, s3, s4, s5, s6, s7, s8, s9, s10, s11, s12, s13, s14, s15, s16⟩
         go_simp
         with_reducible rfl
        rotate_left
        ·simp only [Act.put, List.setIfInBounds_toArray, List.set_cons_zero, List.set_cons_succ, i64_w, i32_w]
         rfl
        refine one_ (i := 5) (N := some 40) #[true, true, true, true, true, true, true, false, false] rfl rfl (one_of HT_.out (by kernel_rfl)) (by decide) (fun K hK => ?_)
        refine goes_ Try.func21 (by kernel_rfl) rfl #[.agg #[.int .i64 a0_0, .int .i64 a0_1, .int .i64 a0_2, .int .i64 a0_3, .int .i64 a0_4, .int .i64 a0_5, .int .i64 a0_6, .int .i64 t195, .int .i64 a0_8, .int .u64 x192009_1, .int .u64 x192010_1, .int .u64 x192011_1, .int .u64 x192012_1], .int .u64 a2_1] (by rfl) rfl rfl (by (try simp only [List.map_toArray, List.map_cons, List.map_nil]); first | done | rfl | (simp only [List.length_drop, List.length_take]; rfl)) ?_
        with_reducible refine (chargeparkref41_Sign.calls k1 a0_0 a0_1 a0_2 a0_3 a0_4 a0_5 a0_6 t195 a0_8 x192009_1 x192010_1 x192011_1 x192012_1 a2_1 t198 _ A25.out).mono ?_
        rintro e w27 ⟨rfl, hb⟩
        refine ⟨_, rfl, ?_⟩
        have n0_ := Aside0.mk (blk_below (g := gb191) (o := .cells #[.int .i64 a0_0, .int .i64 a0_1, .int .i64 a0_2, .int .i64 a0_3, .int .i64 a0_4, .int .i64 a0_5, .int .i64 a0_6, .int .i64 t195, .int .i64 a0_8, .int .u64 x192009_1, .int .u64 x192010_1, .int .u64 x192011_1, .int .u64 x192012_1] 25 (0, 0)) (by (with_reducible repeat (first | refine blk_drewN ?_ _ | refine blk_drew ?_ | refine blk_alloc ?_ _)); exact BK191.out) hb)
        have n1_ := Aside0.mk (blk_below (g := gb192) (o := .cells #[.int .u64 a2_0, .int .u64 a2_1, .int .u64 a2_2, .int .u64 a2_3] 23 (0, 0)) (by (with_reducible repeat (first | refine blk_drewN ?_ _ | refine blk_drew ?_ | refine blk_alloc ?_ _)); exact BK192.out) hb)
        have n2_ := Aside0.mk (blk_below (g := gb193) (o := .cells #[.int .i64 0, .int .i64 0, .int .i64 0, .int .i64 0, .int .i64 0, .int .i64 0, .int .i64 0, .int .i64 0, .int .i64 0, .int .u64 0, .int .u64 0, .int .u64 0, .int .u64 0] 25 (0, 0)) (by (with_reducible repeat (first | refine blk_drewN ?_ _ | refine blk_drew ?_ | refine blk_alloc ?_ _)); exact BK193.out) hb)
        have n3_ := Aside0.mk (below_step (by repeat (first | (with_reducible first | exact HB.out | apply below_alloc | apply pw_below_drewN | apply below_drew1 | refine below_set ?_ GE191.out | refine below_set ?_ GE192.out | refine below_set ?_ GE193.out) | exact HB.out)) hb)
        clear BK191
        clear BK192
        clear BK193
        clear HB
        have BK191 := n0_
        have BK192 := n1_
        have BK193 := n2_
        have HB := n3_
        clear n0_ n1_ n2_ n3_
        (try clear hb)
        (try clear hb2)
        (try clear hk)
        (try clear hi)
        refine hK.out _ _ ⟨(blk_cell BK191.out 0).trans rfl, (blk_cell BK191.out 1).trans rfl, (blk_cell BK191.out 2).trans rfl, (blk_cell BK191.out 3).trans rfl, (blk_cell BK191.out 4).trans rfl, (blk_cell BK191.out 5).trans rfl, (blk_cell BK191.out 6).trans rfl, (blk_cell BK191.out 7).trans rfl, (blk_cell BK191.out 8).trans rfl, (blk_cell BK191.out 9).trans rfl, (blk_cell BK191.out 10).trans rfl, (blk_cell BK191.out 11).trans rfl, (blk_cell BK191.out 12).trans rfl, (blk_cell BK192.out 0).trans rfl, (blk_cell BK192.out 1).trans rfl, (blk_cell BK192.out 2).trans rfl, (blk_cell BK192.out 3).trans rfl⟩ (fun hHeld => ?_)
        clear hK K
        refine norm_ (a' := ?_) ?_ ?_
        rotate_left
        ·show Act.put _ (some 40) _ = _
         simp only [Act.put, List.setIfInBounds_toArray, List.set_cons_zero, List.set_cons_succ, i64_w, i32_w]
         rfl
        refine pure_ (i := 7) (N := some 42) (v := ?_) (a' := ?_) #[true, true, true, true, true, true, true, true, false] rfl rfl (any_of HT_.out (by kernel_rfl)) (fun _ _ _ h => h) (Or.inl ⟨by rfl, ?_⟩) ?_ ?_
        rotate_left
        ·intro w'
         go_simp
         with_reducible rfl
        rotate_left
        ·simp only [Act.put, List.setIfInBounds_toArray, List.set_cons_zero, List.set_cons_succ, i64_w, i32_w]
         rfl
        refine last_ (i := 8) (N := none) #[true, true, true, true, true, true, true, true, true] rfl rfl (one_of HT_.out (by kernel_rfl)) (by decide) (fun K hK => ?_)
        have hs28 : w27.cell? ⟨gb191, 10, none⟩ = some (.int .u64 x192010_1) := (blk_cell BK191.out 10).trans rfl
        have hfs28 := blk_frozen BK191.out 10
        have hns28_1 := NB192_191.out
        have hns28_2 := NB193_191.out
        have hms28_1 := NB191_192.out
        have hms28_2 := NB191_193.out
        refine skip_ (w1 := ?_) (by rfl) rfl ?_ ?_
        rotate_left
        ·go_simp
         rfl
        refine hK.out _ _ ?_
        clear hK K
        refine done_ (done_of HT_.out (by kernel_rfl)) ?_
        try go_wp2
        go_roundg k1
        case measure => have := HK1.out; omega
        case rel => exact ⟨(wrap64 (1 + 1)), (x192009_1), (t198), (x192011_1), (x192012_1), (by first | rfl | (simp; done) | (simp [*]; done) | kernel_rfl), H', ⟨by have := HK1.out; omega⟩, ⟨by (with_reducible repeat (first | refine blk_drewN ?_ _ | refine blk_drew ?_ | refine blk_alloc ?_ _)); refine blk_put (cs := #[.int .i64 a0_0, .int .i64 a0_1, .int .i64 a0_2, .int .i64 a0_3, .int .i64 a0_4, .int .i64 a0_5, .int .i64 a0_6, .int .i64 t195, .int .i64 a0_8, .int .u64 x192009_1, .int .u64 x192010_1, .int .u64 x192011_1, .int .u64 x192012_1]) ?_ 10 _ rfl; (with_reducible repeat (first | refine blk_drewN ?_ _ | refine blk_drew ?_ | refine blk_alloc ?_ _)); exact BK191.out⟩, ⟨by (with_reducible repeat (first | refine blk_drewN ?_ _ | refine blk_drew ?_ | refine blk_alloc ?_ _)); refine blk_far ?_ NB192_191.out _; (with_reducible repeat (first | refine blk_drewN ?_ _ | refine blk_drew ?_ | refine blk_alloc ?_ _)); exact BK192.out⟩, ⟨by (with_reducible repeat (first | refine blk_drewN ?_ _ | refine blk_drew ?_ | refine blk_alloc ?_ _)); refine blk_far ?_ NB193_191.out _; (with_reducible repeat (first | refine blk_drewN ?_ _ | refine blk_drew ?_ | refine blk_alloc ?_ _)); exact BK193.out⟩, ⟨by repeat (first | (with_reducible first | exact HB.out | apply below_alloc | apply pw_below_drewN | apply below_drew1 | refine below_set ?_ GE191.out | refine below_set ?_ GE192.out | refine below_set ?_ GE193.out) | exact HB.out)⟩⟩
       ·rw [if_neg c24] at H
        clear c24
        by_cases c29 : x10_1 = 2
        ·rw [if_pos c29] at H
         subst c29
         replace H : ((chargeparkref41_Sign.f k1 a0_0 a0_1 a0_2 a0_3 a0_4 a0_5 a0_6 t195 a0_8 x192009_1 x192010_1 x192011_1 x192012_1 a2_2).bind fun t199 => (chargeparkref41_Close.l0 k1 (wrap64 (2 + 1)) a0_0 a0_1 a0_2 a0_3 a0_4 a0_5 a0_6 t195 a0_8 x192009_1 x192010_1 t199 x192012_1 a2_0 a2_1 a2_2 a2_3)) = some (r1, r2, r3, r4, r5, r6, r7, r8, r9, r10, r11, r12, r13, r14) := H
         replace H := Option.bind_eq_some_iff.mp H
         obtain ⟨t199, A300, H⟩ := H
         replace H : (chargeparkref41_Close.l0 k1 (wrap64 (2 + 1)) a0_0 a0_1 a0_2 a0_3 a0_4 a0_5 a0_6 t195 a0_8 x192009_1 x192010_1 t199 x192012_1 a2_0 a2_1 a2_2 a2_3) = some (r1, r2, r3, r4, r5, r6, r7, r8, r9, r10, r11, r12, r13, r14) := H
         have A30 := Aside0.mk A300
         clear A300
         have H' := Aside0.mk H
         clear H
         try go_wp2
         have n0_ := Aside0.mk (blk_drew BK191.out)
         have n1_ := Aside0.mk (blk_drew BK192.out)
         have n2_ := Aside0.mk (blk_drew BK193.out)
         have n3_ := Aside0.mk (below_drew1 HB.out)
         clear BK191
         clear BK192
         clear BK193
         clear HB
         have BK191 := n0_
         have BK192 := n1_
         have BK193 := n2_
         have HB := n3_
         clear n0_ n1_ n2_ n3_
         refine start_ (n := 9) (S := fun w' => w'.cell? ⟨gb191, 0, none⟩ = some (.int .i64 a0_0) ∧ w'.cell? ⟨gb191, 1, none⟩ = some (.int .i64 a0_1) ∧ w'.cell? ⟨gb191, 2, none⟩ = some (.int .i64 a0_2) ∧ w'.cell? ⟨gb191, 3, none⟩ = some (.int .i64 a0_3) ∧ w'.cell? ⟨gb191, 4, none⟩ = some (.int .i64 a0_4) ∧ w'.cell? ⟨gb191, 5, none⟩ = some (.int .i64 a0_5) ∧ w'.cell? ⟨gb191, 6, none⟩ = some (.int .i64 a0_6) ∧ w'.cell? ⟨gb191, 7, none⟩ = some (.int .i64 t195) ∧ w'.cell? ⟨gb191, 8, none⟩ = some (.int .i64 a0_8) ∧ w'.cell? ⟨gb191, 9, none⟩ = some (.int .u64 x192009_1) ∧ w'.cell? ⟨gb191, 10, none⟩ = some (.int .u64 x192010_1) ∧ w'.cell? ⟨gb191, 11, none⟩ = some (.int .u64 x192011_1) ∧ w'.cell? ⟨gb191, 12, none⟩ = some (.int .u64 x192012_1) ∧ w'.cell? ⟨gb192, 0, none⟩ = some (.int .u64 a2_0) ∧ w'.cell? ⟨gb192, 1, none⟩ = some (.int .u64 a2_1) ∧ w'.cell? ⟨gb192, 2, none⟩ = some (.int .u64 a2_2) ∧ w'.cell? ⟨gb192, 3, none⟩ = some (.int .u64 a2_3)) (ds := [8]) #[false, false, false, false, false, false, false, false, false] (by kernel_rfl) rfl rfl ⟨(blk_cell BK191.out 0).trans rfl, (blk_cell BK191.out 1).trans rfl, (blk_cell BK191.out 2).trans rfl, (blk_cell BK191.out 3).trans rfl, (blk_cell BK191.out 4).trans rfl, (blk_cell BK191.out 5).trans rfl, (blk_cell BK191.out 6).trans rfl, (blk_cell BK191.out 7).trans rfl, (blk_cell BK191.out 8).trans rfl, (blk_cell BK191.out 9).trans rfl, (blk_cell BK191.out 10).trans rfl, (blk_cell BK191.out 11).trans rfl, (blk_cell BK191.out 12).trans rfl, (blk_cell BK192.out 0).trans rfl, (blk_cell BK192.out 1).trans rfl, (blk_cell BK192.out 2).trans rfl, (blk_cell BK192.out 3).trans rfl⟩ (fun hHeld => ?_); refine with_tabW chargeparkref41_Close.tab11 chargeparkref41_Close.bits11 (fun HT_ HW_ => ?_)
         generalize wr.drew = w31 at BK191 BK192 BK193 HB hHeld ⊢
         refine pure_ (i := 0) (N := some 35) (v := ?_) (a' := ?_) #[true, false, false, false, false, false, false, false, false] rfl rfl (any_of HT_.out (by kernel_rfl)) (fun _ _ _ h => h) (Or.inl ⟨by rfl, ?_⟩) ?_ ?_
         rotate_left
         ·intro w'
          go_simp
          with_reducible rfl
         rotate_left
         ·simp only [Act.put, List.setIfInBounds_toArray, List.set_cons_zero, List.set_cons_succ, i64_w, i32_w]
          rfl
         refine pure_ (i := 2) (N := some 37) (v := ?_) (a' := ?_) #[true, false, true, false, false, false, false, false, false] rfl rfl (any_of HT_.out (by kernel_rfl)) (fun _ _ _ h => h) (Or.inl ⟨by rfl, ?_⟩) ?_ ?_
         rotate_left
         ·intro w'
          go_simp
          with_reducible rfl
         rotate_left
         ·simp only [Act.put, List.setIfInBounds_toArray, List.set_cons_zero, List.set_cons_succ, i64_w, i32_w]
          rfl
         refine pure_ (i := 3) (N := some 38) (v := ?_) (a' := ?_) #[true, false, true, true, false, false, false, false, false] rfl rfl (any_of HT_.out (by kernel_rfl)) (fun _ _ _ h => h) (Or.inl ⟨by rfl, ?_⟩) ?_ ?_
         rotate_left
         ·intro w'
          go_simp
          with_reducible rfl
         rotate_left
         ·simp only [Act.put, List.setIfInBounds_toArray, List.set_cons_zero, List.set_cons_succ, i64_w, i32_w]
          rfl
         refine pure_ (i := 6) (N := some 41) (v := ?_) (a' := ?_) #[true, false, true, true, false, false, true, false, false] rfl rfl (any_of HT_.out (by kernel_rfl)) (fun _ _ _ h => h) (Or.inl ⟨by rfl, ?_⟩) ?_ ?_
         rotate_left
         ·intro w'
          go_simp
          with_reducible rfl
         rotate_left
         ·simp only [Act.put, List.setIfInBounds_toArray, List.set_cons_zero, List.set_cons_succ, i64_w, i32_w]
          rfl
         refine take_ (i := 1) (N := some 36) (v := ?_) (a' := ?_) #[true, true, true, true, false, false, true, false, false] rfl rfl (take_ofW HT_.out HW_.out (by kernel_rfl)) (fun _ _ _ h => h) (Or.inl ⟨by rfl, ?_⟩) hHeld ?_ ?_
         rotate_left
         ·rintro w' ⟨s0, s1, s2, s3, s4, s5, s6, s7, s8, s9, s10, s11, s12, s13, s14, s15, s16⟩
          go_simp
          with_reducible rfl
         rotate_left
         ·simp only [Act.put, List.setIfInBounds_toArray, List.set_cons_zero, List.set_cons_succ, i64_w, i32_w]
          rfl
         refine take_ (i := 4) (N := some 39) (v := ?_) (a' := ?_) #[true, true, true, true, true, false, true, false, false] rfl rfl (take_ofW HT_.out HW_.out (by kernel_rfl)) (fun _ _ _ h => h) (Or.inl ⟨by rfl, ?_⟩) hHeld ?_ ?_
         rotate_left
         ·rintro w' ⟨s0, s1, s2, s3, s4, s5, s6, s7, s8, s9, s10, s11, s12, s13, s14, s15, s16⟩
          go_simp
          with_reducible rfl
         rotate_left
         ·simp only [Act.put, List.setIfInBounds_toArray, List.set_cons_zero, List.set_cons_succ, i64_w, i32_w]
          rfl
         refine one_ (i := 5) (N := some 40) #[true, true, true, true, true, true, true, false, false] rfl rfl (one_of HT_.out (by kernel_rfl)) (by decide) (fun K hK => ?_)
         refine goes_ Try.func21 (by kernel_rfl) rfl #[.agg #[.int .i64 a0_0, .int .i64 a0_1, .int .i64 a0_2, .int .i64 a0_3, .int .i64 a0_4, .int .i64 a0_5, .int .i64 a0_6, .int .i64 t195, .int .i64 a0_8, .int .u64 x192009_1, .int .u64 x192010_1, .int .u64 x192011_1, .int .u64 x192012_1], .int .u64 a2_2] (by rfl) rfl rfl (by (try simp only [List.map_toArray, List.map_cons, List.map_nil]); first | done | rfl | (simp only [List.length_drop, List.length_take]; rfl)) ?_
         with_reducible refine (chargeparkref41_Sign.calls k1 a0_0 a0_1 a0_2 a0_3 a0_4 a0_5 a0_6 t195 a0_8 x192009_1 x192010_1 x192011_1 x192012_1 a2_2 t199 _ A30.out).mono ?_
         rintro e w32 ⟨rfl, hb⟩
         refine ⟨_, rfl, ?_⟩
         have n0_ := Aside0.mk (blk_below (g := gb191) (o := .cells #[.int .i64 a0_0, .int .i64 a0_1, .int .i64 a0_2, .int .i64 a0_3, .int .i64 a0_4, .int .i64 a0_5, .int .i64 a0_6, .int .i64 t195, .int .i64 a0_8, .int .u64 x192009_1, .int .u64 x192010_1, .int .u64 x192011_1, .int .u64 x192012_1] 25 (0, 0)) (by (with_reducible repeat (first | refine blk_drewN ?_ _ | refine blk_drew ?_ | refine blk_alloc ?_ _)); exact BK191.out) hb)
         have n1_ := Aside0.mk (blk_below (g := gb192) (o := .cells #[.int .u64 a2_0, .int .u64 a2_1, .int .u64 a2_2, .int .u64 a2_3] 23 (0, 0)) (by (with_reducible repeat (first | refine blk_drewN ?_ _ | refine blk_drew ?_ | refine blk_alloc ?_ _)); exact BK192.out) hb)
         have n2_ := Aside0.mk (blk_below (g := gb193) (o := .cells #[.int .i64 0, .int .i64 0, .int .i64 0, .int .i64 0, .int .i64 0, .int .i64 0, .int .i64 0, .int .i64 0, .int .i64 0, .int .u64 0, .int .u64 0, .int .u64 0, .int .u64 0] 25 (0, 0)) (by (with_reducible repeat (first | refine blk_drewN ?_ _ | refine blk_drew ?_ | refine blk_alloc ?_ _)); exact BK193.out) hb)
         have n3_ := Aside0.mk (below_step (by repeat (first | (with_reducible first | exact HB.out | apply below_alloc | apply pw_below_drewN | apply below_drew1 | refine below_set ?_ GE191.out | refine below_set ?_ GE192.out | refine below_set ?_ GE193.out) | exact HB.out)) hb)
         clear BK191
         clear BK192
         clear BK193
         clear HB
         have BK191 := n0_
         have BK192 := n1_
         have BK193 := n2_
         have HB := n3_
         clear n0_ n1_ n2_ n3_
         (try clear hb)
         (try clear hb2)
         (try clear hk)
         (try clear hi)
         refine hK.out _ _ ⟨(blk_cell BK191.out 0).trans rfl, (blk_cell BK191.out 1).trans rfl, (blk_cell BK191.out 2).trans rfl, (blk_cell BK191.out 3).trans rfl, (blk_cell BK191.out 4).trans rfl, (blk_cell BK191.out 5).trans rfl, (blk_cell BK191.out 6).trans rfl, (blk_cell BK191.out 7).trans rfl, (blk_cell BK191.out 8).trans rfl, (blk_cell BK191.out 9).trans rfl, (blk_cell BK191.out 10).trans rfl, (blk_cell BK191.out 11).trans rfl, (blk_cell BK191.out 12).trans rfl, (blk_cell BK192.out 0).trans rfl, (blk_cell BK192.out 1).trans rfl, (blk_cell BK192.out 2).trans rfl, (blk_cell BK192.out 3).trans rfl⟩ (fun hHeld => ?_)
         clear hK K
         refine norm_ (a' := ?_) ?_ ?_
         rotate_left
         ·show Act.put _ (some 40) _ = _
          simp only [Act.put, List.setIfInBounds_toArray, List.set_cons_zero, List.set_cons_succ, i64_w, i32_w]
          rfl
         refine pure_ (i := 7) (N := some 42) (v := ?_) (a' := ?_) #[true, true, true, true, true, true, true, true, false] rfl rfl (any_of HT_.out (by kernel_rfl)) (fun _ _ _ h => h) (Or.inl ⟨by rfl, ?_⟩) ?_ ?_
         rotate_left
         ·intro w'
          go_simp
          with_reducible rfl
         rotate_left
         ·simp only [Act.put, List.setIfInBounds_toArray, List.set_cons_zero, List.set_cons_succ, i64_w, i32_w]
          rfl
         refine last_ (i := 8) (N := none) #[true, true, true, true, true, true, true, true, true] rfl rfl (one_of HT_.out (by kernel_rfl)) (by decide) (fun K hK => ?_)
         have hs33 : w32.cell? ⟨gb191, 11, none⟩ = some (.int .u64 x192011_1) := (blk_cell BK191.out 11).trans rfl
         have hfs33 := blk_frozen BK191.out 11
         have hns33_1 := NB192_191.out
         have hns33_2 := NB193_191.out
         have hms33_1 := NB191_192.out
         have hms33_2 := NB191_193.out
         refine skip_ (w1 := ?_) (by rfl) rfl ?_ ?_
         rotate_left
         ·go_simp
          rfl
         refine hK.out _ _ ?_
         clear hK K
         refine done_ (done_of HT_.out (by kernel_rfl)) ?_
         try go_wp2
         go_roundg k1
         case measure => have := HK1.out; omega
         case rel => exact ⟨(wrap64 (2 + 1)), (x192009_1), (x192010_1), (t199), (x192012_1), (by first | rfl | (simp; done) | (simp [*]; done) | kernel_rfl), H', ⟨by have := HK1.out; omega⟩, ⟨by (with_reducible repeat (first | refine blk_drewN ?_ _ | refine blk_drew ?_ | refine blk_alloc ?_ _)); refine blk_put (cs := #[.int .i64 a0_0, .int .i64 a0_1, .int .i64 a0_2, .int .i64 a0_3, .int .i64 a0_4, .int .i64 a0_5, .int .i64 a0_6, .int .i64 t195, .int .i64 a0_8, .int .u64 x192009_1, .int .u64 x192010_1, .int .u64 x192011_1, .int .u64 x192012_1]) ?_ 11 _ rfl; (with_reducible repeat (first | refine blk_drewN ?_ _ | refine blk_drew ?_ | refine blk_alloc ?_ _)); exact BK191.out⟩, ⟨by (with_reducible repeat (first | refine blk_drewN ?_ _ | refine blk_drew ?_ | refine blk_alloc ?_ _)); refine blk_far ?_ NB192_191.out _; (with_reducible repeat (first | refine blk_drewN ?_ _ | refine blk_drew ?_ | refine blk_alloc ?_ _)); exact BK192.out⟩, ⟨by (with_reducible repeat (first | refine blk_drewN ?_ _ | refine blk_drew ?_ | refine blk_alloc ?_ _)); refine blk_far ?_ NB193_191.out _; (with_reducible repeat (first | refine blk_drewN ?_ _ | refine blk_drew ?_ | refine blk_alloc ?_ _)); exact BK193.out⟩, ⟨by repeat (first | (with_reducible first | exact HB.out | apply below_alloc | apply pw_below_drewN | apply below_drew1 | refine below_set ?_ GE191.out | refine below_set ?_ GE192.out | refine below_set ?_ GE193.out) | exact HB.out)⟩⟩
        ·rw [if_neg c29] at H
         clear c29
         by_cases c34 : x10_1 = 3
         ·rw [if_pos c34] at H
          subst c34
          replace H : ((chargeparkref41_Sign.f k1 a0_0 a0_1 a0_2 a0_3 a0_4 a0_5 a0_6 t195 a0_8 x192009_1 x192010_1 x192011_1 x192012_1 a2_3).bind fun t200 => (chargeparkref41_Close.l0 k1 (wrap64 (3 + 1)) a0_0 a0_1 a0_2 a0_3 a0_4 a0_5 a0_6 t195 a0_8 x192009_1 x192010_1 x192011_1 t200 a2_0 a2_1 a2_2 a2_3)) = some (r1, r2, r3, r4, r5, r6, r7, r8, r9, r10, r11, r12, r13, r14) := H
          replace H := Option.bind_eq_some_iff.mp H
          obtain ⟨t200, A350, H⟩ := H
          replace H : (chargeparkref41_Close.l0 k1 (wrap64 (3 + 1)) a0_0 a0_1 a0_2 a0_3 a0_4 a0_5 a0_6 t195 a0_8 x192009_1 x192010_1 x192011_1 t200 a2_0 a2_1 a2_2 a2_3) = some (r1, r2, r3, r4, r5, r6, r7, r8, r9, r10, r11, r12, r13, r14) := H
          have A35 := Aside0.mk A350
          clear A350
          have H' := Aside0.mk H
          clear H
          try go_wp2
          have n0_ := Aside0.mk (blk_drew BK191.out)
          have n1_ := Aside0.mk (blk_drew BK192.out)
          have n2_ := Aside0.mk (blk_drew BK193.out)
          have n3_ := Aside0.mk (below_drew1 HB.out)
          clear BK191
          clear BK192
          clear BK193
          clear HB
          have BK191 := n0_
          have BK192 := n1_
          have BK193 := n2_
          have HB := n3_
          clear n0_ n1_ n2_ n3_
          refine start_ (n := 9) (S := fun w' => w'.cell? ⟨gb191, 0, none⟩ = some (.int .i64 a0_0) ∧ w'.cell? ⟨gb191, 1, none⟩ = some (.int .i64 a0_1) ∧ w'.cell? ⟨gb191, 2, none⟩ = some (.int .i64 a0_2) ∧ w'.cell? ⟨gb191, 3, none⟩ = some (.int .i64 a0_3) ∧ w'.cell? ⟨gb191, 4, none⟩ = some (.int .i64 a0_4) ∧ w'.cell? ⟨gb191, 5, none⟩ = some (.int .i64 a0_5) ∧ w'.cell? ⟨gb191, 6, none⟩ = some (.int .i64 a0_6) ∧ w'.cell? ⟨gb191, 7, none⟩ = some (.int .i64 t195) ∧ w'.cell? ⟨gb191, 8, none⟩ = some (.int .i64 a0_8) ∧ w'.cell? ⟨gb191, 9, none⟩ = some (.int .u64 x192009_1) ∧ w'.cell? ⟨gb191, 10, none⟩ = some (.int .u64 x192010_1) ∧ w'.cell? ⟨gb191, 11, none⟩ = some (.int .u64 x192011_1) ∧ w'.cell? ⟨gb191, 12, none⟩ = some (.int .u64 x192012_1) ∧ w'.cell? ⟨gb192, 0, none⟩ = some (.int .u64 a2_0) ∧ w'.cell? ⟨gb192, 1, none⟩ = some (.int .u64 a2_1) ∧ w'.cell? ⟨gb192, 2, none⟩ = some (.int .u64 a2_2) ∧ w'.cell? ⟨gb192, 3, none⟩ = some (.int .u64 a2_3)) (ds := [8]) #[false, false, false, false, false, false, false, false, false] (by kernel_rfl) rfl rfl ⟨(blk_cell BK191.out 0).trans rfl, (blk_cell BK191.out 1).trans rfl, (blk_cell BK191.out 2).trans rfl, (blk_cell BK191.out 3).trans rfl, (blk_cell BK191.out 4).trans rfl, (blk_cell BK191.out 5).trans rfl, (blk_cell BK191.out 6).trans rfl, (blk_cell BK191.out 7).trans rfl, (blk_cell BK191.out 8).trans rfl, (blk_cell BK191.out 9).trans rfl, (blk_cell BK191.out 10).trans rfl, (blk_cell BK191.out 11).trans rfl, (blk_cell BK191.out 12).trans rfl, (blk_cell BK192.out 0).trans rfl, (blk_cell BK192.out 1).trans rfl, (blk_cell BK192.out 2).trans rfl, (blk_cell BK192.out 3).trans rfl⟩ (fun hHeld => ?_); refine with_tabW chargeparkref41_Close.tab11 chargeparkref41_Close.bits11 (fun HT_ HW_ => ?_)
          generalize wr.drew = w36 at BK191 BK192 BK193 HB hHeld ⊢
          refine pure_ (i := 0) (N := some 35) (v := ?_) (a' := ?_) #[true, false, false, false, false, false, false, false, false] rfl rfl (any_of HT_.out (by kernel_rfl)) (fun _ _ _ h => h) (Or.inl ⟨by rfl, ?_⟩) ?_ ?_
          rotate_left
          ·intro w'
           go_simp
           with_reducible rfl
          rotate_left
          ·simp only [Act.put, List.setIfInBounds_toArray, List.set_cons_zero, List.set_cons_succ, i64_w, i32_w]
           rfl
          refine pure_ (i := 2) (N := some 37) (v := ?_) (a' := ?_) #[true, false, true, false, false, false, false, false, false] rfl rfl (any_of HT_.out (by kernel_rfl)) (fun _ _ _ h => h) (Or.inl ⟨by rfl, ?_⟩) ?_ ?_
          rotate_left
          ·intro w'
           go_simp
           with_reducible rfl
          rotate_left
          ·simp only [Act.put, List.setIfInBounds_toArray, List.set_cons_zero, List.set_cons_succ, i64_w, i32_w]
           rfl
          refine pure_ (i := 3) (N := some 38) (v := ?_) (a' := ?_) #[true, false, true, true, false, false, false, false, false] rfl rfl (any_of HT_.out (by kernel_rfl)) (fun _ _ _ h => h) (Or.inl ⟨by rfl, ?_⟩) ?_ ?_
          rotate_left
          ·intro w'
           go_simp
           with_reducible rfl
          rotate_left
          ·simp only [Act.put, List.setIfInBounds_toArray, List.set_cons_zero, List.set_cons_succ, i64_w, i32_w]
           rfl
          refine pure_ (i := 6) (N := some 41) (v := ?_) (a' := ?_) #[true, false, true, true, false, false, true, false, false] rfl rfl (any_of HT_.out (by kernel_rfl)) (fun _ _ _ h => h) (Or.inl ⟨by rfl, ?_⟩) ?_ ?_
          rotate_left
          ·intro w'
           go_simp
           with_reducible rfl
          rotate_left
          ·simp only [Act.put, List.setIfInBounds_toArray, List.set_cons_zero, List.set_cons_succ, i64_w, i32_w]
           rfl
          refine take_ (i := 1) (N := some 36) (v := ?_) (a' := ?_) #[true, true, true, true, false, false, true, false, false] rfl rfl (take_ofW HT_.out HW_.out (by kernel_rfl)) (fun _ _ _ h => h) (Or.inl ⟨by rfl, ?_⟩) hHeld ?_ ?_
          rotate_left
          ·rintro w' ⟨s0, s1, s2, s3, s4, s5, s6, s7, s8, s9, s10, s11, s12, s13, s14, s15, s16⟩
           go_simp
           with_reducible rfl
          rotate_left
          ·simp only [Act.put, List.setIfInBounds_toArray, List.set_cons_zero, List.set_cons_succ, i64_w, i32_w]
           rfl
          refine take_ (i := 4) (N := some 39) (v := ?_) (a' := ?_) #[true, true, true, true, true, false, true, false, false] rfl rfl (take_ofW HT_.out HW_.out (by kernel_rfl)) (fun _ _ _ h => h) (Or.inl ⟨by rfl, ?_⟩) hHeld ?_ ?_
          rotate_left
          ·rintro w' ⟨s0, s1, s2, s3, s4, s5, s6, s7, s8, s9, s10, s11, s12, s13, s14, s15, s16⟩
           go_simp
           with_reducible rfl
          rotate_left
          ·simp only [Act.put, List.setIfInBounds_toArray, List.set_cons_zero, List.set_cons_succ, i64_w, i32_w]
           rfl
          refine one_ (i := 5) (N := some 40) #[true, true, true, true, true, true, true, false, false] rfl rfl (one_of HT_.out (by kernel_rfl)) (by decide) (fun K hK => ?_)
          refine goes_ Try.func21 (by kernel_rfl) rfl #[.agg #[.int .i64 a0_0, .int .i64 a0_1, .int .i64 a0_2, .int .i64 a0_3, .int .i64 a0_4, .int .i64 a0_5, .int .i64 a0_6, .int .i64 t195, .int .i64 a0_8, .int .u64 x192009_1, .int .u64 x192010_1, .int .u64 x192011_1, .int .u64 x192012_1], .int .u64 a2_3] (by rfl) rfl rfl (by (try simp only [List.map_toArray, List.map_cons, List.map_nil]); first | done | rfl | (simp only [List.length_drop, List.length_take]; rfl)) ?_
          with_reducible refine (chargeparkref41_Sign.calls k1 a0_0 a0_1 a0_2 a0_3 a0_4 a0_5 a0_6 t195 a0_8 x192009_1 x192010_1 x192011_1 x192012_1 a2_3 t200 _ A35.out).mono ?_
          rintro e w37 ⟨rfl, hb⟩
          refine ⟨_, rfl, ?_⟩
          have n0_ := Aside0.mk (blk_below (g := gb191) (o := .cells #[.int .i64 a0_0, .int .i64 a0_1, .int .i64 a0_2, .int .i64 a0_3, .int .i64 a0_4, .int .i64 a0_5, .int .i64 a0_6, .int .i64 t195, .int .i64 a0_8, .int .u64 x192009_1, .int .u64 x192010_1, .int .u64 x192011_1, .int .u64 x192012_1] 25 (0, 0)) (by (with_reducible repeat (first | refine blk_drewN ?_ _ | refine blk_drew ?_ | refine blk_alloc ?_ _)); exact BK191.out) hb)
          have n1_ := Aside0.mk (blk_below (g := gb192) (o := .cells #[.int .u64 a2_0, .int .u64 a2_1, .int .u64 a2_2, .int .u64 a2_3] 23 (0, 0)) (by (with_reducible repeat (first | refine blk_drewN ?_ _ | refine blk_drew ?_ | refine blk_alloc ?_ _)); exact BK192.out) hb)
          have n2_ := Aside0.mk (blk_below (g := gb193) (o := .cells #[.int .i64 0, .int .i64 0, .int .i64 0, .int .i64 0, .int .i64 0, .int .i64 0, .int .i64 0, .int .i64 0, .int .i64 0, .int .u64 0, .int .u64 0, .int .u64 0, .int .u64 0] 25 (0, 0)) (by (with_reducible repeat (first | refine blk_drewN ?_ _ | refine blk_drew ?_ | refine blk_alloc ?_ _)); exact BK193.out) hb)
          have n3_ := Aside0.mk (below_step (by repeat (first | (with_reducible first | exact HB.out | apply below_alloc | apply pw_below_drewN | apply below_drew1 | refine below_set ?_ GE191.out | refine below_set ?_ GE192.out | refine below_set ?_ GE193.out) | exact HB.out)) hb)
          clear BK191
          clear BK192
          clear BK193
          clear HB
          have BK191 := n0_
          have BK192 := n1_
          have BK193 := n2_
          have HB := n3_
          clear n0_ n1_ n2_ n3_
          (try clear hb)
          (try clear hb2)
          (try clear hk)
          (try clear hi)
          refine hK.out _ _ ⟨(blk_cell BK191.out 0).trans rfl, (blk_cell BK191.out 1).trans rfl, (blk_cell BK191.out 2).trans rfl, (blk_cell BK191.out 3).trans rfl, (blk_cell BK191.out 4).trans rfl, (blk_cell BK191.out 5).trans rfl, (blk_cell BK191.out 6).trans rfl, (blk_cell BK191.out 7).trans rfl, (blk_cell BK191.out 8).trans rfl, (blk_cell BK191.out 9).trans rfl, (blk_cell BK191.out 10).trans rfl, (blk_cell BK191.out 11).trans rfl, (blk_cell BK191.out 12).trans rfl, (blk_cell BK192.out 0).trans rfl, (blk_cell BK192.out 1).trans rfl, (blk_cell BK192.out 2).trans rfl, (blk_cell BK192.out 3).trans rfl⟩ (fun hHeld => ?_)
          clear hK K
          refine norm_ (a' := ?_) ?_ ?_
          rotate_left
          ·show Act.put _ (some 40) _ = _
           simp only [Act.put, List.setIfInBounds_toArray, List.set_cons_zero, List.set_cons_succ, i64_w, i32_w]
           rfl
          refine pure_ (i := 7) (N := some 42) (v := ?_) (a' := ?_) #[true, true, true, true, true, true, true, true, false] rfl rfl (any_of HT_.out (by kernel_rfl)) (fun _ _ _ h => h) (Or.inl ⟨by rfl, ?_⟩) ?_ ?_
          rotate_left
          ·intro w'
           go_simp
           with_reducible rfl
          rotate_left
          ·simp only [Act.put, List.setIfInBounds_toArray, List.set_cons_zero, List.set_cons_succ, i64_w, i32_w]
           rfl
          refine last_ (i := 8) (N := none) #[true, true, true, true, true, true, true, true, true] rfl rfl (one_of HT_.out (by kernel_rfl)) (by decide) (fun K hK => ?_)
          have hs38 : w37.cell? ⟨gb191, 12, none⟩ = some (.int .u64 x192012_1) := (blk_cell BK191.out 12).trans rfl
          have hfs38 := blk_frozen BK191.out 12
          have hns38_1 := NB192_191.out
          have hns38_2 := NB193_191.out
          have hms38_1 := NB191_192.out
          have hms38_2 := NB191_193.out
          refine skip_ (w1 := ?_) (by rfl) rfl ?_ ?_
          rotate_left
          ·go_simp
           rfl
          refine hK.out _ _ ?_
          clear hK K
          refine done_ (done_of HT_.out (by kernel_rfl)) ?_
          try go_wp2
          go_roundg k1
          case measure => have := HK1.out; omega
          case rel => exact ⟨(wrap64 (3 + 1)), (x192009_1), (x192010_1), (x192011_1), (t200), (by first | rfl | (simp; done) | (simp [*]; done) | kernel_rfl), H', ⟨by have := HK1.out; omega⟩, ⟨by (with_reducible repeat (first | refine blk_drewN ?_ _ | refine blk_drew ?_ | refine blk_alloc ?_ _)); refine blk_put (cs := #[.int .i64 a0_0, .int .i64 a0_1, .int .i64 a0_2, .int .i64 a0_3, .int .i64 a0_4, .int .i64 a0_5, .int .i64 a0_6, .int .i64 t195, .int .i64 a0_8, .int .u64 x192009_1, .int .u64 x192010_1, .int .u64 x192011_1, .int .u64 x192012_1]) ?_ 12 _ rfl; (with_reducible repeat (first | refine blk_drewN ?_ _ | refine blk_drew ?_ | refine blk_alloc ?_ _)); exact BK191.out⟩, ⟨by (with_reducible repeat (first | refine blk_drewN ?_ _ | refine blk_drew ?_ | refine blk_alloc ?_ _)); refine blk_far ?_ NB192_191.out _; (with_reducible repeat (first | refine blk_drewN ?_ _ | refine blk_drew ?_ | refine blk_alloc ?_ _)); exact BK192.out⟩, ⟨by (with_reducible repeat (first | refine blk_drewN ?_ _ | refine blk_drew ?_ | refine blk_alloc ?_ _)); refine blk_far ?_ NB193_191.out _; (with_reducible repeat (first | refine blk_drewN ?_ _ | refine blk_drew ?_ | refine blk_alloc ?_ _)); exact BK193.out⟩, ⟨by repeat (first | (with_reducible first | exact HB.out | apply below_alloc | apply pw_below_drewN | apply below_drew1 | refine below_set ?_ GE191.out | refine below_set ?_ GE192.out | refine below_set ?_ GE193.out) | exact HB.out)⟩⟩
         ·rw [if_neg c34] at H
          clear c34
          exact absurd H (by simp)
     ·rw [if_neg c18] at H
      have c18b0 : decide (x10_1 < 4) = false := decide_eq_false c18
      clear c18
      simp only [Option.some.injEq, Prod.mk.injEq] at H
      obtain ⟨rfl, rfl, rfl, rfl, rfl, rfl, rfl, rfl, rfl, rfl, rfl, rfl, rfl, rfl⟩ := H
      have hnb39 := NB191_192.out
      have hnc39 := NB192_191.out
      have hnb40 := NB191_193.out
      have hnc40 := NB193_191.out
      have hcz41_0 : wr.cell? ⟨gb191, 0, none⟩ = some (.int .i64 a0_0) := (blk_cell BK191.out 0).trans rfl
      have hcz41_1 : wr.cell? ⟨gb191, 1, none⟩ = some (.int .i64 a0_1) := (blk_cell BK191.out 1).trans rfl
      have hcz41_2 : wr.cell? ⟨gb191, 2, none⟩ = some (.int .i64 a0_2) := (blk_cell BK191.out 2).trans rfl
      have hcz41_3 : wr.cell? ⟨gb191, 3, none⟩ = some (.int .i64 a0_3) := (blk_cell BK191.out 3).trans rfl
      have hcz41_4 : wr.cell? ⟨gb191, 4, none⟩ = some (.int .i64 a0_4) := (blk_cell BK191.out 4).trans rfl
      have hcz41_5 : wr.cell? ⟨gb191, 5, none⟩ = some (.int .i64 a0_5) := (blk_cell BK191.out 5).trans rfl
      have hcz41_6 : wr.cell? ⟨gb191, 6, none⟩ = some (.int .i64 a0_6) := (blk_cell BK191.out 6).trans rfl
      have hcz41_7 : wr.cell? ⟨gb191, 7, none⟩ = some (.int .i64 t195) := (blk_cell BK191.out 7).trans rfl
      have hcz41_8 : wr.cell? ⟨gb191, 8, none⟩ = some (.int .i64 a0_8) := (blk_cell BK191.out 8).trans rfl
      have hcz41_9 : wr.cell? ⟨gb191, 9, none⟩ = some (.int .u64 x192009_1) := (blk_cell BK191.out 9).trans rfl
      have hcz41_10 : wr.cell? ⟨gb191, 10, none⟩ = some (.int .u64 x192010_1) := (blk_cell BK191.out 10).trans rfl
      have hcz41_11 : wr.cell? ⟨gb191, 11, none⟩ = some (.int .u64 x192011_1) := (blk_cell BK191.out 11).trans rfl
      have hcz41_12 : wr.cell? ⟨gb191, 12, none⟩ = some (.int .u64 x192012_1) := (blk_cell BK191.out 12).trans rfl
      have hfz41_0 := blk_frozen BK191.out 0
      have hfz41_1 := blk_frozen BK191.out 1
      have hfz41_2 := blk_frozen BK191.out 2
      have hfz41_3 := blk_frozen BK191.out 3
      have hfz41_4 := blk_frozen BK191.out 4
      have hfz41_5 := blk_frozen BK191.out 5
      have hfz41_6 := blk_frozen BK191.out 6
      have hfz41_7 := blk_frozen BK191.out 7
      have hfz41_8 := blk_frozen BK191.out 8
      have hfz41_9 := blk_frozen BK191.out 9
      have hfz41_10 := blk_frozen BK191.out 10
      have hfz41_11 := blk_frozen BK191.out 11
      have hfz41_12 := blk_frozen BK191.out 12
      have hnb42 := NB193_192.out
      have hnc42 := NB192_193.out
      have hcz43_0 : wr.cell? ⟨gb193, 0, none⟩ = some (.int .i64 0) := (blk_cell BK193.out 0).trans rfl
      have hcz43_1 : wr.cell? ⟨gb193, 1, none⟩ = some (.int .i64 0) := (blk_cell BK193.out 1).trans rfl
      have hcz43_2 : wr.cell? ⟨gb193, 2, none⟩ = some (.int .i64 0) := (blk_cell BK193.out 2).trans rfl
      have hcz43_3 : wr.cell? ⟨gb193, 3, none⟩ = some (.int .i64 0) := (blk_cell BK193.out 3).trans rfl
      have hcz43_4 : wr.cell? ⟨gb193, 4, none⟩ = some (.int .i64 0) := (blk_cell BK193.out 4).trans rfl
      have hcz43_5 : wr.cell? ⟨gb193, 5, none⟩ = some (.int .i64 0) := (blk_cell BK193.out 5).trans rfl
      have hcz43_6 : wr.cell? ⟨gb193, 6, none⟩ = some (.int .i64 0) := (blk_cell BK193.out 6).trans rfl
      have hcz43_7 : wr.cell? ⟨gb193, 7, none⟩ = some (.int .i64 0) := (blk_cell BK193.out 7).trans rfl
      have hcz43_8 : wr.cell? ⟨gb193, 8, none⟩ = some (.int .i64 0) := (blk_cell BK193.out 8).trans rfl
      have hcz43_9 : wr.cell? ⟨gb193, 9, none⟩ = some (.int .u64 0) := (blk_cell BK193.out 9).trans rfl
      have hcz43_10 : wr.cell? ⟨gb193, 10, none⟩ = some (.int .u64 0) := (blk_cell BK193.out 10).trans rfl
      have hcz43_11 : wr.cell? ⟨gb193, 11, none⟩ = some (.int .u64 0) := (blk_cell BK193.out 11).trans rfl
      have hcz43_12 : wr.cell? ⟨gb193, 12, none⟩ = some (.int .u64 0) := (blk_cell BK193.out 12).trans rfl
      have hfz43_0 := blk_frozen BK193.out 0
      have hfz43_1 := blk_frozen BK193.out 1
      have hfz43_2 := blk_frozen BK193.out 2
      have hfz43_3 := blk_frozen BK193.out 3
      have hfz43_4 := blk_frozen BK193.out 4
      have hfz43_5 := blk_frozen BK193.out 5
      have hfz43_6 := blk_frozen BK193.out 6
      have hfz43_7 := blk_frozen BK193.out 7
      have hfz43_8 := blk_frozen BK193.out 8
      have hfz43_9 := blk_frozen BK193.out 9
      have hfz43_10 := blk_frozen BK193.out 10
      have hfz43_11 := blk_frozen BK193.out 11
      have hfz43_12 := blk_frozen BK193.out 12
      go_wp2
      refine bodyPost_ret (results_ct rfl _ _ gb193 25 #[.int .i64 a0_0, .int .i64 a0_1, .int .i64 a0_2, .int .i64 a0_3, .int .i64 a0_4, .int .i64 a0_5, .int .i64 a0_6, .int .i64 t195, .int .i64 a0_8, .int .u64 x192009_1, .int .u64 x192010_1, .int .u64 x192011_1, .int .u64 x192012_1] (0, 0) _ rfl (by (with_reducible repeat (first | refine blk_drewN ?_ _ | refine blk_drew ?_ | refine blk_alloc ?_ _)); refine blk_put (cs := #[.int .i64 a0_0, .int .i64 a0_1, .int .i64 a0_2, .int .i64 a0_3, .int .i64 a0_4, .int .i64 a0_5, .int .i64 a0_6, .int .i64 t195, .int .i64 a0_8, .int .u64 x192009_1, .int .u64 x192010_1, .int .u64 x192011_1, .int .u64 0]) ?_ 12 _ rfl; (with_reducible repeat (first | refine blk_drewN ?_ _ | refine blk_drew ?_ | refine blk_alloc ?_ _)); refine blk_put (cs := #[.int .i64 a0_0, .int .i64 a0_1, .int .i64 a0_2, .int .i64 a0_3, .int .i64 a0_4, .int .i64 a0_5, .int .i64 a0_6, .int .i64 t195, .int .i64 a0_8, .int .u64 x192009_1, .int .u64 x192010_1, .int .u64 0, .int .u64 0]) ?_ 11 _ rfl; (with_reducible repeat (first | refine blk_drewN ?_ _ | refine blk_drew ?_ | refine blk_alloc ?_ _)); refine blk_put (cs := #[.int .i64 a0_0, .int .i64 a0_1, .int .i64 a0_2, .int .i64 a0_3, .int .i64 a0_4, .int .i64 a0_5, .int .i64 a0_6, .int .i64 t195, .int .i64 a0_8, .int .u64 x192009_1, .int .u64 0, .int .u64 0, .int .u64 0]) ?_ 10 _ rfl; (with_reducible repeat (first | refine blk_drewN ?_ _ | refine blk_drew ?_ | refine blk_alloc ?_ _)); refine blk_put (cs := #[.int .i64 a0_0, .int .i64 a0_1, .int .i64 a0_2, .int .i64 a0_3, .int .i64 a0_4, .int .i64 a0_5, .int .i64 a0_6, .int .i64 t195, .int .i64 a0_8, .int .u64 0, .int .u64 0, .int .u64 0, .int .u64 0]) ?_ 9 _ rfl; (with_reducible repeat (first | refine blk_drewN ?_ _ | refine blk_drew ?_ | refine blk_alloc ?_ _)); refine blk_put (cs := #[.int .i64 a0_0, .int .i64 a0_1, .int .i64 a0_2, .int .i64 a0_3, .int .i64 a0_4, .int .i64 a0_5, .int .i64 a0_6, .int .i64 t195, .int .i64 0, .int .u64 0, .int .u64 0, .int .u64 0, .int .u64 0]) ?_ 8 _ rfl; (with_reducible repeat (first | refine blk_drewN ?_ _ | refine blk_drew ?_ | refine blk_alloc ?_ _)); refine blk_put (cs := #[.int .i64 a0_0, .int .i64 a0_1, .int .i64 a0_2, .int .i64 a0_3, .int .i64 a0_4, .int .i64 a0_5, .int .i64 a0_6, .int .i64 0, .int .i64 0, .int .u64 0, .int .u64 0, .int .u64 0, .int .u64 0]) ?_ 7 _ rfl; (with_reducible repeat (first | refine blk_drewN ?_ _ | refine blk_drew ?_ | refine blk_alloc ?_ _)); refine blk_put (cs := #[.int .i64 a0_0, .int .i64 a0_1, .int .i64 a0_2, .int .i64 a0_3, .int .i64 a0_4, .int .i64 a0_5, .int .i64 0, .int .i64 0, .int .i64 0, .int .u64 0, .int .u64 0, .int .u64 0, .int .u64 0]) ?_ 6 _ rfl; (with_reducible repeat (first | refine blk_drewN ?_ _ | refine blk_drew ?_ | refine blk_alloc ?_ _)); refine blk_put (cs := #[.int .i64 a0_0, .int .i64 a0_1, .int .i64 a0_2, .int .i64 a0_3, .int .i64 a0_4, .int .i64 0, .int .i64 0, .int .i64 0, .int .i64 0, .int .u64 0, .int .u64 0, .int .u64 0, .int .u64 0]) ?_ 5 _ rfl; (with_reducible repeat (first | refine blk_drewN ?_ _ | refine blk_drew ?_ | refine blk_alloc ?_ _)); refine blk_put (cs := #[.int .i64 a0_0, .int .i64 a0_1, .int .i64 a0_2, .int .i64 a0_3, .int .i64 0, .int .i64 0, .int .i64 0, .int .i64 0, .int .i64 0, .int .u64 0, .int .u64 0, .int .u64 0, .int .u64 0]) ?_ 4 _ rfl; (with_reducible repeat (first | refine blk_drewN ?_ _ | refine blk_drew ?_ | refine blk_alloc ?_ _)); refine blk_put (cs := #[.int .i64 a0_0, .int .i64 a0_1, .int .i64 a0_2, .int .i64 0, .int .i64 0, .int .i64 0, .int .i64 0, .int .i64 0, .int .i64 0, .int .u64 0, .int .u64 0, .int .u64 0, .int .u64 0]) ?_ 3 _ rfl; (with_reducible repeat (first | refine blk_drewN ?_ _ | refine blk_drew ?_ | refine blk_alloc ?_ _)); refine blk_put (cs := #[.int .i64 a0_0, .int .i64 a0_1, .int .i64 0, .int .i64 0, .int .i64 0, .int .i64 0, .int .i64 0, .int .i64 0, .int .i64 0, .int .u64 0, .int .u64 0, .int .u64 0, .int .u64 0]) ?_ 2 _ rfl; (with_reducible repeat (first | refine blk_drewN ?_ _ | refine blk_drew ?_ | refine blk_alloc ?_ _)); refine blk_put (cs := #[.int .i64 a0_0, .int .i64 0, .int .i64 0, .int .i64 0, .int .i64 0, .int .i64 0, .int .i64 0, .int .i64 0, .int .i64 0, .int .u64 0, .int .u64 0, .int .u64 0, .int .u64 0]) ?_ 1 _ rfl; (with_reducible repeat (first | refine blk_drewN ?_ _ | refine blk_drew ?_ | refine blk_alloc ?_ _)); refine blk_put (cs := #[.int .i64 0, .int .i64 0, .int .i64 0, .int .i64 0, .int .i64 0, .int .i64 0, .int .i64 0, .int .i64 0, .int .i64 0, .int .u64 0, .int .u64 0, .int .u64 0, .int .u64 0]) ?_ 0 _ rfl; (with_reducible repeat (first | refine blk_drewN ?_ _ | refine blk_drew ?_ | refine blk_alloc ?_ _)); exact BK193.out) Try.underlying25 rfl (by kernel_rfl)) rfl ?_
      exact ⟨by first | rfl | (simp [errW_none, errW_some] <;> rfl) | (simp [*, errW_none, errW_some] <;> rfl), by repeat (first | (with_reducible first | exact HB.out | apply below_alloc | apply pw_below_drewN | apply below_drew1 | refine below_set ?_ GE191.out | refine below_set ?_ GE192.out | refine below_set ?_ GE193.out) | exact HB.out)⟩
  ·rw [if_neg c7] at H
   have c7b0 : (t196 == 0) = false := beq_eq_false_iff_ne.mpr c7
   have c7b1 : (t196 != 0) = true := bne_iff_ne.mpr c7
   simp only [Option.some.injEq, Prod.mk.injEq] at H
   obtain ⟨rfl, rfl, rfl, rfl, rfl, rfl, rfl, rfl, rfl, rfl, rfl, rfl, rfl, rfl⟩ := H
   go_enter Try.func19, Try.ntmps19
   go_wp2_with (first | ((with_reducible refine gate_dst (N := 3) rfl ?_); refine box_event ?hg (N := 3) ?hd (cs := #[.int .i64 a0_0, .int .i64 a0_1, .int .i64 a0_2, .int .i64 a0_3, .int .i64 a0_4, .int .i64 a0_5, .int .i64 a0_6, .int .i64 a0_7, .int .i64 a0_8, .int .u64 a0_9, .int .u64 a0_10, .int .u64 a0_11, .int .u64 a0_12]) (t := 25) ?hr ?_; (case hd => rfl); (case hg => rfl); (case hr => first | (go_simp; done) | (go_simp; rfl)); intro gb191 hg w44 hbox hb; have n0_ := Aside0.mk (below_step (by repeat (first | (with_reducible first | exact HB.out | apply below_alloc | apply pw_below_drewN | apply below_drew1) | exact HB.out)) hb); have n1_ := Aside0.mk (hbox); have n2_ := Aside0.mk ((by rw [hg]; exact (below_size (by repeat (first | (with_reducible first | exact HB.out | apply below_alloc | apply pw_below_drewN | apply below_drew1) | exact HB.out))) : w.heap.size ≤ gb191)); have n3_ := Aside0.mk ((by rw [hg]; exact (below_size (by repeat (first | (with_reducible first | exact HB.out | apply below_alloc | apply pw_below_drewN | apply below_drew1) | exact HB.out))) : w.heap.size ≤ gb191)); clear HB; have HB := n0_; have BK191 := n1_; have GW191 := n2_; have GE191 := n3_; clear n0_ n1_ n2_ n3_; clear hb hbox hg) | ((with_reducible refine gate_dst (N := 5) rfl ?_); refine box_event ?hg (N := 5) ?hd (cs := #[.int .u64 a2_0, .int .u64 a2_1, .int .u64 a2_2, .int .u64 a2_3]) (t := 23) ?hr ?_; (case hd => rfl); (case hg => rfl); (case hr => first | (go_simp; done) | (go_simp; rfl)); intro gb192 hg w45 hbox hb; have n0_ := Aside0.mk (blk_below (g := gb191) (o := .cells #[.int .i64 a0_0, .int .i64 a0_1, .int .i64 a0_2, .int .i64 a0_3, .int .i64 a0_4, .int .i64 a0_5, .int .i64 a0_6, .int .i64 a0_7, .int .i64 a0_8, .int .u64 a0_9, .int .u64 a0_10, .int .u64 a0_11, .int .u64 a0_12] 25 (0, 0)) (by (with_reducible repeat (first | refine blk_drewN ?_ _ | refine blk_drew ?_ | refine blk_alloc ?_ _)); exact BK191.out) hb); have n1_ := Aside0.mk (below_step (by repeat (first | (with_reducible first | exact HB.out | apply below_alloc | apply pw_below_drewN | apply below_drew1 | refine below_set ?_ GE191.out) | exact HB.out)) hb); have n2_ := Aside0.mk (hbox); have n3_ := Aside0.mk ((by rw [hg]; exact (below_size (by repeat (first | (with_reducible first | exact HB.out | apply below_alloc | apply pw_below_drewN | apply below_drew1 | refine below_set ?_ GE191.out) | exact HB.out))) : w.heap.size ≤ gb192)); have n4_ := Aside0.mk ((by rw [hg]; exact (below_size (by repeat (first | (with_reducible first | exact HB.out | apply below_alloc | apply pw_below_drewN | apply below_drew1 | refine below_set ?_ GE191.out) | exact HB.out))) : w.heap.size ≤ gb192)); have n5_ := Aside0.mk ((by rw [hg]; exact Nat.ne_of_lt (blk_lt (g := gb191) (o := .cells #[.int .i64 a0_0, .int .i64 a0_1, .int .i64 a0_2, .int .i64 a0_3, .int .i64 a0_4, .int .i64 a0_5, .int .i64 a0_6, .int .i64 a0_7, .int .i64 a0_8, .int .u64 a0_9, .int .u64 a0_10, .int .u64 a0_11, .int .u64 a0_12] 25 (0, 0)) (by (with_reducible repeat (first | refine blk_drewN ?_ _ | refine blk_drew ?_ | refine blk_alloc ?_ _)); exact BK191.out)) : gb191 ≠ gb192)); have n6_ := Aside0.mk ((by rw [hg]; exact Nat.ne_of_gt (blk_lt (g := gb191) (o := .cells #[.int .i64 a0_0, .int .i64 a0_1, .int .i64 a0_2, .int .i64 a0_3, .int .i64 a0_4, .int .i64 a0_5, .int .i64 a0_6, .int .i64 a0_7, .int .i64 a0_8, .int .u64 a0_9, .int .u64 a0_10, .int .u64 a0_11, .int .u64 a0_12] 25 (0, 0)) (by (with_reducible repeat (first | refine blk_drewN ?_ _ | refine blk_drew ?_ | refine blk_alloc ?_ _)); exact BK191.out)) : gb192 ≠ gb191)); clear BK191; clear HB; have BK191 := n0_; have HB := n1_; have BK192 := n2_; have GW192 := n3_; have GE192 := n4_; have NB191_192 := n5_; have NB192_191 := n6_; clear n0_ n1_ n2_ n3_ n4_ n5_ n6_; clear hb hbox hg) | ((with_reducible refine gate_dst (N := 6) rfl ?_); refine box_event ?hg (N := 6) ?hd (cs := #[.int .i64 0, .int .i64 0, .int .i64 0, .int .i64 0, .int .i64 0, .int .i64 0, .int .i64 0, .int .i64 0, .int .i64 0, .int .u64 0, .int .u64 0, .int .u64 0, .int .u64 0]) (t := 25) ?hr ?_; (case hd => rfl); (case hg => rfl); (case hr => first | (go_simp; done) | (go_simp; rfl)); intro gb193 hg w46 hbox hb; have n0_ := Aside0.mk (blk_below (g := gb191) (o := .cells #[.int .i64 a0_0, .int .i64 a0_1, .int .i64 a0_2, .int .i64 a0_3, .int .i64 a0_4, .int .i64 a0_5, .int .i64 a0_6, .int .i64 a0_7, .int .i64 a0_8, .int .u64 a0_9, .int .u64 a0_10, .int .u64 a0_11, .int .u64 a0_12] 25 (0, 0)) (by (with_reducible repeat (first | refine blk_drewN ?_ _ | refine blk_drew ?_ | refine blk_alloc ?_ _)); exact BK191.out) hb); have n1_ := Aside0.mk (blk_below (g := gb192) (o := .cells #[.int .u64 a2_0, .int .u64 a2_1, .int .u64 a2_2, .int .u64 a2_3] 23 (0, 0)) (by (with_reducible repeat (first | refine blk_drewN ?_ _ | refine blk_drew ?_ | refine blk_alloc ?_ _)); exact BK192.out) hb); have n2_ := Aside0.mk (below_step (by repeat (first | (with_reducible first | exact HB.out | apply below_alloc | apply pw_below_drewN | apply below_drew1 | refine below_set ?_ GE191.out | refine below_set ?_ GE192.out) | exact HB.out)) hb); have n3_ := Aside0.mk (hbox); have n4_ := Aside0.mk ((by rw [hg]; exact (below_size (by repeat (first | (with_reducible first | exact HB.out | apply below_alloc | apply pw_below_drewN | apply below_drew1 | refine below_set ?_ GE191.out | refine below_set ?_ GE192.out) | exact HB.out))) : w.heap.size ≤ gb193)); have n5_ := Aside0.mk ((by rw [hg]; exact (below_size (by repeat (first | (with_reducible first | exact HB.out | apply below_alloc | apply pw_below_drewN | apply below_drew1 | refine below_set ?_ GE191.out | refine below_set ?_ GE192.out) | exact HB.out))) : w.heap.size ≤ gb193)); have n6_ := Aside0.mk ((by rw [hg]; exact Nat.ne_of_lt (blk_lt (g := gb191) (o := .cells #[.int .i64 a0_0, .int .i64 a0_1, .int .i64 a0_2, .int .i64 a0_3, .int .i64 a0_4, .int .i64 a0_5, .int .i64 a0_6, .int .i64 a0_7, .int .i64 a0_8, .int .u64 a0_9, .int .u64 a0_10, .int .u64 a0_11, .int .u64 a0_12] 25 (0, 0)) (by (with_reducible repeat (first | refine blk_drewN ?_ _ | refine blk_drew ?_ | refine blk_alloc ?_ _)); exact BK191.out)) : gb191 ≠ gb193)); have n7_ := Aside0.mk ((by rw [hg]; exact Nat.ne_of_gt (blk_lt (g := gb191) (o := .cells #[.int .i64 a0_0, .int .i64 a0_1, .int .i64 a0_2, .int .i64 a0_3, .int .i64 a0_4, .int .i64 a0_5, .int .i64 a0_6, .int .i64 a0_7, .int .i64 a0_8, .int .u64 a0_9, .int .u64 a0_10, .int .u64 a0_11, .int .u64 a0_12] 25 (0, 0)) (by (with_reducible repeat (first | refine blk_drewN ?_ _ | refine blk_drew ?_ | refine blk_alloc ?_ _)); exact BK191.out)) : gb193 ≠ gb191)); have n8_ := Aside0.mk ((by rw [hg]; exact Nat.ne_of_lt (blk_lt (g := gb192) (o := .cells #[.int .u64 a2_0, .int .u64 a2_1, .int .u64 a2_2, .int .u64 a2_3] 23 (0, 0)) (by (with_reducible repeat (first | refine blk_drewN ?_ _ | refine blk_drew ?_ | refine blk_alloc ?_ _)); exact BK192.out)) : gb192 ≠ gb193)); have n9_ := Aside0.mk ((by rw [hg]; exact Nat.ne_of_gt (blk_lt (g := gb192) (o := .cells #[.int .u64 a2_0, .int .u64 a2_1, .int .u64 a2_2, .int .u64 a2_3] 23 (0, 0)) (by (with_reducible repeat (first | refine blk_drewN ?_ _ | refine blk_drew ?_ | refine blk_alloc ?_ _)); exact BK192.out)) : gb193 ≠ gb192)); clear BK191; clear BK192; clear HB; have BK191 := n0_; have BK192 := n1_; have HB := n2_; have BK193 := n3_; have GW193 := n4_; have GE193 := n5_; have NB191_193 := n6_; have NB193_191 := n7_; have NB192_193 := n8_; have NB193_192 := n9_; clear n0_ n1_ n2_ n3_ n4_ n5_ n6_ n7_ n8_ n9_; clear hb hbox hg; have hnb47 := NB191_192.out; have hnc47 := NB192_191.out; have hnb48 := NB191_193.out; have hnc48 := NB193_191.out; have hcz49_0 : w46.cell? ⟨gb191, 0, none⟩ = some (.int .i64 a0_0) := (blk_cell BK191.out 0).trans rfl; have hcz49_1 : w46.cell? ⟨gb191, 1, none⟩ = some (.int .i64 a0_1) := (blk_cell BK191.out 1).trans rfl; have hcz49_2 : w46.cell? ⟨gb191, 2, none⟩ = some (.int .i64 a0_2) := (blk_cell BK191.out 2).trans rfl; have hcz49_3 : w46.cell? ⟨gb191, 3, none⟩ = some (.int .i64 a0_3) := (blk_cell BK191.out 3).trans rfl; have hcz49_4 : w46.cell? ⟨gb191, 4, none⟩ = some (.int .i64 a0_4) := (blk_cell BK191.out 4).trans rfl; have hcz49_5 : w46.cell? ⟨gb191, 5, none⟩ = some (.int .i64 a0_5) := (blk_cell BK191.out 5).trans rfl; have hcz49_6 : w46.cell? ⟨gb191, 6, none⟩ = some (.int .i64 a0_6) := (blk_cell BK191.out 6).trans rfl; have hcz49_7 : w46.cell? ⟨gb191, 7, none⟩ = some (.int .i64 a0_7) := (blk_cell BK191.out 7).trans rfl; have hcz49_8 : w46.cell? ⟨gb191, 8, none⟩ = some (.int .i64 a0_8) := (blk_cell BK191.out 8).trans rfl; have hcz49_9 : w46.cell? ⟨gb191, 9, none⟩ = some (.int .u64 a0_9) := (blk_cell BK191.out 9).trans rfl; have hcz49_10 : w46.cell? ⟨gb191, 10, none⟩ = some (.int .u64 a0_10) := (blk_cell BK191.out 10).trans rfl; have hcz49_11 : w46.cell? ⟨gb191, 11, none⟩ = some (.int .u64 a0_11) := (blk_cell BK191.out 11).trans rfl; have hcz49_12 : w46.cell? ⟨gb191, 12, none⟩ = some (.int .u64 a0_12) := (blk_cell BK191.out 12).trans rfl; have hfz49_0 := blk_frozen BK191.out 0; have hfz49_1 := blk_frozen BK191.out 1; have hfz49_2 := blk_frozen BK191.out 2; have hfz49_3 := blk_frozen BK191.out 3; have hfz49_4 := blk_frozen BK191.out 4; have hfz49_5 := blk_frozen BK191.out 5; have hfz49_6 := blk_frozen BK191.out 6; have hfz49_7 := blk_frozen BK191.out 7; have hfz49_8 := blk_frozen BK191.out 8; have hfz49_9 := blk_frozen BK191.out 9; have hfz49_10 := blk_frozen BK191.out 10; have hfz49_11 := blk_frozen BK191.out 11; have hfz49_12 := blk_frozen BK191.out 12) | ((with_reducible refine gate_callee (f := 25) rfl ?_); refine goesL_ (some 13) rfl rfl Try.func25 (by kernel_rfl) rfl #[.agg #[.int .i64 a0_0, .int .i64 a0_1, .int .i64 a0_2, .int .i64 a0_3, .int .i64 a0_4, .int .i64 a0_5, .int .i64 a0_6, .int .i64 0, .int .i64 a0_8, .int .u64 a0_9, .int .u64 a0_10, .int .u64 a0_11, .int .u64 a0_12]] rfl (by (try simp only [List.map_toArray, List.map_cons, List.map_nil]); first | done | rfl | (simp only [List.length_drop, List.length_take]; rfl)) ?_; (with_reducible refine (chargeparkref41_Valid.calls k a0_0 a0_1 a0_2 a0_3 a0_4 a0_5 a0_6 0 a0_8 a0_9 a0_10 a0_11 a0_12 true _ A4.out).mono ?_); rintro e w50 ⟨rfl, hb⟩; refine ⟨_, rfl, ?_⟩; have n0_ := Aside0.mk (blk_below (g := gb191) (o := .cells #[.int .i64 a0_0, .int .i64 a0_1, .int .i64 a0_2, .int .i64 a0_3, .int .i64 a0_4, .int .i64 a0_5, .int .i64 a0_6, .int .i64 0, .int .i64 a0_8, .int .u64 a0_9, .int .u64 a0_10, .int .u64 a0_11, .int .u64 a0_12] 25 (0, 0)) (by (with_reducible repeat (first | refine blk_drewN ?_ _ | refine blk_drew ?_ | refine blk_alloc ?_ _)); refine blk_put (cs := #[.int .i64 a0_0, .int .i64 a0_1, .int .i64 a0_2, .int .i64 a0_3, .int .i64 a0_4, .int .i64 a0_5, .int .i64 a0_6, .int .i64 a0_7, .int .i64 a0_8, .int .u64 a0_9, .int .u64 a0_10, .int .u64 a0_11, .int .u64 a0_12]) ?_ 7 _ rfl; (with_reducible repeat (first | refine blk_drewN ?_ _ | refine blk_drew ?_ | refine blk_alloc ?_ _)); exact BK191.out) hb); have n1_ := Aside0.mk (blk_below (g := gb192) (o := .cells #[.int .u64 a2_0, .int .u64 a2_1, .int .u64 a2_2, .int .u64 a2_3] 23 (0, 0)) (by (with_reducible repeat (first | refine blk_drewN ?_ _ | refine blk_drew ?_ | refine blk_alloc ?_ _)); refine blk_far ?_ NB192_191.out _; (with_reducible repeat (first | refine blk_drewN ?_ _ | refine blk_drew ?_ | refine blk_alloc ?_ _)); exact BK192.out) hb); have n2_ := Aside0.mk (blk_below (g := gb193) (o := .cells #[.int .i64 0, .int .i64 0, .int .i64 0, .int .i64 0, .int .i64 0, .int .i64 0, .int .i64 0, .int .i64 0, .int .i64 0, .int .u64 0, .int .u64 0, .int .u64 0, .int .u64 0] 25 (0, 0)) (by (with_reducible repeat (first | refine blk_drewN ?_ _ | refine blk_drew ?_ | refine blk_alloc ?_ _)); refine blk_far ?_ NB193_191.out _; (with_reducible repeat (first | refine blk_drewN ?_ _ | refine blk_drew ?_ | refine blk_alloc ?_ _)); exact BK193.out) hb); have n3_ := Aside0.mk (below_step (by repeat (first | (with_reducible first | exact HB.out | apply below_alloc | apply pw_below_drewN | apply below_drew1 | refine below_set ?_ GE191.out | refine below_set ?_ GE192.out | refine below_set ?_ GE193.out) | exact HB.out)) hb); clear BK191; clear BK192; clear BK193; clear HB; have BK191 := n0_; have BK192 := n1_; have BK193 := n2_; have HB := n3_; clear n0_ n1_ n2_ n3_; (try clear hb); (try clear hb2); (try clear hk); (try clear hi); have hcz51_0 : w50.cell? ⟨gb191, 0, none⟩ = some (.int .i64 a0_0) := (blk_cell BK191.out 0).trans rfl; have hcz51_1 : w50.cell? ⟨gb191, 1, none⟩ = some (.int .i64 a0_1) := (blk_cell BK191.out 1).trans rfl; have hcz51_2 : w50.cell? ⟨gb191, 2, none⟩ = some (.int .i64 a0_2) := (blk_cell BK191.out 2).trans rfl; have hcz51_3 : w50.cell? ⟨gb191, 3, none⟩ = some (.int .i64 a0_3) := (blk_cell BK191.out 3).trans rfl; have hcz51_4 : w50.cell? ⟨gb191, 4, none⟩ = some (.int .i64 a0_4) := (blk_cell BK191.out 4).trans rfl; have hcz51_5 : w50.cell? ⟨gb191, 5, none⟩ = some (.int .i64 a0_5) := (blk_cell BK191.out 5).trans rfl; have hcz51_6 : w50.cell? ⟨gb191, 6, none⟩ = some (.int .i64 a0_6) := (blk_cell BK191.out 6).trans rfl; have hcz51_7 : w50.cell? ⟨gb191, 7, none⟩ = some (.int .i64 0) := (blk_cell BK191.out 7).trans rfl; have hcz51_8 : w50.cell? ⟨gb191, 8, none⟩ = some (.int .i64 a0_8) := (blk_cell BK191.out 8).trans rfl; have hcz51_9 : w50.cell? ⟨gb191, 9, none⟩ = some (.int .u64 a0_9) := (blk_cell BK191.out 9).trans rfl; have hcz51_10 : w50.cell? ⟨gb191, 10, none⟩ = some (.int .u64 a0_10) := (blk_cell BK191.out 10).trans rfl; have hcz51_11 : w50.cell? ⟨gb191, 11, none⟩ = some (.int .u64 a0_11) := (blk_cell BK191.out 11).trans rfl; have hcz51_12 : w50.cell? ⟨gb191, 12, none⟩ = some (.int .u64 a0_12) := (blk_cell BK191.out 12).trans rfl; have hfz51_0 := blk_frozen BK191.out 0; have hfz51_1 := blk_frozen BK191.out 1; have hfz51_2 := blk_frozen BK191.out 2; have hfz51_3 := blk_frozen BK191.out 3; have hfz51_4 := blk_frozen BK191.out 4; have hfz51_5 := blk_frozen BK191.out 5; have hfz51_6 := blk_frozen BK191.out 6; have hfz51_7 := blk_frozen BK191.out 7; have hfz51_8 := blk_frozen BK191.out 8; have hfz51_9 := blk_frozen BK191.out 9; have hfz51_10 := blk_frozen BK191.out 10; have hfz51_11 := blk_frozen BK191.out 11; have hfz51_12 := blk_frozen BK191.out 12) | ((with_reducible refine gate_callee (f := 31) rfl ?_); refine goesL_ (some 22) rfl rfl Try.func31 (by kernel_rfl) rfl #[.slice A1 l1.length c1, .int .i64 a0_5, .int .i64 a0_6] rfl (by (try simp only [List.map_toArray, List.map_cons, List.map_nil]); first | done | rfl | (simp only [List.length_drop, List.length_take]; rfl)) ?_; (with_reducible refine (chargeparkref40_Energy.calls k _ _ l1 a0_5 a0_6 t195 t196 _ ?side1 ?side2 A6.out).mono ?_); (case side1 => repeat (first | exact (Kd.C_below HR1.out HB.out) | (with_reducible refine Kd.C_alloc ?_ _) | (with_reducible refine Kd.C_drewN ?_ _) | (with_reducible refine Kd.C_drew ?_))); (case side2 => exact HC1.out); rintro e w52 ⟨rfl, hb⟩; refine ⟨_, rfl, ?_⟩; have n0_ := Aside0.mk (blk_below (g := gb191) (o := .cells #[.int .i64 a0_0, .int .i64 a0_1, .int .i64 a0_2, .int .i64 a0_3, .int .i64 a0_4, .int .i64 a0_5, .int .i64 a0_6, .int .i64 0, .int .i64 a0_8, .int .u64 a0_9, .int .u64 a0_10, .int .u64 a0_11, .int .u64 a0_12] 25 (0, 0)) (by (with_reducible repeat (first | refine blk_drewN ?_ _ | refine blk_drew ?_ | refine blk_alloc ?_ _)); exact BK191.out) hb); have n1_ := Aside0.mk (blk_below (g := gb192) (o := .cells #[.int .u64 a2_0, .int .u64 a2_1, .int .u64 a2_2, .int .u64 a2_3] 23 (0, 0)) (by (with_reducible repeat (first | refine blk_drewN ?_ _ | refine blk_drew ?_ | refine blk_alloc ?_ _)); exact BK192.out) hb); have n2_ := Aside0.mk (blk_below (g := gb193) (o := .cells #[.int .i64 0, .int .i64 0, .int .i64 0, .int .i64 0, .int .i64 0, .int .i64 0, .int .i64 0, .int .i64 0, .int .i64 0, .int .u64 0, .int .u64 0, .int .u64 0, .int .u64 0] 25 (0, 0)) (by (with_reducible repeat (first | refine blk_drewN ?_ _ | refine blk_drew ?_ | refine blk_alloc ?_ _)); exact BK193.out) hb); have n3_ := Aside0.mk (below_step (by repeat (first | (with_reducible first | exact HB.out | apply below_alloc | apply pw_below_drewN | apply below_drew1 | refine below_set ?_ GE191.out | refine below_set ?_ GE192.out | refine below_set ?_ GE193.out) | exact HB.out)) hb); clear BK191; clear BK192; clear BK193; clear HB; have BK191 := n0_; have BK192 := n1_; have BK193 := n2_; have HB := n3_; clear n0_ n1_ n2_ n3_; (try clear hb); (try clear hb2); (try clear hk); (try clear hi); have hnb53 := NB193_192.out; have hnc53 := NB192_193.out; have hcz54_0 : w52.cell? ⟨gb193, 0, none⟩ = some (.int .i64 0) := (blk_cell BK193.out 0).trans rfl; have hcz54_1 : w52.cell? ⟨gb193, 1, none⟩ = some (.int .i64 0) := (blk_cell BK193.out 1).trans rfl; have hcz54_2 : w52.cell? ⟨gb193, 2, none⟩ = some (.int .i64 0) := (blk_cell BK193.out 2).trans rfl; have hcz54_3 : w52.cell? ⟨gb193, 3, none⟩ = some (.int .i64 0) := (blk_cell BK193.out 3).trans rfl; have hcz54_4 : w52.cell? ⟨gb193, 4, none⟩ = some (.int .i64 0) := (blk_cell BK193.out 4).trans rfl; have hcz54_5 : w52.cell? ⟨gb193, 5, none⟩ = some (.int .i64 0) := (blk_cell BK193.out 5).trans rfl; have hcz54_6 : w52.cell? ⟨gb193, 6, none⟩ = some (.int .i64 0) := (blk_cell BK193.out 6).trans rfl; have hcz54_7 : w52.cell? ⟨gb193, 7, none⟩ = some (.int .i64 0) := (blk_cell BK193.out 7).trans rfl; have hcz54_8 : w52.cell? ⟨gb193, 8, none⟩ = some (.int .i64 0) := (blk_cell BK193.out 8).trans rfl; have hcz54_9 : w52.cell? ⟨gb193, 9, none⟩ = some (.int .u64 0) := (blk_cell BK193.out 9).trans rfl; have hcz54_10 : w52.cell? ⟨gb193, 10, none⟩ = some (.int .u64 0) := (blk_cell BK193.out 10).trans rfl; have hcz54_11 : w52.cell? ⟨gb193, 11, none⟩ = some (.int .u64 0) := (blk_cell BK193.out 11).trans rfl; have hcz54_12 : w52.cell? ⟨gb193, 12, none⟩ = some (.int .u64 0) := (blk_cell BK193.out 12).trans rfl; have hfz54_0 := blk_frozen BK193.out 0; have hfz54_1 := blk_frozen BK193.out 1; have hfz54_2 := blk_frozen BK193.out 2; have hfz54_3 := blk_frozen BK193.out 3; have hfz54_4 := blk_frozen BK193.out 4; have hfz54_5 := blk_frozen BK193.out 5; have hfz54_6 := blk_frozen BK193.out 6; have hfz54_7 := blk_frozen BK193.out 7; have hfz54_8 := blk_frozen BK193.out 8; have hfz54_9 := blk_frozen BK193.out 9; have hfz54_10 := blk_frozen BK193.out 10; have hfz54_11 := blk_frozen BK193.out 11; have hfz54_12 := blk_frozen BK193.out 12))
   refine bodyPost_ret (results_ct rfl _ _ gb193 25 #[.int .i64 0, .int .i64 0, .int .i64 0, .int .i64 0, .int .i64 0, .int .i64 0, .int .i64 0, .int .i64 0, .int .i64 0, .int .u64 0, .int .u64 0, .int .u64 0, .int .u64 0] (0, 0) _ rfl (by (with_reducible repeat (first | refine blk_drewN ?_ _ | refine blk_drew ?_ | refine blk_alloc ?_ _)); refine blk_put (cs := #[.int .i64 0, .int .i64 0, .int .i64 0, .int .i64 0, .int .i64 0, .int .i64 0, .int .i64 0, .int .i64 0, .int .i64 0, .int .u64 0, .int .u64 0, .int .u64 0, .int .u64 0]) ?_ 12 _ rfl; (with_reducible repeat (first | refine blk_drewN ?_ _ | refine blk_drew ?_ | refine blk_alloc ?_ _)); refine blk_put (cs := #[.int .i64 0, .int .i64 0, .int .i64 0, .int .i64 0, .int .i64 0, .int .i64 0, .int .i64 0, .int .i64 0, .int .i64 0, .int .u64 0, .int .u64 0, .int .u64 0, .int .u64 0]) ?_ 11 _ rfl; (with_reducible repeat (first | refine blk_drewN ?_ _ | refine blk_drew ?_ | refine blk_alloc ?_ _)); refine blk_put (cs := #[.int .i64 0, .int .i64 0, .int .i64 0, .int .i64 0, .int .i64 0, .int .i64 0, .int .i64 0, .int .i64 0, .int .i64 0, .int .u64 0, .int .u64 0, .int .u64 0, .int .u64 0]) ?_ 10 _ rfl; (with_reducible repeat (first | refine blk_drewN ?_ _ | refine blk_drew ?_ | refine blk_alloc ?_ _)); refine blk_put (cs := #[.int .i64 0, .int .i64 0, .int .i64 0, .int .i64 0, .int .i64 0, .int .i64 0, .int .i64 0, .int .i64 0, .int .i64 0, .int .u64 0, .int .u64 0, .int .u64 0, .int .u64 0]) ?_ 9 _ rfl; (with_reducible repeat (first | refine blk_drewN ?_ _ | refine blk_drew ?_ | refine blk_alloc ?_ _)); refine blk_put (cs := #[.int .i64 0, .int .i64 0, .int .i64 0, .int .i64 0, .int .i64 0, .int .i64 0, .int .i64 0, .int .i64 0, .int .i64 0, .int .u64 0, .int .u64 0, .int .u64 0, .int .u64 0]) ?_ 8 _ rfl; (with_reducible repeat (first | refine blk_drewN ?_ _ | refine blk_drew ?_ | refine blk_alloc ?_ _)); refine blk_put (cs := #[.int .i64 0, .int .i64 0, .int .i64 0, .int .i64 0, .int .i64 0, .int .i64 0, .int .i64 0, .int .i64 0, .int .i64 0, .int .u64 0, .int .u64 0, .int .u64 0, .int .u64 0]) ?_ 7 _ rfl; (with_reducible repeat (first | refine blk_drewN ?_ _ | refine blk_drew ?_ | refine blk_alloc ?_ _)); refine blk_put (cs := #[.int .i64 0, .int .i64 0, .int .i64 0, .int .i64 0, .int .i64 0, .int .i64 0, .int .i64 0, .int .i64 0, .int .i64 0, .int .u64 0, .int .u64 0, .int .u64 0, .int .u64 0]) ?_ 6 _ rfl; (with_reducible repeat (first | refine blk_drewN ?_ _ | refine blk_drew ?_ | refine blk_alloc ?_ _)); refine blk_put (cs := #[.int .i64 0, .int .i64 0, .int .i64 0, .int .i64 0, .int .i64 0, .int .i64 0, .int .i64 0, .int .i64 0, .int .i64 0, .int .u64 0, .int .u64 0, .int .u64 0, .int .u64 0]) ?_ 5 _ rfl; (with_reducible repeat (first | refine blk_drewN ?_ _ | refine blk_drew ?_ | refine blk_alloc ?_ _)); refine blk_put (cs := #[.int .i64 0, .int .i64 0, .int .i64 0, .int .i64 0, .int .i64 0, .int .i64 0, .int .i64 0, .int .i64 0, .int .i64 0, .int .u64 0, .int .u64 0, .int .u64 0, .int .u64 0]) ?_ 4 _ rfl; (with_reducible repeat (first | refine blk_drewN ?_ _ | refine blk_drew ?_ | refine blk_alloc ?_ _)); refine blk_put (cs := #[.int .i64 0, .int .i64 0, .int .i64 0, .int .i64 0, .int .i64 0, .int .i64 0, .int .i64 0, .int .i64 0, .int .i64 0, .int .u64 0, .int .u64 0, .int .u64 0, .int .u64 0]) ?_ 3 _ rfl; (with_reducible repeat (first | refine blk_drewN ?_ _ | refine blk_drew ?_ | refine blk_alloc ?_ _)); refine blk_put (cs := #[.int .i64 0, .int .i64 0, .int .i64 0, .int .i64 0, .int .i64 0, .int .i64 0, .int .i64 0, .int .i64 0, .int .i64 0, .int .u64 0, .int .u64 0, .int .u64 0, .int .u64 0]) ?_ 2 _ rfl; (with_reducible repeat (first | refine blk_drewN ?_ _ | refine blk_drew ?_ | refine blk_alloc ?_ _)); refine blk_put (cs := #[.int .i64 0, .int .i64 0, .int .i64 0, .int .i64 0, .int .i64 0, .int .i64 0, .int .i64 0, .int .i64 0, .int .i64 0, .int .u64 0, .int .u64 0, .int .u64 0, .int .u64 0]) ?_ 1 _ rfl; (with_reducible repeat (first | refine blk_drewN ?_ _ | refine blk_drew ?_ | refine blk_alloc ?_ _)); refine blk_put (cs := #[.int .i64 0, .int .i64 0, .int .i64 0, .int .i64 0, .int .i64 0, .int .i64 0, .int .i64 0, .int .i64 0, .int .i64 0, .int .u64 0, .int .u64 0, .int .u64 0, .int .u64 0]) ?_ 0 _ rfl; (with_reducible repeat (first | refine blk_drewN ?_ _ | refine blk_drew ?_ | refine blk_alloc ?_ _)); exact BK193.out) Try.underlying25 rfl (by kernel_rfl)) rfl ?_
   exact ⟨by first | rfl | (simp [errW_none, errW_some] <;> rfl) | (simp [*, errW_none, errW_some] <;> rfl), by repeat (first | (with_reducible first | exact HB.out | apply below_alloc | apply pw_below_drewN | apply below_drew1 | refine below_set ?_ GE191.out | refine below_set ?_ GE192.out | refine below_set ?_ GE193.out) | exact HB.out)⟩
 ·replace c5 := Bool.eq_false_iff.mpr c5
  subst c5
  have H1 : (some (0, 0, 0, 0, 0, 0, 0, 0, 0, 0, 0, 0, 0, 1)) = some (r1, r2, r3, r4, r5, r6, r7, r8, r9, r10, r11, r12, r13, r14) := by rw [if_neg (show ¬ (false = true) by decide)] at H; exact H
  clear H
  have H := H1
  clear H1
  simp only [Option.some.injEq, Prod.mk.injEq] at H
  obtain ⟨rfl, rfl, rfl, rfl, rfl, rfl, rfl, rfl, rfl, rfl, rfl, rfl, rfl, rfl⟩ := H
  go_enter Try.func19, Try.ntmps19
  go_wp2_with (first | ((with_reducible refine gate_dst (N := 3) rfl ?_); refine box_event ?hg (N := 3) ?hd (cs := #[.int .i64 a0_0, .int .i64 a0_1, .int .i64 a0_2, .int .i64 a0_3, .int .i64 a0_4, .int .i64 a0_5, .int .i64 a0_6, .int .i64 a0_7, .int .i64 a0_8, .int .u64 a0_9, .int .u64 a0_10, .int .u64 a0_11, .int .u64 a0_12]) (t := 25) ?hr ?_; (case hd => rfl); (case hg => rfl); (case hr => first | (go_simp; done) | (go_simp; rfl)); intro gb191 hg w55 hbox hb; have n0_ := Aside0.mk (below_step (by repeat (first | (with_reducible first | exact HB.out | apply below_alloc | apply pw_below_drewN | apply below_drew1) | exact HB.out)) hb); have n1_ := Aside0.mk (hbox); have n2_ := Aside0.mk ((by rw [hg]; exact (below_size (by repeat (first | (with_reducible first | exact HB.out | apply below_alloc | apply pw_below_drewN | apply below_drew1) | exact HB.out))) : w.heap.size ≤ gb191)); have n3_ := Aside0.mk ((by rw [hg]; exact (below_size (by repeat (first | (with_reducible first | exact HB.out | apply below_alloc | apply pw_below_drewN | apply below_drew1) | exact HB.out))) : w.heap.size ≤ gb191)); clear HB; have HB := n0_; have BK191 := n1_; have GW191 := n2_; have GE191 := n3_; clear n0_ n1_ n2_ n3_; clear hb hbox hg) | ((with_reducible refine gate_dst (N := 5) rfl ?_); refine box_event ?hg (N := 5) ?hd (cs := #[.int .u64 a2_0, .int .u64 a2_1, .int .u64 a2_2, .int .u64 a2_3]) (t := 23) ?hr ?_; (case hd => rfl); (case hg => rfl); (case hr => first | (go_simp; done) | (go_simp; rfl)); intro gb192 hg w56 hbox hb; have n0_ := Aside0.mk (blk_below (g := gb191) (o := .cells #[.int .i64 a0_0, .int .i64 a0_1, .int .i64 a0_2, .int .i64 a0_3, .int .i64 a0_4, .int .i64 a0_5, .int .i64 a0_6, .int .i64 a0_7, .int .i64 a0_8, .int .u64 a0_9, .int .u64 a0_10, .int .u64 a0_11, .int .u64 a0_12] 25 (0, 0)) (by (with_reducible repeat (first | refine blk_drewN ?_ _ | refine blk_drew ?_ | refine blk_alloc ?_ _)); exact BK191.out) hb); have n1_ := Aside0.mk (below_step (by repeat (first | (with_reducible first | exact HB.out | apply below_alloc | apply pw_below_drewN | apply below_drew1 | refine below_set ?_ GE191.out) | exact HB.out)) hb); have n2_ := Aside0.mk (hbox); have n3_ := Aside0.mk ((by rw [hg]; exact (below_size (by repeat (first | (with_reducible first | exact HB.out | apply below_alloc | apply pw_below_drewN | apply below_drew1 | refine below_set ?_ GE191.out) | exact HB.out))) : w.heap.size ≤ gb192)); have n4_ := Aside0.mk ((by rw [hg]; exact (below_size (by repeat (first | (with_reducible first | exact HB.out | apply below_alloc | apply pw_below_drewN | apply below_drew1 | refine below_set ?_ GE191.out) | exact HB.out))) : w.heap.size ≤ gb192)); have n5_ := Aside0.mk ((by rw [hg]; exact Nat.ne_of_lt (blk_lt (g := gb191) (o := .cells #[.int .i64 a0_0, .int .i64 a0_1, .int .i64 a0_2, .int .i64 a0_3, .int .i64 a0_4, .int .i64 a0_5, .int .i64 a0_6, .int .i64 a0_7, .int .i64 a0_8, .int .u64 a0_9, .int .u64 a0_10, .int .u64 a0_11, .int .u64 a0_12] 25 (0, 0)) (by (with_reducible repeat (first | refine blk_drewN ?_ _ | refine blk_drew ?_ | refine blk_alloc ?_ _)); exact BK191.out)) : gb191 ≠ gb192)); have n6_ := Aside0.mk ((by rw [hg]; exact Nat.ne_of_gt (blk_lt (g := gb191) (o := .cells #[.int .i64 a0_0, .int .i64 a0_1, .int .i64 a0_2, .int .i64 a0_3, .int .i64 a0_4, .int .i64 a0_5, .int .i64 a0_6, .int .i64 a0_7, .int .i64 a0_8, .int .u64 a0_9, .int .u64 a0_10, .int .u64 a0_11, .int .u64 a0_12] 25 (0, 0)) (by (with_reducible repeat (first | refine blk_drewN ?_ _ | refine blk_drew ?_ | refine blk_alloc ?_ _)); exact BK191.out)) : gb192 ≠ gb191)); clear BK191; clear HB; have BK191 := n0_; have HB := n1_; have BK192 := n2_; have GW192 := n3_; have GE192 := n4_; have NB191_192 := n5_; have NB192_191 := n6_; clear n0_ n1_ n2_ n3_ n4_ n5_ n6_; clear hb hbox hg) | ((with_reducible refine gate_dst (N := 6) rfl ?_); refine box_event ?hg (N := 6) ?hd (cs := #[.int .i64 0, .int .i64 0, .int .i64 0, .int .i64 0, .int .i64 0, .int .i64 0, .int .i64 0, .int .i64 0, .int .i64 0, .int .u64 0, .int .u64 0, .int .u64 0, .int .u64 0]) (t := 25) ?hr ?_; (case hd => rfl); (case hg => rfl); (case hr => first | (go_simp; done) | (go_simp; rfl)); intro gb193 hg w57 hbox hb; have n0_ := Aside0.mk (blk_below (g := gb191) (o := .cells #[.int .i64 a0_0, .int .i64 a0_1, .int .i64 a0_2, .int .i64 a0_3, .int .i64 a0_4, .int .i64 a0_5, .int .i64 a0_6, .int .i64 a0_7, .int .i64 a0_8, .int .u64 a0_9, .int .u64 a0_10, .int .u64 a0_11, .int .u64 a0_12] 25 (0, 0)) (by (with_reducible repeat (first | refine blk_drewN ?_ _ | refine blk_drew ?_ | refine blk_alloc ?_ _)); exact BK191.out) hb); have n1_ := Aside0.mk (blk_below (g := gb192) (o := .cells #[.int .u64 a2_0, .int .u64 a2_1, .int .u64 a2_2, .int .u64 a2_3] 23 (0, 0)) (by (with_reducible repeat (first | refine blk_drewN ?_ _ | refine blk_drew ?_ | refine blk_alloc ?_ _)); exact BK192.out) hb); have n2_ := Aside0.mk (below_step (by repeat (first | (with_reducible first | exact HB.out | apply below_alloc | apply pw_below_drewN | apply below_drew1 | refine below_set ?_ GE191.out | refine below_set ?_ GE192.out) | exact HB.out)) hb); have n3_ := Aside0.mk (hbox); have n4_ := Aside0.mk ((by rw [hg]; exact (below_size (by repeat (first | (with_reducible first | exact HB.out | apply below_alloc | apply pw_below_drewN | apply below_drew1 | refine below_set ?_ GE191.out | refine below_set ?_ GE192.out) | exact HB.out))) : w.heap.size ≤ gb193)); have n5_ := Aside0.mk ((by rw [hg]; exact (below_size (by repeat (first | (with_reducible first | exact HB.out | apply below_alloc | apply pw_below_drewN | apply below_drew1 | refine below_set ?_ GE191.out | refine below_set ?_ GE192.out) | exact HB.out))) : w.heap.size ≤ gb193)); have n6_ := Aside0.mk ((by rw [hg]; exact Nat.ne_of_lt (blk_lt (g := gb191) (o := .cells #[.int .i64 a0_0, .int .i64 a0_1, .int .i64 a0_2, .int .i64 a0_3, .int .i64 a0_4, .int .i64 a0_5, .int .i64 a0_6, .int .i64 a0_7, .int .i64 a0_8, .int .u64 a0_9, .int .u64 a0_10, .int .u64 a0_11, .int .u64 a0_12] 25 (0, 0)) (by (with_reducible repeat (first | refine blk_drewN ?_ _ | refine blk_drew ?_ | refine blk_alloc ?_ _)); exact BK191.out)) : gb191 ≠ gb193)); have n7_ := Aside0.mk ((by rw [hg]; exact Nat.ne_of_gt (blk_lt (g := gb191) (o := .cells #[.int .i64 a0_0, .int .i64 a0_1, .int .i64 a0_2, .int .i64 a0_3, .int .i64 a0_4, .int .i64 a0_5, .int .i64 a0_6, .int .i64 a0_7, .int .i64 a0_8, .int .u64 a0_9, .int .u64 a0_10, .int .u64 a0_11, .int .u64 a0_12] 25 (0, 0)) (by (with_reducible repeat (first | refine blk_drewN ?_ _ | refine blk_drew ?_ | refine blk_alloc ?_ _)); exact BK191.out)) : gb193 ≠ gb191)); have n8_ := Aside0.mk ((by rw [hg]; exact Nat.ne_of_lt (blk_lt (g := gb192) (o := .cells #[.int .u64 a2_0, .int .u64 a2_1, .int .u64 a2_2, .int .u64 a2_3] 23 (0, 0)) (by (with_reducible repeat (first | refine blk_drewN ?_ _ | refine blk_drew ?_ | refine blk_alloc ?_ _)); exact BK192.out)) : gb192 ≠ gb193)); have n9_ := Aside0.mk ((by rw [hg]; exact Nat.ne_of_gt (blk_lt (g := gb192) (o := .cells #[.int .u64 a2_0, .int .u64 a2_1, .int .u64 a2_2, .int .u64 a2_3] 23 (0, 0)) (by (with_reducible repeat (first | refine blk_drewN ?_ _ | refine blk_drew ?_ | refine blk_alloc ?_ _)); exact BK192.out)) : gb193 ≠ gb192)); clear BK191; clear BK192; clear HB; have BK191 := n0_; have BK192 := n1_; have HB := n2_; have BK193 := n3_; have GW193 := n4_; have GE193 := n5_; have NB191_193 := n6_; have NB193_191 := n7_; have NB192_193 := n8_; have NB193_192 := n9_; clear n0_ n1_ n2_ n3_ n4_ n5_ n6_ n7_ n8_ n9_; clear hb hbox hg; have hnb58 := NB191_192.out; have hnc58 := NB192_191.out; have hnb59 := NB191_193.out; have hnc59 := NB193_191.out; have hcz60_0 : w57.cell? ⟨gb191, 0, none⟩ = some (.int .i64 a0_0) := (blk_cell BK191.out 0).trans rfl; have hcz60_1 : w57.cell? ⟨gb191, 1, none⟩ = some (.int .i64 a0_1) := (blk_cell BK191.out 1).trans rfl; have hcz60_2 : w57.cell? ⟨gb191, 2, none⟩ = some (.int .i64 a0_2) := (blk_cell BK191.out 2).trans rfl; have hcz60_3 : w57.cell? ⟨gb191, 3, none⟩ = some (.int .i64 a0_3) := (blk_cell BK191.out 3).trans rfl; have hcz60_4 : w57.cell? ⟨gb191, 4, none⟩ = some (.int .i64 a0_4) := (blk_cell BK191.out 4).trans rfl; have hcz60_5 : w57.cell? ⟨gb191, 5, none⟩ = some (.int .i64 a0_5) := (blk_cell BK191.out 5).trans rfl; have hcz60_6 : w57.cell? ⟨gb191, 6, none⟩ = some (.int .i64 a0_6) := (blk_cell BK191.out 6).trans rfl; have hcz60_7 : w57.cell? ⟨gb191, 7, none⟩ = some (.int .i64 a0_7) := (blk_cell BK191.out 7).trans rfl; have hcz60_8 : w57.cell? ⟨gb191, 8, none⟩ = some (.int .i64 a0_8) := (blk_cell BK191.out 8).trans rfl; have hcz60_9 : w57.cell? ⟨gb191, 9, none⟩ = some (.int .u64 a0_9) := (blk_cell BK191.out 9).trans rfl; have hcz60_10 : w57.cell? ⟨gb191, 10, none⟩ = some (.int .u64 a0_10) := (blk_cell BK191.out 10).trans rfl; have hcz60_11 : w57.cell? ⟨gb191, 11, none⟩ = some (.int .u64 a0_11) := (blk_cell BK191.out 11).trans rfl; have hcz60_12 : w57.cell? ⟨gb191, 12, none⟩ = some (.int .u64 a0_12) := (blk_cell BK191.out 12).trans rfl; have hfz60_0 := blk_frozen BK191.out 0; have hfz60_1 := blk_frozen BK191.out 1; have hfz60_2 := blk_frozen BK191.out 2; have hfz60_3 := blk_frozen BK191.out 3; have hfz60_4 := blk_frozen BK191.out 4; have hfz60_5 := blk_frozen BK191.out 5; have hfz60_6 := blk_frozen BK191.out 6; have hfz60_7 := blk_frozen BK191.out 7; have hfz60_8 := blk_frozen BK191.out 8; have hfz60_9 := blk_frozen BK191.out 9; have hfz60_10 := blk_frozen BK191.out 10; have hfz60_11 := blk_frozen BK191.out 11; have hfz60_12 := blk_frozen BK191.out 12) | ((with_reducible refine gate_callee (f := 25) rfl ?_); refine goesL_ (some 13) rfl rfl Try.func25 (by kernel_rfl) rfl #[.agg #[.int .i64 a0_0, .int .i64 a0_1, .int .i64 a0_2, .int .i64 a0_3, .int .i64 a0_4, .int .i64 a0_5, .int .i64 a0_6, .int .i64 0, .int .i64 a0_8, .int .u64 a0_9, .int .u64 a0_10, .int .u64 a0_11, .int .u64 a0_12]] rfl (by (try simp only [List.map_toArray, List.map_cons, List.map_nil]); first | done | rfl | (simp only [List.length_drop, List.length_take]; rfl)) ?_; (with_reducible refine (chargeparkref41_Valid.calls k a0_0 a0_1 a0_2 a0_3 a0_4 a0_5 a0_6 0 a0_8 a0_9 a0_10 a0_11 a0_12 false _ A4.out).mono ?_); rintro e w61 ⟨rfl, hb⟩; refine ⟨_, rfl, ?_⟩; have n0_ := Aside0.mk (blk_below (g := gb191) (o := .cells #[.int .i64 a0_0, .int .i64 a0_1, .int .i64 a0_2, .int .i64 a0_3, .int .i64 a0_4, .int .i64 a0_5, .int .i64 a0_6, .int .i64 0, .int .i64 a0_8, .int .u64 a0_9, .int .u64 a0_10, .int .u64 a0_11, .int .u64 a0_12] 25 (0, 0)) (by (with_reducible repeat (first | refine blk_drewN ?_ _ | refine blk_drew ?_ | refine blk_alloc ?_ _)); refine blk_put (cs := #[.int .i64 a0_0, .int .i64 a0_1, .int .i64 a0_2, .int .i64 a0_3, .int .i64 a0_4, .int .i64 a0_5, .int .i64 a0_6, .int .i64 a0_7, .int .i64 a0_8, .int .u64 a0_9, .int .u64 a0_10, .int .u64 a0_11, .int .u64 a0_12]) ?_ 7 _ rfl; (with_reducible repeat (first | refine blk_drewN ?_ _ | refine blk_drew ?_ | refine blk_alloc ?_ _)); exact BK191.out) hb); have n1_ := Aside0.mk (blk_below (g := gb192) (o := .cells #[.int .u64 a2_0, .int .u64 a2_1, .int .u64 a2_2, .int .u64 a2_3] 23 (0, 0)) (by (with_reducible repeat (first | refine blk_drewN ?_ _ | refine blk_drew ?_ | refine blk_alloc ?_ _)); refine blk_far ?_ NB192_191.out _; (with_reducible repeat (first | refine blk_drewN ?_ _ | refine blk_drew ?_ | refine blk_alloc ?_ _)); exact BK192.out) hb); have n2_ := Aside0.mk (blk_below (g := gb193) (o := .cells #[.int .i64 0, .int .i64 0, .int .i64 0, .int .i64 0, .int .i64 0, .int .i64 0, .int .i64 0, .int .i64 0, .int .i64 0, .int .u64 0, .int .u64 0, .int .u64 0, .int .u64 0] 25 (0, 0)) (by (with_reducible repeat (first | refine blk_drewN ?_ _ | refine blk_drew ?_ | refine blk_alloc ?_ _)); refine blk_far ?_ NB193_191.out _; (with_reducible repeat (first | refine blk_drewN ?_ _ | refine blk_drew ?_ | refine blk_alloc ?_ _)); exact BK193.out) hb); have n3_ := Aside0.mk (below_step (by repeat (first | (with_reducible first | exact HB.out | apply below_alloc | apply pw_below_drewN | apply below_drew1 | refine below_set ?_ GE191.out | refine below_set ?_ GE192.out | refine below_set ?_ GE193.out) | exact HB.out)) hb); clear BK191; clear BK192; clear BK193; clear HB; have BK191 := n0_; have BK192 := n1_; have BK193 := n2_; have HB := n3_; clear n0_ n1_ n2_ n3_; (try clear hb); (try clear hb2); (try clear hk); (try clear hi); have hnb62 := NB193_192.out; have hnc62 := NB192_193.out; have hcz63_0 : w61.cell? ⟨gb193, 0, none⟩ = some (.int .i64 0) := (blk_cell BK193.out 0).trans rfl; have hcz63_1 : w61.cell? ⟨gb193, 1, none⟩ = some (.int .i64 0) := (blk_cell BK193.out 1).trans rfl; have hcz63_2 : w61.cell? ⟨gb193, 2, none⟩ = some (.int .i64 0) := (blk_cell BK193.out 2).trans rfl; have hcz63_3 : w61.cell? ⟨gb193, 3, none⟩ = some (.int .i64 0) := (blk_cell BK193.out 3).trans rfl; have hcz63_4 : w61.cell? ⟨gb193, 4, none⟩ = some (.int .i64 0) := (blk_cell BK193.out 4).trans rfl; have hcz63_5 : w61.cell? ⟨gb193, 5, none⟩ = some (.int .i64 0) := (blk_cell BK193.out 5).trans rfl; have hcz63_6 : w61.cell? ⟨gb193, 6, none⟩ = some (.int .i64 0) := (blk_cell BK193.out 6).trans rfl; have hcz63_7 : w61.cell? ⟨gb193, 7, none⟩ = some (.int .i64 0) := (blk_cell BK193.out 7).trans rfl; have hcz63_8 : w61.cell? ⟨gb193, 8, none⟩ = some (.int .i64 0) := (blk_cell BK193.out 8).trans rfl; have hcz63_9 : w61.cell? ⟨gb193, 9, none⟩ = some (.int .u64 0) := (blk_cell BK193.out 9).trans rfl; have hcz63_10 : w61.cell? ⟨gb193, 10, none⟩ = some (.int .u64 0) := (blk_cell BK193.out 10).trans rfl; have hcz63_11 : w61.cell? ⟨gb193, 11, none⟩ = some (.int .u64 0) := (blk_cell BK193.out 11).trans rfl; have hcz63_12 : w61.cell? ⟨gb193, 12, none⟩ = some (.int .u64 0) := (blk_cell BK193.out 12).trans rfl; have hfz63_0 := blk_frozen BK193.out 0; have hfz63_1 := blk_frozen BK193.out 1; have hfz63_2 := blk_frozen BK193.out 2; have hfz63_3 := blk_frozen BK193.out 3; have hfz63_4 := blk_frozen BK193.out 4; have hfz63_5 := blk_frozen BK193.out 5; have hfz63_6 := blk_frozen BK193.out 6; have hfz63_7 := blk_frozen BK193.out 7; have hfz63_8 := blk_frozen BK193.out 8; have hfz63_9 := blk_frozen BK193.out 9; have hfz63_10 := blk_frozen BK193.out 10; have hfz63_11 := blk_frozen BK193.out 11; have hfz63_12 := blk_frozen BK193.out 12))
  refine bodyPost_ret (results_ct rfl _ _ gb193 25 #[.int .i64 0, .int .i64 0, .int .i64 0, .int .i64 0, .int .i64 0, .int .i64 0, .int .i64 0, .int .i64 0, .int .i64 0, .int .u64 0, .int .u64 0, .int .u64 0, .int .u64 0] (0, 0) _ rfl (by (with_reducible repeat (first | refine blk_drewN ?_ _ | refine blk_drew ?_ | refine blk_alloc ?_ _)); refine blk_put (cs := #[.int .i64 0, .int .i64 0, .int .i64 0, .int .i64 0, .int .i64 0, .int .i64 0, .int .i64 0, .int .i64 0, .int .i64 0, .int .u64 0, .int .u64 0, .int .u64 0, .int .u64 0]) ?_ 12 _ rfl; (with_reducible repeat (first | refine blk_drewN ?_ _ | refine blk_drew ?_ | refine blk_alloc ?_ _)); refine blk_put (cs := #[.int .i64 0, .int .i64 0, .int .i64 0, .int .i64 0, .int .i64 0, .int .i64 0, .int .i64 0, .int .i64 0, .int .i64 0, .int .u64 0, .int .u64 0, .int .u64 0, .int .u64 0]) ?_ 11 _ rfl; (with_reducible repeat (first | refine blk_drewN ?_ _ | refine blk_drew ?_ | refine blk_alloc ?_ _)); refine blk_put (cs := #[.int .i64 0, .int .i64 0, .int .i64 0, .int .i64 0, .int .i64 0, .int .i64 0, .int .i64 0, .int .i64 0, .int .i64 0, .int .u64 0, .int .u64 0, .int .u64 0, .int .u64 0]) ?_ 10 _ rfl; (with_reducible repeat (first | refine blk_drewN ?_ _ | refine blk_drew ?_ | refine blk_alloc ?_ _)); refine blk_put (cs := #[.int .i64 0, .int .i64 0, .int .i64 0, .int .i64 0, .int .i64 0, .int .i64 0, .int .i64 0, .int .i64 0, .int .i64 0, .int .u64 0, .int .u64 0, .int .u64 0, .int .u64 0]) ?_ 9 _ rfl; (with_reducible repeat (first | refine blk_drewN ?_ _ | refine blk_drew ?_ | refine blk_alloc ?_ _)); refine blk_put (cs := #[.int .i64 0, .int .i64 0, .int .i64 0, .int .i64 0, .int .i64 0, .int .i64 0, .int .i64 0, .int .i64 0, .int .i64 0, .int .u64 0, .int .u64 0, .int .u64 0, .int .u64 0]) ?_ 8 _ rfl; (with_reducible repeat (first | refine blk_drewN ?_ _ | refine blk_drew ?_ | refine blk_alloc ?_ _)); refine blk_put (cs := #[.int .i64 0, .int .i64 0, .int .i64 0, .int .i64 0, .int .i64 0, .int .i64 0, .int .i64 0, .int .i64 0, .int .i64 0, .int .u64 0, .int .u64 0, .int .u64 0, .int .u64 0]) ?_ 7 _ rfl; (with_reducible repeat (first | refine blk_drewN ?_ _ | refine blk_drew ?_ | refine blk_alloc ?_ _)); refine blk_put (cs := #[.int .i64 0, .int .i64 0, .int .i64 0, .int .i64 0, .int .i64 0, .int .i64 0, .int .i64 0, .int .i64 0, .int .i64 0, .int .u64 0, .int .u64 0, .int .u64 0, .int .u64 0]) ?_ 6 _ rfl; (with_reducible repeat (first | refine blk_drewN ?_ _ | refine blk_drew ?_ | refine blk_alloc ?_ _)); refine blk_put (cs := #[.int .i64 0, .int .i64 0, .int .i64 0, .int .i64 0, .int .i64 0, .int .i64 0, .int .i64 0, .int .i64 0, .int .i64 0, .int .u64 0, .int .u64 0, .int .u64 0, .int .u64 0]) ?_ 5 _ rfl; (with_reducible repeat (first | refine blk_drewN ?_ _ | refine blk_drew ?_ | refine blk_alloc ?_ _)); refine blk_put (cs := #[.int .i64 0, .int .i64 0, .int .i64 0, .int .i64 0, .int .i64 0, .int .i64 0, .int .i64 0, .int .i64 0, .int .i64 0, .int .u64 0, .int .u64 0, .int .u64 0, .int .u64 0]) ?_ 4 _ rfl; (with_reducible repeat (first | refine blk_drewN ?_ _ | refine blk_drew ?_ | refine blk_alloc ?_ _)); refine blk_put (cs := #[.int .i64 0, .int .i64 0, .int .i64 0, .int .i64 0, .int .i64 0, .int .i64 0, .int .i64 0, .int .i64 0, .int .i64 0, .int .u64 0, .int .u64 0, .int .u64 0, .int .u64 0]) ?_ 3 _ rfl; (with_reducible repeat (first | refine blk_drewN ?_ _ | refine blk_drew ?_ | refine blk_alloc ?_ _)); refine blk_put (cs := #[.int .i64 0, .int .i64 0, .int .i64 0, .int .i64 0, .int .i64 0, .int .i64 0, .int .i64 0, .int .i64 0, .int .i64 0, .int .u64 0, .int .u64 0, .int .u64 0, .int .u64 0]) ?_ 2 _ rfl; (with_reducible repeat (first | refine blk_drewN ?_ _ | refine blk_drew ?_ | refine blk_alloc ?_ _)); refine blk_put (cs := #[.int .i64 0, .int .i64 0, .int .i64 0, .int .i64 0, .int .i64 0, .int .i64 0, .int .i64 0, .int .i64 0, .int .i64 0, .int .u64 0, .int .u64 0, .int .u64 0, .int .u64 0]) ?_ 1 _ rfl; (with_reducible repeat (first | refine blk_drewN ?_ _ | refine blk_drew ?_ | refine blk_alloc ?_ _)); refine blk_put (cs := #[.int .i64 0, .int .i64 0, .int .i64 0, .int .i64 0, .int .i64 0, .int .i64 0, .int .i64 0, .int .i64 0, .int .i64 0, .int .u64 0, .int .u64 0, .int .u64 0, .int .u64 0]) ?_ 0 _ rfl; (with_reducible repeat (first | refine blk_drewN ?_ _ | refine blk_drew ?_ | refine blk_alloc ?_ _)); exact BK193.out) Try.underlying25 rfl (by kernel_rfl)) rfl ?_
  exact ⟨by first | rfl | (simp [errW_none, errW_some] <;> rfl) | (simp [*, errW_none, errW_some] <;> rfl), by repeat (first | (with_reducible first | exact HB.out | apply below_alloc | apply pw_below_drewN | apply below_drew1 | refine below_set ?_ GE191.out | refine below_set ?_ GE192.out | refine below_set ?_ GE193.out) | exact HB.out)⟩

-- BY HAND: function 20 (record_Sign)

end Go.Proofs.Ytenkffjlpdappaa.Pr
