-- Printed by hprint.py (a program of this claim's session over the kit's printer).
import Derived.Test.YtenkffjlpdappaaPrx0
import Derived.Test.YtenkffjlpdappaaPrx4
import Derived.Test.YtenkffjlpdappaaHChange41
import Derived.Test.YtenkffjlpdappaaHRecord
import Derived.Test.YtenkffjlpdappaaHRecordK
namespace Go.Proofs.Ytenkffjlpdappaa.Pr
open Go.RowKit Go.Proofs.YtenkffjlpdappaaW.PrintWords Go.Proofs.YtenkffjlpdappaaW.PrintLast
set_option linter.unusedVariables false
set_option linter.unusedSimpArgs false

/-! ### chargeparklaw41_RecordChanged: function 5 -/
def chargeparklaw41_RecordChanged.l0 : Nat → Bool → Int → Int → Int → Int → Int → Int → Int → Int → Int → Int → Int → Int → Int → Int → Int → Int → Int → Int → Int → Int → Int → Int → Int → Int → Int → Int → Int → Int → Int → Int → Int → Option (Bool)
 | 0, _, _, _, _, _, _, _, _, _, _, _, _, _, _, _, _, _, _, _, _, _, _, _, _, _, _, _, _, _, _, _, _ => none
 | k + 1, x11, x30, x271000, x271001, x271002, x271003, x271004, x271005, x271006, x271007, x271008, x271009, x271010, x271011, x271012, x272000, x272001, x272002, x272003, x287000, x287001, x287002, x287003, x287004, x287005, x287006, x287007, x287008, x287009, x287010, x287011, x287012 => if x30 < 4 then (if x30 = 0 then ((record_Sign.f x271000 x271001 x271002 x271003 x271004 x271005 x271006 x271007 x271008 x271009 x271010 x271011 x271012 x272000).bind fun t289 => ((record_Sign.f x287000 x287001 x287002 x287003 x287004 x287005 x287006 x287007 x287008 x287009 x287010 x287011 x287012 x272000).bind fun t290 => (if t289 = t290 then (some false) else (chargeparklaw41_RecordChanged.l0 k x11 (wrap64 (x30 + 1)) x271000 x271001 x271002 x271003 x271004 x271005 x271006 x271007 x271008 x271009 x271010 x271011 x271012 x272000 x272001 x272002 x272003 x287000 x287001 x287002 x287003 x287004 x287005 x287006 x287007 x287008 x287009 x287010 x287011 x287012)))) else (if x30 = 1 then ((record_Sign.f x271000 x271001 x271002 x271003 x271004 x271005 x271006 x271007 x271008 x271009 x271010 x271011 x271012 x272001).bind fun t291 => ((record_Sign.f x287000 x287001 x287002 x287003 x287004 x287005 x287006 x287007 x287008 x287009 x287010 x287011 x287012 x272001).bind fun t292 => (if t291 = t292 then (some false) else (chargeparklaw41_RecordChanged.l0 k x11 (wrap64 (x30 + 1)) x271000 x271001 x271002 x271003 x271004 x271005 x271006 x271007 x271008 x271009 x271010 x271011 x271012 x272000 x272001 x272002 x272003 x287000 x287001 x287002 x287003 x287004 x287005 x287006 x287007 x287008 x287009 x287010 x287011 x287012)))) else (if x30 = 2 then ((record_Sign.f x271000 x271001 x271002 x271003 x271004 x271005 x271006 x271007 x271008 x271009 x271010 x271011 x271012 x272002).bind fun t293 => ((record_Sign.f x287000 x287001 x287002 x287003 x287004 x287005 x287006 x287007 x287008 x287009 x287010 x287011 x287012 x272002).bind fun t294 => (if t293 = t294 then (some false) else (chargeparklaw41_RecordChanged.l0 k x11 (wrap64 (x30 + 1)) x271000 x271001 x271002 x271003 x271004 x271005 x271006 x271007 x271008 x271009 x271010 x271011 x271012 x272000 x272001 x272002 x272003 x287000 x287001 x287002 x287003 x287004 x287005 x287006 x287007 x287008 x287009 x287010 x287011 x287012)))) else (if x30 = 3 then ((record_Sign.f x271000 x271001 x271002 x271003 x271004 x271005 x271006 x271007 x271008 x271009 x271010 x271011 x271012 x272003).bind fun t295 => ((record_Sign.f x287000 x287001 x287002 x287003 x287004 x287005 x287006 x287007 x287008 x287009 x287010 x287011 x287012 x272003).bind fun t296 => (if t295 = t296 then (some false) else (chargeparklaw41_RecordChanged.l0 k x11 (wrap64 (x30 + 1)) x271000 x271001 x271002 x271003 x271004 x271005 x271006 x271007 x271008 x271009 x271010 x271011 x271012 x272000 x272001 x272002 x272003 x287000 x287001 x287002 x287003 x287004 x287005 x287006 x287007 x287008 x287009 x287010 x287011 x287012)))) else (none))))) else (if x11 = true then ((record_Check.f x271000 x271001 x271002 x271003 x271004 x271005 x271006 x271007 x271008 x271009 x271010 x271011 x271012 x272000 x272001 x272002 x272003).bind fun t287 => (if t287 = (-1) then ((record_Check.f x287000 x287001 x287002 x287003 x287004 x287005 x287006 x287007 x287008 x287009 x287010 x287011 x287012 x272000 x272001 x272002 x272003).bind fun t288 => (some (t288 == 0))) else (some true))) else (some false))
def chargeparklaw41_RecordChanged.f (k : Nat) (a0_0 : Int) (a0_1 : Int) (a0_2 : Int) (a0_3 : Int) (a0_4 : Int) (a0_5 : Int) (a0_6 : Int) (a0_7 : Int) (a0_8 : Int) (a0_9 : Int) (a0_10 : Int) (a0_11 : Int) (a0_12 : Int) (a1_0 : Int) (a1_1 : Int) (a1_2 : Int) (a1_3 : Int) (a2 : Int) (a3 : Int) (a4 : Int) : Option (Bool) := (chargeparklaw41_head.f).bind fun t272 => (if a4 = 0 then (some t272) else ((chargeparklaw41_changed.f a0_0 a0_1 a0_2 a0_3 a0_4 a0_5 a0_6 a0_7 a0_8 a0_9 a0_10 a0_11 a0_12 a2 (wrap64 (shl .u64 (IntKind.u64.wrap (a4)) ((8 * (Int.tmod a3 8)) % 256)))).bind fun bt273 => (chargeparklaw41_RecordChanged.l0 k t272 0 a0_0 a0_1 a0_2 a0_3 a0_4 a0_5 a0_6 a0_7 a0_8 a0_9 a0_10 a0_11 a0_12 a1_0 a1_1 a1_2 a1_3 bt273.1 bt273.2.1 bt273.2.2.1 bt273.2.2.2.1 bt273.2.2.2.2.1 bt273.2.2.2.2.2.1 bt273.2.2.2.2.2.2.1 bt273.2.2.2.2.2.2.2.1 bt273.2.2.2.2.2.2.2.2.1 bt273.2.2.2.2.2.2.2.2.2.1 bt273.2.2.2.2.2.2.2.2.2.2.1 bt273.2.2.2.2.2.2.2.2.2.2.2.1 bt273.2.2.2.2.2.2.2.2.2.2.2.2)))
theorem chargeparklaw41_RecordChanged.mono_l : ∀ k, (∀ y0 y1 y2 y3 y4 y5 y6 y7 y8 y9 y10 y11 y12 y13 y14 y15 y16 y17 y18 y19 y20 y21 y22 y23 y24 y25 y26 y27 y28 y29 y30 y31, LeO (chargeparklaw41_RecordChanged.l0 k y0 y1 y2 y3 y4 y5 y6 y7 y8 y9 y10 y11 y12 y13 y14 y15 y16 y17 y18 y19 y20 y21 y22 y23 y24 y25 y26 y27 y28 y29 y30 y31) (chargeparklaw41_RecordChanged.l0 (k + 1) y0 y1 y2 y3 y4 y5 y6 y7 y8 y9 y10 y11 y12 y13 y14 y15 y16 y17 y18 y19 y20 y21 y22 y23 y24 y25 y26 y27 y28 y29 y30 y31))
 | 0 => fun _ _ _ _ _ _ _ _ _ _ _ _ _ _ _ _ _ _ _ _ _ _ _ _ _ _ _ _ _ _ _ _ r h => by simp [chargeparklaw41_RecordChanged.l0] at h
 | k + 1 => by
  have ih0 := chargeparklaw41_RecordChanged.mono_l k
  ·intro y0 y1 y2 y3 y4 y5 y6 y7 y8 y9 y10 y11 y12 y13 y14 y15 y16 y17 y18 y19 y20 y21 y22 y23 y24 y25 y26 y27 y28 y29 y30 y31
   unfold chargeparklaw41_RecordChanged.l0
   repeat' first
   | (with_reducible exact ih0 _ _ _ _ _ _ _ _ _ _ _ _ _ _ _ _ _ _ _ _ _ _ _ _ _ _ _ _ _ _ _ _)
   | (with_reducible exact LeO.refl _)
   | (with_reducible exact LeO.none _)
   | (with_reducible refine LeO.ite ?_ ?_)
   | (with_reducible refine LeO.bind ?_ (fun _ => ?_))
   | exact ih0 _ _ _ _ _ _ _ _ _ _ _ _ _ _ _ _ _ _ _ _ _ _ _ _ _ _ _ _ _ _ _ _
   | exact LeO.none _
   | refine LeO.ite ?_ ?_
   | refine LeO.bind ?_ (fun _ => ?_)
theorem chargeparklaw41_RecordChanged.mono : ∀ a0 a1 a2 a3 a4 a5 a6 a7 a8 a9 a10 a11 a12 a13 a14 a15 a16 a17 a18 a19 k, LeO (chargeparklaw41_RecordChanged.f k a0 a1 a2 a3 a4 a5 a6 a7 a8 a9 a10 a11 a12 a13 a14 a15 a16 a17 a18 a19) (chargeparklaw41_RecordChanged.f (k + 1) a0 a1 a2 a3 a4 a5 a6 a7 a8 a9 a10 a11 a12 a13 a14 a15 a16 a17 a18 a19) := by
 intro a0 a1 a2 a3 a4 a5 a6 a7 a8 a9 a10 a11 a12 a13 a14 a15 a16 a17 a18 a19 k
 have ih0 := chargeparklaw41_RecordChanged.mono_l k
 unfold chargeparklaw41_RecordChanged.f
 repeat' first
   | (with_reducible exact ih0 _ _ _ _ _ _ _ _ _ _ _ _ _ _ _ _ _ _ _ _ _ _ _ _ _ _ _ _ _ _ _ _)
   | (with_reducible exact LeO.refl _)
   | (with_reducible exact LeO.none _)
   | (with_reducible refine LeO.ite ?_ ?_)
   | (with_reducible refine LeO.bind ?_ (fun _ => ?_))
   | exact ih0 _ _ _ _ _ _ _ _ _ _ _ _ _ _ _ _ _ _ _ _ _ _ _ _ _ _ _ _ _ _ _ _
   | exact LeO.none _
   | refine LeO.ite ?_ ?_
   | refine LeO.bind ?_ (fun _ => ?_)
set_option maxHeartbeats 8000000 in
set_option maxRecDepth 100000 in
theorem chargeparklaw41_RecordChanged.calls (k : Nat) (a0_0 : Int) (a0_1 : Int) (a0_2 : Int) (a0_3 : Int) (a0_4 : Int) (a0_5 : Int) (a0_6 : Int) (a0_7 : Int) (a0_8 : Int) (a0_9 : Int) (a0_10 : Int) (a0_11 : Int) (a0_12 : Int) (a1_0 : Int) (a1_1 : Int) (a1_2 : Int) (a1_3 : Int) (a2 : Int) (a3 : Int) (a4 : Int) (r : Bool) (w : World) (hT_ : Aside0 (r = true)) (h : chargeparklaw41_RecordChanged.f k a0_0 a0_1 a0_2 a0_3 a0_4 a0_5 a0_6 a0_7 a0_8 a0_9 a0_10 a0_11 a0_12 a1_0 a1_1 a1_2 a1_3 a2 a3 a4 = some r) :
  Calls Try.prog 5 #[.agg #[.int .i64 a0_0, .int .i64 a0_1, .int .i64 a0_2, .int .i64 a0_3, .int .i64 a0_4, .int .i64 a0_5, .int .i64 a0_6, .int .i64 a0_7, .int .i64 a0_8, .int .u64 a0_9, .int .u64 a0_10, .int .u64 a0_11, .int .u64 a0_12], .agg #[.int .u64 a1_0, .int .u64 a1_1, .int .u64 a1_2, .int .u64 a1_3], .int .u8 a2, .int .u8 a3, .int .u8 a4] w fun e w' => e = .returned (.bool r) ∧ Below w.heap.size w w' := by
 have hu25 := Try.underlying25
 have hu23 := Try.underlying23
 have HB := Aside0.mk (Below.refl w.heap.size w)
 have H : ((chargeparklaw41_head.f).bind fun t272 => (if a4 = 0 then (some t272) else ((chargeparklaw41_changed.f a0_0 a0_1 a0_2 a0_3 a0_4 a0_5 a0_6 a0_7 a0_8 a0_9 a0_10 a0_11 a0_12 a2 (wrap64 (shl .u64 (IntKind.u64.wrap (a4)) ((8 * (Int.tmod a3 8)) % 256)))).bind fun bt273 => (chargeparklaw41_RecordChanged.l0 k t272 0 a0_0 a0_1 a0_2 a0_3 a0_4 a0_5 a0_6 a0_7 a0_8 a0_9 a0_10 a0_11 a0_12 a1_0 a1_1 a1_2 a1_3 bt273.1 bt273.2.1 bt273.2.2.1 bt273.2.2.2.1 bt273.2.2.2.2.1 bt273.2.2.2.2.2.1 bt273.2.2.2.2.2.2.1 bt273.2.2.2.2.2.2.2.1 bt273.2.2.2.2.2.2.2.2.1 bt273.2.2.2.2.2.2.2.2.2.1 bt273.2.2.2.2.2.2.2.2.2.2.1 bt273.2.2.2.2.2.2.2.2.2.2.2.1 bt273.2.2.2.2.2.2.2.2.2.2.2.2)))) = some r := h
 clear h
 replace H := Option.bind_eq_some_iff.mp H
 obtain ⟨t272, A60, H⟩ := H
 replace H : (if a4 = 0 then (some t272) else ((chargeparklaw41_changed.f a0_0 a0_1 a0_2 a0_3 a0_4 a0_5 a0_6 a0_7 a0_8 a0_9 a0_10 a0_11 a0_12 a2 (wrap64 (shl .u64 (IntKind.u64.wrap (a4)) ((8 * (Int.tmod a3 8)) % 256)))).bind fun bt273 => (chargeparklaw41_RecordChanged.l0 k t272 0 a0_0 a0_1 a0_2 a0_3 a0_4 a0_5 a0_6 a0_7 a0_8 a0_9 a0_10 a0_11 a0_12 a1_0 a1_1 a1_2 a1_3 bt273.1 bt273.2.1 bt273.2.2.1 bt273.2.2.2.1 bt273.2.2.2.2.1 bt273.2.2.2.2.2.1 bt273.2.2.2.2.2.2.1 bt273.2.2.2.2.2.2.2.1 bt273.2.2.2.2.2.2.2.2.1 bt273.2.2.2.2.2.2.2.2.2.1 bt273.2.2.2.2.2.2.2.2.2.2.1 bt273.2.2.2.2.2.2.2.2.2.2.2.1 bt273.2.2.2.2.2.2.2.2.2.2.2.2))) = some r := H
 have A6 := Aside0.mk A60
 clear A60
 by_cases c7 : a4 = 0
 ·rw [if_pos c7] at H
  have c7b0 : (a4 == 0) = true := beq_iff_eq.mpr c7
  have c7b1 : (a4 != 0) = false := bne_eq_false_iff_eq.mpr c7
  clear c7
  obtain rfl := Option.some.inj H
  go_enter Try.func5, Try.ntmps5
  go_wp2_with (first | ((with_reducible refine gate_dst (N := 5) rfl ?_); refine box_event ?hg (N := 5) ?hd (cs := #[.int .i64 a0_0, .int .i64 a0_1, .int .i64 a0_2, .int .i64 a0_3, .int .i64 a0_4, .int .i64 a0_5, .int .i64 a0_6, .int .i64 a0_7, .int .i64 a0_8, .int .u64 a0_9, .int .u64 a0_10, .int .u64 a0_11, .int .u64 a0_12]) (t := 25) ?hr ?_; (case hd => rfl); (case hg => rfl); (case hr => first | (go_simp; done) | (go_simp; rfl)); intro gb270 hg w8 hbox hb; have n0_ := Aside0.mk (below_step (by repeat (first | (with_reducible first | exact HB.out | apply below_alloc | apply pw_below_drewN | apply below_drew1) | exact HB.out)) hb); have n1_ := Aside0.mk (hbox); have n2_ := Aside0.mk ((by rw [hg]; exact (below_size (by repeat (first | (with_reducible first | exact HB.out | apply below_alloc | apply pw_below_drewN | apply below_drew1) | exact HB.out))) : w.heap.size ≤ gb270)); have n3_ := Aside0.mk ((by rw [hg]; exact (below_size (by repeat (first | (with_reducible first | exact HB.out | apply below_alloc | apply pw_below_drewN | apply below_drew1) | exact HB.out))) : w.heap.size ≤ gb270)); clear HB; have HB := n0_; have BK270 := n1_; have GW270 := n2_; have GE270 := n3_; clear n0_ n1_ n2_ n3_; clear hb hbox hg) | ((with_reducible refine gate_dst (N := 6) rfl ?_); refine box_event ?hg (N := 6) ?hd (cs := #[.int .u64 a1_0, .int .u64 a1_1, .int .u64 a1_2, .int .u64 a1_3]) (t := 23) ?hr ?_; (case hd => rfl); (case hg => rfl); (case hr => first | (go_simp; done) | (go_simp; rfl)); intro gb271 hg w9 hbox hb; have n0_ := Aside0.mk (blk_below (g := gb270) (o := .cells #[.int .i64 a0_0, .int .i64 a0_1, .int .i64 a0_2, .int .i64 a0_3, .int .i64 a0_4, .int .i64 a0_5, .int .i64 a0_6, .int .i64 a0_7, .int .i64 a0_8, .int .u64 a0_9, .int .u64 a0_10, .int .u64 a0_11, .int .u64 a0_12] 25 (0, 0)) (by (with_reducible repeat (first | refine blk_drewN ?_ _ | refine blk_drew ?_ | refine blk_alloc ?_ _)); exact BK270.out) hb); have n1_ := Aside0.mk (below_step (by repeat (first | (with_reducible first | exact HB.out | apply below_alloc | apply pw_below_drewN | apply below_drew1 | refine below_set ?_ GE270.out) | exact HB.out)) hb); have n2_ := Aside0.mk (hbox); have n3_ := Aside0.mk ((by rw [hg]; exact (below_size (by repeat (first | (with_reducible first | exact HB.out | apply below_alloc | apply pw_below_drewN | apply below_drew1 | refine below_set ?_ GE270.out) | exact HB.out))) : w.heap.size ≤ gb271)); have n4_ := Aside0.mk ((by rw [hg]; exact (below_size (by repeat (first | (with_reducible first | exact HB.out | apply below_alloc | apply pw_below_drewN | apply below_drew1 | refine below_set ?_ GE270.out) | exact HB.out))) : w.heap.size ≤ gb271)); have n5_ := Aside0.mk ((by rw [hg]; exact Nat.ne_of_lt (blk_lt (g := gb270) (o := .cells #[.int .i64 a0_0, .int .i64 a0_1, .int .i64 a0_2, .int .i64 a0_3, .int .i64 a0_4, .int .i64 a0_5, .int .i64 a0_6, .int .i64 a0_7, .int .i64 a0_8, .int .u64 a0_9, .int .u64 a0_10, .int .u64 a0_11, .int .u64 a0_12] 25 (0, 0)) (by (with_reducible repeat (first | refine blk_drewN ?_ _ | refine blk_drew ?_ | refine blk_alloc ?_ _)); exact BK270.out)) : gb270 ≠ gb271)); have n6_ := Aside0.mk ((by rw [hg]; exact Nat.ne_of_gt (blk_lt (g := gb270) (o := .cells #[.int .i64 a0_0, .int .i64 a0_1, .int .i64 a0_2, .int .i64 a0_3, .int .i64 a0_4, .int .i64 a0_5, .int .i64 a0_6, .int .i64 a0_7, .int .i64 a0_8, .int .u64 a0_9, .int .u64 a0_10, .int .u64 a0_11, .int .u64 a0_12] 25 (0, 0)) (by (with_reducible repeat (first | refine blk_drewN ?_ _ | refine blk_drew ?_ | refine blk_alloc ?_ _)); exact BK270.out)) : gb271 ≠ gb270)); clear BK270; clear HB; have BK270 := n0_; have HB := n1_; have BK271 := n2_; have GW271 := n3_; have GE271 := n4_; have NB270_271 := n5_; have NB271_270 := n6_; clear n0_ n1_ n2_ n3_ n4_ n5_ n6_; clear hb hbox hg) | ((with_reducible refine gate_callee (f := 17) rfl ?_); refine goesL_ (some 15) rfl rfl Try.func17 (by kernel_rfl) rfl #[] rfl (by (try simp only [List.map_toArray, List.map_cons, List.map_nil]); first | done | rfl | (simp only [List.length_drop, List.length_take]; rfl)) ?_; (with_reducible refine (chargeparklaw41_head.calls  t272 _ A6.out).mono ?_); rintro e w10 ⟨rfl, hb⟩; refine ⟨_, rfl, ?_⟩; have n0_ := Aside0.mk (blk_below (g := gb270) (o := .cells #[.int .i64 a0_0, .int .i64 a0_1, .int .i64 a0_2, .int .i64 a0_3, .int .i64 a0_4, .int .i64 a0_5, .int .i64 a0_6, .int .i64 a0_7, .int .i64 a0_8, .int .u64 a0_9, .int .u64 a0_10, .int .u64 a0_11, .int .u64 a0_12] 25 (0, 0)) (by (with_reducible repeat (first | refine blk_drewN ?_ _ | refine blk_drew ?_ | refine blk_alloc ?_ _)); exact BK270.out) hb); have n1_ := Aside0.mk (blk_below (g := gb271) (o := .cells #[.int .u64 a1_0, .int .u64 a1_1, .int .u64 a1_2, .int .u64 a1_3] 23 (0, 0)) (by (with_reducible repeat (first | refine blk_drewN ?_ _ | refine blk_drew ?_ | refine blk_alloc ?_ _)); exact BK271.out) hb); have n2_ := Aside0.mk (below_step (by repeat (first | (with_reducible first | exact HB.out | apply below_alloc | apply pw_below_drewN | apply below_drew1 | refine below_set ?_ GE270.out | refine below_set ?_ GE271.out) | exact HB.out)) hb); clear BK270; clear BK271; clear HB; have BK270 := n0_; have BK271 := n1_; have HB := n2_; clear n0_ n1_ n2_; (try clear hb); (try clear hb2); (try clear hk); (try clear hi)))
  go_ret
  exact ⟨by first | rfl | (simp [errW_none, errW_some] <;> rfl) | (simp [*, errW_none, errW_some] <;> rfl), by repeat (first | (with_reducible first | exact HB.out | apply below_alloc | apply pw_below_drewN | apply below_drew1 | refine below_set ?_ GE270.out | refine below_set ?_ GE271.out) | exact HB.out)⟩
 ·rw [if_neg c7] at H
  have c7b0 : (a4 == 0) = false := beq_eq_false_iff_ne.mpr c7
  have c7b1 : (a4 != 0) = true := bne_iff_ne.mpr c7
  obtain ⟨ji11, hji11⟩ : ∃ j_ : Int, (shl .u64 (IntKind.u64.wrap (a4)) ((8 * (Int.tmod a3 8)) % 256)) = j_ := ⟨_, rfl⟩
  replace H : ((chargeparklaw41_changed.f a0_0 a0_1 a0_2 a0_3 a0_4 a0_5 a0_6 a0_7 a0_8 a0_9 a0_10 a0_11 a0_12 a2 (wrap64 (ji11))).bind fun bt273 => (chargeparklaw41_RecordChanged.l0 k t272 0 a0_0 a0_1 a0_2 a0_3 a0_4 a0_5 a0_6 a0_7 a0_8 a0_9 a0_10 a0_11 a0_12 a1_0 a1_1 a1_2 a1_3 bt273.1 bt273.2.1 bt273.2.2.1 bt273.2.2.2.1 bt273.2.2.2.2.1 bt273.2.2.2.2.2.1 bt273.2.2.2.2.2.2.1 bt273.2.2.2.2.2.2.2.1 bt273.2.2.2.2.2.2.2.2.1 bt273.2.2.2.2.2.2.2.2.2.1 bt273.2.2.2.2.2.2.2.2.2.2.1 bt273.2.2.2.2.2.2.2.2.2.2.2.1 bt273.2.2.2.2.2.2.2.2.2.2.2.2)) = some r := by first | (rw [hji11] at H; exact H) | (simp only [hji11] at H ⊢; exact H)
  (try rw [hji11] at A6)
  have hji11_ : (IntKind.u64.wrap ((IntKind.u64.wrap (a4)) * 2 ^ min ((8 * (Int.tmod a3 8)) % 256).toNat 64)) = ji11 := hji11
  have hji11z : ((8 * (Int.tmod a3 8)) % 256) ≤ 64 → (IntKind.u64.wrap ((IntKind.u64.wrap (a4)) * 2 ^ ((8 * (Int.tmod a3 8)) % 256).toNat)) = ji11 := shl_small hji11
  have hji11s0 : 0 ≤ (8 * (Int.tmod a3 8)) % 256 := Int.emod_nonneg _ (by decide)
  have hji11s1 : (8 * (Int.tmod a3 8)) % 256 < 256 := Int.emod_lt_of_pos _ (by decide)
  replace H := Option.bind_eq_some_iff.mp H
  obtain ⟨⟨t273, t274, t275, t276, t277, t278, t279, t280, t281, t282, t283, t284, t285⟩, A120, H⟩ := H
  replace H : (chargeparklaw41_RecordChanged.l0 k t272 0 a0_0 a0_1 a0_2 a0_3 a0_4 a0_5 a0_6 a0_7 a0_8 a0_9 a0_10 a0_11 a0_12 a1_0 a1_1 a1_2 a1_3 t273 t274 t275 t276 t277 t278 t279 t280 t281 t282 t283 t284 t285) = some r := H
  have A12 := Aside0.mk A120
  clear A120
  have hix0 : ∀ W, (Instr.index 23 (.agg #[.int .u64 a1_0, .int .u64 a1_1, .int .u64 a1_2, .int .u64 a1_3]) (.int .i64 0)).run Try.prog W = .ok (.int .u64 a1_0) W := fun _ => by kernel_rfl
  have hix1 : ∀ W, (Instr.index 23 (.agg #[.int .u64 a1_0, .int .u64 a1_1, .int .u64 a1_2, .int .u64 a1_3]) (.int .i64 1)).run Try.prog W = .ok (.int .u64 a1_1) W := fun _ => by kernel_rfl
  have hix2 : ∀ W, (Instr.index 23 (.agg #[.int .u64 a1_0, .int .u64 a1_1, .int .u64 a1_2, .int .u64 a1_3]) (.int .i64 2)).run Try.prog W = .ok (.int .u64 a1_2) W := fun _ => by kernel_rfl
  have hix3 : ∀ W, (Instr.index 23 (.agg #[.int .u64 a1_0, .int .u64 a1_1, .int .u64 a1_2, .int .u64 a1_3]) (.int .i64 3)).run Try.prog W = .ok (.int .u64 a1_3) W := fun _ => by kernel_rfl
  have H' := Aside0.mk H
  clear H
  go_enter Try.func5, Try.ntmps5
  go_wp2_with (first | ((with_reducible refine gate_dst (N := 5) rfl ?_); refine box_event ?hg (N := 5) ?hd (cs := #[.int .i64 a0_0, .int .i64 a0_1, .int .i64 a0_2, .int .i64 a0_3, .int .i64 a0_4, .int .i64 a0_5, .int .i64 a0_6, .int .i64 a0_7, .int .i64 a0_8, .int .u64 a0_9, .int .u64 a0_10, .int .u64 a0_11, .int .u64 a0_12]) (t := 25) ?hr ?_; (case hd => rfl); (case hg => rfl); (case hr => first | (go_simp; done) | (go_simp; rfl)); intro gb270 hg w13 hbox hb; have n0_ := Aside0.mk (below_step (by repeat (first | (with_reducible first | exact HB.out | apply below_alloc | apply pw_below_drewN | apply below_drew1) | exact HB.out)) hb); have n1_ := Aside0.mk (hbox); have n2_ := Aside0.mk ((by rw [hg]; exact (below_size (by repeat (first | (with_reducible first | exact HB.out | apply below_alloc | apply pw_below_drewN | apply below_drew1) | exact HB.out))) : w.heap.size ≤ gb270)); have n3_ := Aside0.mk ((by rw [hg]; exact (below_size (by repeat (first | (with_reducible first | exact HB.out | apply below_alloc | apply pw_below_drewN | apply below_drew1) | exact HB.out))) : w.heap.size ≤ gb270)); clear HB; have HB := n0_; have BK270 := n1_; have GW270 := n2_; have GE270 := n3_; clear n0_ n1_ n2_ n3_; clear hb hbox hg) | ((with_reducible refine gate_dst (N := 6) rfl ?_); refine box_event ?hg (N := 6) ?hd (cs := #[.int .u64 a1_0, .int .u64 a1_1, .int .u64 a1_2, .int .u64 a1_3]) (t := 23) ?hr ?_; (case hd => rfl); (case hg => rfl); (case hr => first | (go_simp; done) | (go_simp; rfl)); intro gb271 hg w14 hbox hb; have n0_ := Aside0.mk (blk_below (g := gb270) (o := .cells #[.int .i64 a0_0, .int .i64 a0_1, .int .i64 a0_2, .int .i64 a0_3, .int .i64 a0_4, .int .i64 a0_5, .int .i64 a0_6, .int .i64 a0_7, .int .i64 a0_8, .int .u64 a0_9, .int .u64 a0_10, .int .u64 a0_11, .int .u64 a0_12] 25 (0, 0)) (by (with_reducible repeat (first | refine blk_drewN ?_ _ | refine blk_drew ?_ | refine blk_alloc ?_ _)); exact BK270.out) hb); have n1_ := Aside0.mk (below_step (by repeat (first | (with_reducible first | exact HB.out | apply below_alloc | apply pw_below_drewN | apply below_drew1 | refine below_set ?_ GE270.out) | exact HB.out)) hb); have n2_ := Aside0.mk (hbox); have n3_ := Aside0.mk ((by rw [hg]; exact (below_size (by repeat (first | (with_reducible first | exact HB.out | apply below_alloc | apply pw_below_drewN | apply below_drew1 | refine below_set ?_ GE270.out) | exact HB.out))) : w.heap.size ≤ gb271)); have n4_ := Aside0.mk ((by rw [hg]; exact (below_size (by repeat (first | (with_reducible first | exact HB.out | apply below_alloc | apply pw_below_drewN | apply below_drew1 | refine below_set ?_ GE270.out) | exact HB.out))) : w.heap.size ≤ gb271)); have n5_ := Aside0.mk ((by rw [hg]; exact Nat.ne_of_lt (blk_lt (g := gb270) (o := .cells #[.int .i64 a0_0, .int .i64 a0_1, .int .i64 a0_2, .int .i64 a0_3, .int .i64 a0_4, .int .i64 a0_5, .int .i64 a0_6, .int .i64 a0_7, .int .i64 a0_8, .int .u64 a0_9, .int .u64 a0_10, .int .u64 a0_11, .int .u64 a0_12] 25 (0, 0)) (by (with_reducible repeat (first | refine blk_drewN ?_ _ | refine blk_drew ?_ | refine blk_alloc ?_ _)); exact BK270.out)) : gb270 ≠ gb271)); have n6_ := Aside0.mk ((by rw [hg]; exact Nat.ne_of_gt (blk_lt (g := gb270) (o := .cells #[.int .i64 a0_0, .int .i64 a0_1, .int .i64 a0_2, .int .i64 a0_3, .int .i64 a0_4, .int .i64 a0_5, .int .i64 a0_6, .int .i64 a0_7, .int .i64 a0_8, .int .u64 a0_9, .int .u64 a0_10, .int .u64 a0_11, .int .u64 a0_12] 25 (0, 0)) (by (with_reducible repeat (first | refine blk_drewN ?_ _ | refine blk_drew ?_ | refine blk_alloc ?_ _)); exact BK270.out)) : gb271 ≠ gb270)); clear BK270; clear HB; have BK270 := n0_; have HB := n1_; have BK271 := n2_; have GW271 := n3_; have GE271 := n4_; have NB270_271 := n5_; have NB271_270 := n6_; clear n0_ n1_ n2_ n3_ n4_ n5_ n6_; clear hb hbox hg) | ((with_reducible refine gate_callee (f := 17) rfl ?_); refine goesL_ (some 15) rfl rfl Try.func17 (by kernel_rfl) rfl #[] rfl (by (try simp only [List.map_toArray, List.map_cons, List.map_nil]); first | done | rfl | (simp only [List.length_drop, List.length_take]; rfl)) ?_; (with_reducible refine (chargeparklaw41_head.calls  t272 _ A6.out).mono ?_); rintro e w15 ⟨rfl, hb⟩; refine ⟨_, rfl, ?_⟩; have n0_ := Aside0.mk (blk_below (g := gb270) (o := .cells #[.int .i64 a0_0, .int .i64 a0_1, .int .i64 a0_2, .int .i64 a0_3, .int .i64 a0_4, .int .i64 a0_5, .int .i64 a0_6, .int .i64 a0_7, .int .i64 a0_8, .int .u64 a0_9, .int .u64 a0_10, .int .u64 a0_11, .int .u64 a0_12] 25 (0, 0)) (by (with_reducible repeat (first | refine blk_drewN ?_ _ | refine blk_drew ?_ | refine blk_alloc ?_ _)); exact BK270.out) hb); have n1_ := Aside0.mk (blk_below (g := gb271) (o := .cells #[.int .u64 a1_0, .int .u64 a1_1, .int .u64 a1_2, .int .u64 a1_3] 23 (0, 0)) (by (with_reducible repeat (first | refine blk_drewN ?_ _ | refine blk_drew ?_ | refine blk_alloc ?_ _)); exact BK271.out) hb); have n2_ := Aside0.mk (below_step (by repeat (first | (with_reducible first | exact HB.out | apply below_alloc | apply pw_below_drewN | apply below_drew1 | refine below_set ?_ GE270.out | refine below_set ?_ GE271.out) | exact HB.out)) hb); clear BK270; clear BK271; clear HB; have BK270 := n0_; have BK271 := n1_; have HB := n2_; clear n0_ n1_ n2_; (try clear hb); (try clear hb2); (try clear hk); (try clear hi); have hnb16 := NB270_271.out; have hnc16 := NB271_270.out; have hcz17_0 : w15.cell? ⟨gb270, 0, none⟩ = some (.int .i64 a0_0) := (blk_cell BK270.out 0).trans rfl; have hcz17_1 : w15.cell? ⟨gb270, 1, none⟩ = some (.int .i64 a0_1) := (blk_cell BK270.out 1).trans rfl; have hcz17_2 : w15.cell? ⟨gb270, 2, none⟩ = some (.int .i64 a0_2) := (blk_cell BK270.out 2).trans rfl; have hcz17_3 : w15.cell? ⟨gb270, 3, none⟩ = some (.int .i64 a0_3) := (blk_cell BK270.out 3).trans rfl; have hcz17_4 : w15.cell? ⟨gb270, 4, none⟩ = some (.int .i64 a0_4) := (blk_cell BK270.out 4).trans rfl; have hcz17_5 : w15.cell? ⟨gb270, 5, none⟩ = some (.int .i64 a0_5) := (blk_cell BK270.out 5).trans rfl; have hcz17_6 : w15.cell? ⟨gb270, 6, none⟩ = some (.int .i64 a0_6) := (blk_cell BK270.out 6).trans rfl; have hcz17_7 : w15.cell? ⟨gb270, 7, none⟩ = some (.int .i64 a0_7) := (blk_cell BK270.out 7).trans rfl; have hcz17_8 : w15.cell? ⟨gb270, 8, none⟩ = some (.int .i64 a0_8) := (blk_cell BK270.out 8).trans rfl; have hcz17_9 : w15.cell? ⟨gb270, 9, none⟩ = some (.int .u64 a0_9) := (blk_cell BK270.out 9).trans rfl; have hcz17_10 : w15.cell? ⟨gb270, 10, none⟩ = some (.int .u64 a0_10) := (blk_cell BK270.out 10).trans rfl; have hcz17_11 : w15.cell? ⟨gb270, 11, none⟩ = some (.int .u64 a0_11) := (blk_cell BK270.out 11).trans rfl; have hcz17_12 : w15.cell? ⟨gb270, 12, none⟩ = some (.int .u64 a0_12) := (blk_cell BK270.out 12).trans rfl; have hfz17_0 := blk_frozen BK270.out 0; have hfz17_1 := blk_frozen BK270.out 1; have hfz17_2 := blk_frozen BK270.out 2; have hfz17_3 := blk_frozen BK270.out 3; have hfz17_4 := blk_frozen BK270.out 4; have hfz17_5 := blk_frozen BK270.out 5; have hfz17_6 := blk_frozen BK270.out 6; have hfz17_7 := blk_frozen BK270.out 7; have hfz17_8 := blk_frozen BK270.out 8; have hfz17_9 := blk_frozen BK270.out 9; have hfz17_10 := blk_frozen BK270.out 10; have hfz17_11 := blk_frozen BK270.out 11; have hfz17_12 := blk_frozen BK270.out 12) | ((with_reducible refine gate_callee (f := 26) rfl ?_); refine goesL_ (some 28) rfl rfl Try.func26 (by kernel_rfl) rfl #[.agg #[.int .i64 a0_0, .int .i64 a0_1, .int .i64 a0_2, .int .i64 a0_3, .int .i64 a0_4, .int .i64 a0_5, .int .i64 a0_6, .int .i64 a0_7, .int .i64 a0_8, .int .u64 a0_9, .int .u64 a0_10, .int .u64 a0_11, .int .u64 a0_12], .int .u8 a2, .int .i64 (wrap64 (ji11))] rfl (by (try simp only [List.map_toArray, List.map_cons, List.map_nil]); first | done | (simp only [hji11]; rfl) | rfl | (simp only [List.length_drop, List.length_take]; rfl)) ?_; (with_reducible refine (chargeparklaw41_changed.calls a0_0 a0_1 a0_2 a0_3 a0_4 a0_5 a0_6 a0_7 a0_8 a0_9 a0_10 a0_11 a0_12 a2 (wrap64 (ji11)) t273 t274 t275 t276 t277 t278 t279 t280 t281 t282 t283 t284 t285 _ A12.out).mono ?_); rintro e w18 ⟨rfl, hb⟩; refine ⟨_, rfl, ?_⟩; have n0_ := Aside0.mk (blk_below (g := gb270) (o := .cells #[.int .i64 a0_0, .int .i64 a0_1, .int .i64 a0_2, .int .i64 a0_3, .int .i64 a0_4, .int .i64 a0_5, .int .i64 a0_6, .int .i64 a0_7, .int .i64 a0_8, .int .u64 a0_9, .int .u64 a0_10, .int .u64 a0_11, .int .u64 a0_12] 25 (0, 0)) (by (with_reducible repeat (first | refine blk_drewN ?_ _ | refine blk_drew ?_ | refine blk_alloc ?_ _)); exact BK270.out) hb); have n1_ := Aside0.mk (blk_below (g := gb271) (o := .cells #[.int .u64 a1_0, .int .u64 a1_1, .int .u64 a1_2, .int .u64 a1_3] 23 (0, 0)) (by (with_reducible repeat (first | refine blk_drewN ?_ _ | refine blk_drew ?_ | refine blk_alloc ?_ _)); exact BK271.out) hb); have n2_ := Aside0.mk (below_step (by repeat (first | (with_reducible first | exact HB.out | apply below_alloc | apply pw_below_drewN | apply below_drew1 | refine below_set ?_ GE270.out | refine below_set ?_ GE271.out) | exact HB.out)) hb); clear BK270; clear BK271; clear HB; have BK270 := n0_; have BK271 := n1_; have HB := n2_; clear n0_ n1_ n2_; (try clear hb); (try clear hb2); (try clear hk); (try clear hi)) | ((with_reducible refine gate_dst (N := 12) rfl ?_); refine box_event ?hg (N := 12) ?hd (cs := #[.int .i64 0, .int .i64 0, .int .i64 0, .int .i64 0, .int .i64 0, .int .i64 0, .int .i64 0, .int .i64 0, .int .i64 0, .int .u64 0, .int .u64 0, .int .u64 0, .int .u64 0]) (t := 25) ?hr ?_; (case hd => rfl); (case hg => rfl); (case hr => first | (go_simp; done) | (go_simp; rfl)); intro gb286 hg w19 hbox hb; have n0_ := Aside0.mk (blk_below (g := gb270) (o := .cells #[.int .i64 a0_0, .int .i64 a0_1, .int .i64 a0_2, .int .i64 a0_3, .int .i64 a0_4, .int .i64 a0_5, .int .i64 a0_6, .int .i64 a0_7, .int .i64 a0_8, .int .u64 a0_9, .int .u64 a0_10, .int .u64 a0_11, .int .u64 a0_12] 25 (0, 0)) (by (with_reducible repeat (first | refine blk_drewN ?_ _ | refine blk_drew ?_ | refine blk_alloc ?_ _)); exact BK270.out) hb); have n1_ := Aside0.mk (blk_below (g := gb271) (o := .cells #[.int .u64 a1_0, .int .u64 a1_1, .int .u64 a1_2, .int .u64 a1_3] 23 (0, 0)) (by (with_reducible repeat (first | refine blk_drewN ?_ _ | refine blk_drew ?_ | refine blk_alloc ?_ _)); exact BK271.out) hb); have n2_ := Aside0.mk (below_step (by repeat (first | (with_reducible first | exact HB.out | apply below_alloc | apply pw_below_drewN | apply below_drew1 | refine below_set ?_ GE270.out | refine below_set ?_ GE271.out) | exact HB.out)) hb); have n3_ := Aside0.mk (hbox); have n4_ := Aside0.mk ((by rw [hg]; exact (below_size (by repeat (first | (with_reducible first | exact HB.out | apply below_alloc | apply pw_below_drewN | apply below_drew1 | refine below_set ?_ GE270.out | refine below_set ?_ GE271.out) | exact HB.out))) : w.heap.size ≤ gb286)); have n5_ := Aside0.mk ((by rw [hg]; exact (below_size (by repeat (first | (with_reducible first | exact HB.out | apply below_alloc | apply pw_below_drewN | apply below_drew1 | refine below_set ?_ GE270.out | refine below_set ?_ GE271.out) | exact HB.out))) : w.heap.size ≤ gb286)); have n6_ := Aside0.mk ((by rw [hg]; exact Nat.ne_of_lt (blk_lt (g := gb270) (o := .cells #[.int .i64 a0_0, .int .i64 a0_1, .int .i64 a0_2, .int .i64 a0_3, .int .i64 a0_4, .int .i64 a0_5, .int .i64 a0_6, .int .i64 a0_7, .int .i64 a0_8, .int .u64 a0_9, .int .u64 a0_10, .int .u64 a0_11, .int .u64 a0_12] 25 (0, 0)) (by (with_reducible repeat (first | refine blk_drewN ?_ _ | refine blk_drew ?_ | refine blk_alloc ?_ _)); exact BK270.out)) : gb270 ≠ gb286)); have n7_ := Aside0.mk ((by rw [hg]; exact Nat.ne_of_gt (blk_lt (g := gb270) (o := .cells #[.int .i64 a0_0, .int .i64 a0_1, .int .i64 a0_2, .int .i64 a0_3, .int .i64 a0_4, .int .i64 a0_5, .int .i64 a0_6, .int .i64 a0_7, .int .i64 a0_8, .int .u64 a0_9, .int .u64 a0_10, .int .u64 a0_11, .int .u64 a0_12] 25 (0, 0)) (by (with_reducible repeat (first | refine blk_drewN ?_ _ | refine blk_drew ?_ | refine blk_alloc ?_ _)); exact BK270.out)) : gb286 ≠ gb270)); have n8_ := Aside0.mk ((by rw [hg]; exact Nat.ne_of_lt (blk_lt (g := gb271) (o := .cells #[.int .u64 a1_0, .int .u64 a1_1, .int .u64 a1_2, .int .u64 a1_3] 23 (0, 0)) (by (with_reducible repeat (first | refine blk_drewN ?_ _ | refine blk_drew ?_ | refine blk_alloc ?_ _)); exact BK271.out)) : gb271 ≠ gb286)); have n9_ := Aside0.mk ((by rw [hg]; exact Nat.ne_of_gt (blk_lt (g := gb271) (o := .cells #[.int .u64 a1_0, .int .u64 a1_1, .int .u64 a1_2, .int .u64 a1_3] 23 (0, 0)) (by (with_reducible repeat (first | refine blk_drewN ?_ _ | refine blk_drew ?_ | refine blk_alloc ?_ _)); exact BK271.out)) : gb286 ≠ gb271)); clear BK270; clear BK271; clear HB; have BK270 := n0_; have BK271 := n1_; have HB := n2_; have BK286 := n3_; have GW286 := n4_; have GE286 := n5_; have NB270_286 := n6_; have NB286_270 := n7_; have NB271_286 := n8_; have NB286_271 := n9_; clear n0_ n1_ n2_ n3_ n4_ n5_ n6_ n7_ n8_ n9_; clear hb hbox hg; have hnb20 := NB286_270.out; have hnc20 := NB270_286.out; have hnb21 := NB286_271.out; have hnc21 := NB271_286.out; have hcz22_0 : w19.cell? ⟨gb286, 0, none⟩ = some (.int .i64 0) := (blk_cell BK286.out 0).trans rfl; have hcz22_1 : w19.cell? ⟨gb286, 1, none⟩ = some (.int .i64 0) := (blk_cell BK286.out 1).trans rfl; have hcz22_2 : w19.cell? ⟨gb286, 2, none⟩ = some (.int .i64 0) := (blk_cell BK286.out 2).trans rfl; have hcz22_3 : w19.cell? ⟨gb286, 3, none⟩ = some (.int .i64 0) := (blk_cell BK286.out 3).trans rfl; have hcz22_4 : w19.cell? ⟨gb286, 4, none⟩ = some (.int .i64 0) := (blk_cell BK286.out 4).trans rfl; have hcz22_5 : w19.cell? ⟨gb286, 5, none⟩ = some (.int .i64 0) := (blk_cell BK286.out 5).trans rfl; have hcz22_6 : w19.cell? ⟨gb286, 6, none⟩ = some (.int .i64 0) := (blk_cell BK286.out 6).trans rfl; have hcz22_7 : w19.cell? ⟨gb286, 7, none⟩ = some (.int .i64 0) := (blk_cell BK286.out 7).trans rfl; have hcz22_8 : w19.cell? ⟨gb286, 8, none⟩ = some (.int .i64 0) := (blk_cell BK286.out 8).trans rfl; have hcz22_9 : w19.cell? ⟨gb286, 9, none⟩ = some (.int .u64 0) := (blk_cell BK286.out 9).trans rfl; have hcz22_10 : w19.cell? ⟨gb286, 10, none⟩ = some (.int .u64 0) := (blk_cell BK286.out 10).trans rfl; have hcz22_11 : w19.cell? ⟨gb286, 11, none⟩ = some (.int .u64 0) := (blk_cell BK286.out 11).trans rfl; have hcz22_12 : w19.cell? ⟨gb286, 12, none⟩ = some (.int .u64 0) := (blk_cell BK286.out 12).trans rfl; have hfz22_0 := blk_frozen BK286.out 0; have hfz22_1 := blk_frozen BK286.out 1; have hfz22_2 := blk_frozen BK286.out 2; have hfz22_3 := blk_frozen BK286.out 3; have hfz22_4 := blk_frozen BK286.out 4; have hfz22_5 := blk_frozen BK286.out 5; have hfz22_6 := blk_frozen BK286.out 6; have hfz22_7 := blk_frozen BK286.out 7; have hfz22_8 := blk_frozen BK286.out 8; have hfz22_9 := blk_frozen BK286.out 9; have hfz22_10 := blk_frozen BK286.out 10; have hfz22_11 := blk_frozen BK286.out 11; have hfz22_12 := blk_frozen BK286.out 12; have hcz23_0 : w19.cell? ⟨gb271, 0, none⟩ = some (.int .u64 a1_0) := (blk_cell BK271.out 0).trans rfl; have hcz23_1 : w19.cell? ⟨gb271, 1, none⟩ = some (.int .u64 a1_1) := (blk_cell BK271.out 1).trans rfl; have hcz23_2 : w19.cell? ⟨gb271, 2, none⟩ = some (.int .u64 a1_2) := (blk_cell BK271.out 2).trans rfl; have hcz23_3 : w19.cell? ⟨gb271, 3, none⟩ = some (.int .u64 a1_3) := (blk_cell BK271.out 3).trans rfl; have hfz23_0 := blk_frozen BK271.out 0; have hfz23_1 := blk_frozen BK271.out 1; have hfz23_2 := blk_frozen BK271.out 2; have hfz23_3 := blk_frozen BK271.out 3))
  go_loopg [30] k (fun kq v30 w' => ∃ (x30_1 : Int), v30 = .int .i64 x30_1 ∧ Aside0 (chargeparklaw41_RecordChanged.l0 kq t272 x30_1 a0_0 a0_1 a0_2 a0_3 a0_4 a0_5 a0_6 a0_7 a0_8 a0_9 a0_10 a0_11 a0_12 a1_0 a1_1 a1_2 a1_3 t273 t274 t275 t276 t277 t278 t279 t280 t281 t282 t283 t284 t285 = some r) ∧ Aside0 (kq ≤ k) ∧ Aside0 (w'.heap[gb270]? = some (.cells #[.int .i64 a0_0, .int .i64 a0_1, .int .i64 a0_2, .int .i64 a0_3, .int .i64 a0_4, .int .i64 a0_5, .int .i64 a0_6, .int .i64 a0_7, .int .i64 a0_8, .int .u64 a0_9, .int .u64 a0_10, .int .u64 a0_11, .int .u64 a0_12] 25 (0, 0))) ∧ Aside0 (w'.heap[gb271]? = some (.cells #[.int .u64 a1_0, .int .u64 a1_1, .int .u64 a1_2, .int .u64 a1_3] 23 (0, 0))) ∧ Aside0 (w'.heap[gb286]? = some (.cells #[.int .i64 t273, .int .i64 t274, .int .i64 t275, .int .i64 t276, .int .i64 t277, .int .i64 t278, .int .i64 t279, .int .i64 t280, .int .i64 t281, .int .u64 t282, .int .u64 t283, .int .u64 t284, .int .u64 t285] 25 (0, 0))) ∧ Aside0 (Below w.heap.size w w'))
  case atStart => exact ⟨(0), (by first | rfl | (simp; done) | (simp [*]; done) | kernel_rfl), H', ⟨Nat.le_refl _⟩, ⟨by (with_reducible repeat (first | refine blk_drewN ?_ _ | refine blk_drew ?_ | refine blk_alloc ?_ _)); refine blk_far ?_ NB270_286.out _; (with_reducible repeat (first | refine blk_drewN ?_ _ | refine blk_drew ?_ | refine blk_alloc ?_ _)); refine blk_far ?_ NB270_286.out _; (with_reducible repeat (first | refine blk_drewN ?_ _ | refine blk_drew ?_ | refine blk_alloc ?_ _)); refine blk_far ?_ NB270_286.out _; (with_reducible repeat (first | refine blk_drewN ?_ _ | refine blk_drew ?_ | refine blk_alloc ?_ _)); refine blk_far ?_ NB270_286.out _; (with_reducible repeat (first | refine blk_drewN ?_ _ | refine blk_drew ?_ | refine blk_alloc ?_ _)); refine blk_far ?_ NB270_286.out _; (with_reducible repeat (first | refine blk_drewN ?_ _ | refine blk_drew ?_ | refine blk_alloc ?_ _)); refine blk_far ?_ NB270_286.out _; (with_reducible repeat (first | refine blk_drewN ?_ _ | refine blk_drew ?_ | refine blk_alloc ?_ _)); refine blk_far ?_ NB270_286.out _; (with_reducible repeat (first | refine blk_drewN ?_ _ | refine blk_drew ?_ | refine blk_alloc ?_ _)); refine blk_far ?_ NB270_286.out _; (with_reducible repeat (first | refine blk_drewN ?_ _ | refine blk_drew ?_ | refine blk_alloc ?_ _)); refine blk_far ?_ NB270_286.out _; (with_reducible repeat (first | refine blk_drewN ?_ _ | refine blk_drew ?_ | refine blk_alloc ?_ _)); refine blk_far ?_ NB270_286.out _; (with_reducible repeat (first | refine blk_drewN ?_ _ | refine blk_drew ?_ | refine blk_alloc ?_ _)); refine blk_far ?_ NB270_286.out _; (with_reducible repeat (first | refine blk_drewN ?_ _ | refine blk_drew ?_ | refine blk_alloc ?_ _)); refine blk_far ?_ NB270_286.out _; (with_reducible repeat (first | refine blk_drewN ?_ _ | refine blk_drew ?_ | refine blk_alloc ?_ _)); refine blk_far ?_ NB270_286.out _; (with_reducible repeat (first | refine blk_drewN ?_ _ | refine blk_drew ?_ | refine blk_alloc ?_ _)); exact BK270.out⟩, ⟨by (with_reducible repeat (first | refine blk_drewN ?_ _ | refine blk_drew ?_ | refine blk_alloc ?_ _)); refine blk_far ?_ NB271_286.out _; (with_reducible repeat (first | refine blk_drewN ?_ _ | refine blk_drew ?_ | refine blk_alloc ?_ _)); refine blk_far ?_ NB271_286.out _; (with_reducible repeat (first | refine blk_drewN ?_ _ | refine blk_drew ?_ | refine blk_alloc ?_ _)); refine blk_far ?_ NB271_286.out _; (with_reducible repeat (first | refine blk_drewN ?_ _ | refine blk_drew ?_ | refine blk_alloc ?_ _)); refine blk_far ?_ NB271_286.out _; (with_reducible repeat (first | refine blk_drewN ?_ _ | refine blk_drew ?_ | refine blk_alloc ?_ _)); refine blk_far ?_ NB271_286.out _; (with_reducible repeat (first | refine blk_drewN ?_ _ | refine blk_drew ?_ | refine blk_alloc ?_ _)); refine blk_far ?_ NB271_286.out _; (with_reducible repeat (first | refine blk_drewN ?_ _ | refine blk_drew ?_ | refine blk_alloc ?_ _)); refine blk_far ?_ NB271_286.out _; (with_reducible repeat (first | refine blk_drewN ?_ _ | refine blk_drew ?_ | refine blk_alloc ?_ _)); refine blk_far ?_ NB271_286.out _; (with_reducible repeat (first | refine blk_drewN ?_ _ | refine blk_drew ?_ | refine blk_alloc ?_ _)); refine blk_far ?_ NB271_286.out _; (with_reducible repeat (first | refine blk_drewN ?_ _ | refine blk_drew ?_ | refine blk_alloc ?_ _)); refine blk_far ?_ NB271_286.out _; (with_reducible repeat (first | refine blk_drewN ?_ _ | refine blk_drew ?_ | refine blk_alloc ?_ _)); refine blk_far ?_ NB271_286.out _; (with_reducible repeat (first | refine blk_drewN ?_ _ | refine blk_drew ?_ | refine blk_alloc ?_ _)); refine blk_far ?_ NB271_286.out _; (with_reducible repeat (first | refine blk_drewN ?_ _ | refine blk_drew ?_ | refine blk_alloc ?_ _)); refine blk_far ?_ NB271_286.out _; (with_reducible repeat (first | refine blk_drewN ?_ _ | refine blk_drew ?_ | refine blk_alloc ?_ _)); exact BK271.out⟩, ⟨by (with_reducible repeat (first | refine blk_drewN ?_ _ | refine blk_drew ?_ | refine blk_alloc ?_ _)); refine blk_put (cs := #[.int .i64 t273, .int .i64 t274, .int .i64 t275, .int .i64 t276, .int .i64 t277, .int .i64 t278, .int .i64 t279, .int .i64 t280, .int .i64 t281, .int .u64 t282, .int .u64 t283, .int .u64 t284, .int .u64 0]) ?_ 12 _ rfl; (with_reducible repeat (first | refine blk_drewN ?_ _ | refine blk_drew ?_ | refine blk_alloc ?_ _)); refine blk_put (cs := #[.int .i64 t273, .int .i64 t274, .int .i64 t275, .int .i64 t276, .int .i64 t277, .int .i64 t278, .int .i64 t279, .int .i64 t280, .int .i64 t281, .int .u64 t282, .int .u64 t283, .int .u64 0, .int .u64 0]) ?_ 11 _ rfl; (with_reducible repeat (first | refine blk_drewN ?_ _ | refine blk_drew ?_ | refine blk_alloc ?_ _)); refine blk_put (cs := #[.int .i64 t273, .int .i64 t274, .int .i64 t275, .int .i64 t276, .int .i64 t277, .int .i64 t278, .int .i64 t279, .int .i64 t280, .int .i64 t281, .int .u64 t282, .int .u64 0, .int .u64 0, .int .u64 0]) ?_ 10 _ rfl; (with_reducible repeat (first | refine blk_drewN ?_ _ | refine blk_drew ?_ | refine blk_alloc ?_ _)); refine blk_put (cs := #[.int .i64 t273, .int .i64 t274, .int .i64 t275, .int .i64 t276, .int .i64 t277, .int .i64 t278, .int .i64 t279, .int .i64 t280, .int .i64 t281, .int .u64 0, .int .u64 0, .int .u64 0, .int .u64 0]) ?_ 9 _ rfl; (with_reducible repeat (first | refine blk_drewN ?_ _ | refine blk_drew ?_ | refine blk_alloc ?_ _)); refine blk_put (cs := #[.int .i64 t273, .int .i64 t274, .int .i64 t275, .int .i64 t276, .int .i64 t277, .int .i64 t278, .int .i64 t279, .int .i64 t280, .int .i64 0, .int .u64 0, .int .u64 0, .int .u64 0, .int .u64 0]) ?_ 8 _ rfl; (with_reducible repeat (first | refine blk_drewN ?_ _ | refine blk_drew ?_ | refine blk_alloc ?_ _)); refine blk_put (cs := #[.int .i64 t273, .int .i64 t274, .int .i64 t275, .int .i64 t276, .int .i64 t277, .int .i64 t278, .int .i64 t279, .int .i64 0, .int .i64 0, .int .u64 0, .int .u64 0, .int .u64 0, .int .u64 0]) ?_ 7 _ rfl; (with_reducible repeat (first | refine blk_drewN ?_ _ | refine blk_drew ?_ | refine blk_alloc ?_ _)); refine blk_put (cs := #[.int .i64 t273, .int .i64 t274, .int .i64 t275, .int .i64 t276, .int .i64 t277, .int .i64 t278, .int .i64 0, .int .i64 0, .int .i64 0, .int .u64 0, .int .u64 0, .int .u64 0, .int .u64 0]) ?_ 6 _ rfl; (with_reducible repeat (first | refine blk_drewN ?_ _ | refine blk_drew ?_ | refine blk_alloc ?_ _)); refine blk_put (cs := #[.int .i64 t273, .int .i64 t274, .int .i64 t275, .int .i64 t276, .int .i64 t277, .int .i64 0, .int .i64 0, .int .i64 0, .int .i64 0, .int .u64 0, .int .u64 0, .int .u64 0, .int .u64 0]) ?_ 5 _ rfl; (with_reducible repeat (first | refine blk_drewN ?_ _ | refine blk_drew ?_ | refine blk_alloc ?_ _)); refine blk_put (cs := #[.int .i64 t273, .int .i64 t274, .int .i64 t275, .int .i64 t276, .int .i64 0, .int .i64 0, .int .i64 0, .int .i64 0, .int .i64 0, .int .u64 0, .int .u64 0, .int .u64 0, .int .u64 0]) ?_ 4 _ rfl; (with_reducible repeat (first | refine blk_drewN ?_ _ | refine blk_drew ?_ | refine blk_alloc ?_ _)); refine blk_put (cs := #[.int .i64 t273, .int .i64 t274, .int .i64 t275, .int .i64 0, .int .i64 0, .int .i64 0, .int .i64 0, .int .i64 0, .int .i64 0, .int .u64 0, .int .u64 0, .int .u64 0, .int .u64 0]) ?_ 3 _ rfl; (with_reducible repeat (first | refine blk_drewN ?_ _ | refine blk_drew ?_ | refine blk_alloc ?_ _)); refine blk_put (cs := #[.int .i64 t273, .int .i64 t274, .int .i64 0, .int .i64 0, .int .i64 0, .int .i64 0, .int .i64 0, .int .i64 0, .int .i64 0, .int .u64 0, .int .u64 0, .int .u64 0, .int .u64 0]) ?_ 2 _ rfl; (with_reducible repeat (first | refine blk_drewN ?_ _ | refine blk_drew ?_ | refine blk_alloc ?_ _)); refine blk_put (cs := #[.int .i64 t273, .int .i64 0, .int .i64 0, .int .i64 0, .int .i64 0, .int .i64 0, .int .i64 0, .int .i64 0, .int .i64 0, .int .u64 0, .int .u64 0, .int .u64 0, .int .u64 0]) ?_ 1 _ rfl; (with_reducible repeat (first | refine blk_drewN ?_ _ | refine blk_drew ?_ | refine blk_alloc ?_ _)); refine blk_put (cs := #[.int .i64 0, .int .i64 0, .int .i64 0, .int .i64 0, .int .i64 0, .int .i64 0, .int .i64 0, .int .i64 0, .int .i64 0, .int .u64 0, .int .u64 0, .int .u64 0, .int .u64 0]) ?_ 0 _ rfl; (with_reducible repeat (first | refine blk_drewN ?_ _ | refine blk_drew ?_ | refine blk_alloc ?_ _)); exact BK286.out⟩, ⟨by repeat (first | (with_reducible first | exact HB.out | apply below_alloc | apply pw_below_drewN | apply below_drew1 | refine below_set ?_ GE270.out | refine below_set ?_ GE271.out | refine below_set ?_ GE286.out) | exact HB.out)⟩⟩
  case round =>
   clear H'
   try clear c1
   try clear c2
   try clear p2
   try clear c5
   try clear p6
   try clear c7
   try clear c7b0
   try clear c7b1
   try clear c16
   try clear c17
   try clear c20
   try clear c21
   try clear hcz17_0
   try clear hcz17_1
   try clear hcz17_10
   try clear hcz17_11
   try clear hcz17_12
   try clear hcz17_2
   try clear hcz17_3
   try clear hcz17_4
   try clear hcz17_5
   try clear hcz17_6
   try clear hcz17_7
   try clear hcz17_8
   try clear hcz17_9
   try clear hcz22_0
   try clear hcz22_1
   try clear hcz22_10
   try clear hcz22_11
   try clear hcz22_12
   try clear hcz22_2
   try clear hcz22_3
   try clear hcz22_4
   try clear hcz22_5
   try clear hcz22_6
   try clear hcz22_7
   try clear hcz22_8
   try clear hcz22_9
   try clear hcz23_0
   try clear hcz23_1
   try clear hcz23_2
   try clear hcz23_3
   try clear hfz17_0
   try clear hfz17_1
   try clear hfz17_10
   try clear hfz17_11
   try clear hfz17_12
   try clear hfz17_2
   try clear hfz17_3
   try clear hfz17_4
   try clear hfz17_5
   try clear hfz17_6
   try clear hfz17_7
   try clear hfz17_8
   try clear hfz17_9
   try clear hfz22_0
   try clear hfz22_1
   try clear hfz22_10
   try clear hfz22_11
   try clear hfz22_12
   try clear hfz22_2
   try clear hfz22_3
   try clear hfz22_4
   try clear hfz22_5
   try clear hfz22_6
   try clear hfz22_7
   try clear hfz22_8
   try clear hfz22_9
   try clear hfz23_0
   try clear hfz23_1
   try clear hfz23_2
   try clear hfz23_3
   obtain ⟨x30_1, rfl, HA, HK1, BK270, BK271, BK286, HB⟩ := hrel
   cases gk with
   | zero => exact absurd HA.out (by simp [chargeparklaw41_RecordChanged.l0])
   | succ k1 =>
    have H := HA.out
    clear HA
    simp only [chargeparklaw41_RecordChanged.l0] at H
    by_cases c24 : x30_1 < 4
    ·rw [if_pos c24] at H
     have c24b0 : decide (x30_1 < 4) = true := decide_eq_true c24
     clear c24
     by_cases c25 : x30_1 = 0
     ·rw [if_pos c25] at H
      subst c25
      replace H : ((record_Sign.f a0_0 a0_1 a0_2 a0_3 a0_4 a0_5 a0_6 a0_7 a0_8 a0_9 a0_10 a0_11 a0_12 a1_0).bind fun t289 => ((record_Sign.f t273 t274 t275 t276 t277 t278 t279 t280 t281 t282 t283 t284 t285 a1_0).bind fun t290 => (if t289 = t290 then (some false) else (chargeparklaw41_RecordChanged.l0 k1 t272 (wrap64 (0 + 1)) a0_0 a0_1 a0_2 a0_3 a0_4 a0_5 a0_6 a0_7 a0_8 a0_9 a0_10 a0_11 a0_12 a1_0 a1_1 a1_2 a1_3 t273 t274 t275 t276 t277 t278 t279 t280 t281 t282 t283 t284 t285)))) = some r := H
      replace H := Option.bind_eq_some_iff.mp H
      obtain ⟨t289, A260, H⟩ := H
      replace H : ((record_Sign.f t273 t274 t275 t276 t277 t278 t279 t280 t281 t282 t283 t284 t285 a1_0).bind fun t290 => (if t289 = t290 then (some false) else (chargeparklaw41_RecordChanged.l0 k1 t272 (wrap64 (0 + 1)) a0_0 a0_1 a0_2 a0_3 a0_4 a0_5 a0_6 a0_7 a0_8 a0_9 a0_10 a0_11 a0_12 a1_0 a1_1 a1_2 a1_3 t273 t274 t275 t276 t277 t278 t279 t280 t281 t282 t283 t284 t285))) = some r := H
      have A26 := Aside0.mk A260
      clear A260
      replace H := Option.bind_eq_some_iff.mp H
      obtain ⟨t290, A270, H⟩ := H
      replace H : (if t289 = t290 then (some false) else (chargeparklaw41_RecordChanged.l0 k1 t272 (wrap64 (0 + 1)) a0_0 a0_1 a0_2 a0_3 a0_4 a0_5 a0_6 a0_7 a0_8 a0_9 a0_10 a0_11 a0_12 a1_0 a1_1 a1_2 a1_3 t273 t274 t275 t276 t277 t278 t279 t280 t281 t282 t283 t284 t285)) = some r := H
      have A27 := Aside0.mk A270
      clear A270
      by_cases c28 : t289 = t290
      ·rw [if_pos c28] at H
       have c28b0 : (t289 == t290) = true := beq_iff_eq.mpr c28
       have c28b1 : (t289 != t290) = false := bne_eq_false_iff_eq.mpr c28
       clear c28
       exact absurd ((Option.some.inj H).trans hT_.out) (by decide)
      ·rw [if_neg c28] at H
       have c28b0 : (t289 == t290) = false := beq_eq_false_iff_ne.mpr c28
       have c28b1 : (t289 != t290) = true := bne_iff_ne.mpr c28
       have H' := Aside0.mk H
       clear H
       try go_wp2
       have n0_ := Aside0.mk (blk_drew BK270.out)
       have n1_ := Aside0.mk (blk_drew BK271.out)
       have n2_ := Aside0.mk (blk_drew BK286.out)
       have n3_ := Aside0.mk (below_drew1 HB.out)
       clear BK270
       clear BK271
       clear BK286
       clear HB
       have BK270 := n0_
       have BK271 := n1_
       have BK286 := n2_
       have HB := n3_
       clear n0_ n1_ n2_ n3_
       refine start_ (n := 7) (S := fun w' => w'.cell? ⟨gb270, 0, none⟩ = some (.int .i64 a0_0) ∧ w'.cell? ⟨gb270, 1, none⟩ = some (.int .i64 a0_1) ∧ w'.cell? ⟨gb270, 2, none⟩ = some (.int .i64 a0_2) ∧ w'.cell? ⟨gb270, 3, none⟩ = some (.int .i64 a0_3) ∧ w'.cell? ⟨gb270, 4, none⟩ = some (.int .i64 a0_4) ∧ w'.cell? ⟨gb270, 5, none⟩ = some (.int .i64 a0_5) ∧ w'.cell? ⟨gb270, 6, none⟩ = some (.int .i64 a0_6) ∧ w'.cell? ⟨gb270, 7, none⟩ = some (.int .i64 a0_7) ∧ w'.cell? ⟨gb270, 8, none⟩ = some (.int .i64 a0_8) ∧ w'.cell? ⟨gb270, 9, none⟩ = some (.int .u64 a0_9) ∧ w'.cell? ⟨gb270, 10, none⟩ = some (.int .u64 a0_10) ∧ w'.cell? ⟨gb270, 11, none⟩ = some (.int .u64 a0_11) ∧ w'.cell? ⟨gb270, 12, none⟩ = some (.int .u64 a0_12) ∧ w'.cell? ⟨gb286, 0, none⟩ = some (.int .i64 t273) ∧ w'.cell? ⟨gb286, 1, none⟩ = some (.int .i64 t274) ∧ w'.cell? ⟨gb286, 2, none⟩ = some (.int .i64 t275) ∧ w'.cell? ⟨gb286, 3, none⟩ = some (.int .i64 t276) ∧ w'.cell? ⟨gb286, 4, none⟩ = some (.int .i64 t277) ∧ w'.cell? ⟨gb286, 5, none⟩ = some (.int .i64 t278) ∧ w'.cell? ⟨gb286, 6, none⟩ = some (.int .i64 t279) ∧ w'.cell? ⟨gb286, 7, none⟩ = some (.int .i64 t280) ∧ w'.cell? ⟨gb286, 8, none⟩ = some (.int .i64 t281) ∧ w'.cell? ⟨gb286, 9, none⟩ = some (.int .u64 t282) ∧ w'.cell? ⟨gb286, 10, none⟩ = some (.int .u64 t283) ∧ w'.cell? ⟨gb286, 11, none⟩ = some (.int .u64 t284) ∧ w'.cell? ⟨gb286, 12, none⟩ = some (.int .u64 t285)) (ds := []) #[false, false, false, false, false, false, false] (by kernel_rfl) rfl rfl ⟨(blk_cell BK270.out 0).trans rfl, (blk_cell BK270.out 1).trans rfl, (blk_cell BK270.out 2).trans rfl, (blk_cell BK270.out 3).trans rfl, (blk_cell BK270.out 4).trans rfl, (blk_cell BK270.out 5).trans rfl, (blk_cell BK270.out 6).trans rfl, (blk_cell BK270.out 7).trans rfl, (blk_cell BK270.out 8).trans rfl, (blk_cell BK270.out 9).trans rfl, (blk_cell BK270.out 10).trans rfl, (blk_cell BK270.out 11).trans rfl, (blk_cell BK270.out 12).trans rfl, (blk_cell BK286.out 0).trans rfl, (blk_cell BK286.out 1).trans rfl, (blk_cell BK286.out 2).trans rfl, (blk_cell BK286.out 3).trans rfl, (blk_cell BK286.out 4).trans rfl, (blk_cell BK286.out 5).trans rfl, (blk_cell BK286.out 6).trans rfl, (blk_cell BK286.out 7).trans rfl, (blk_cell BK286.out 8).trans rfl, (blk_cell BK286.out 9).trans rfl, (blk_cell BK286.out 10).trans rfl, (blk_cell BK286.out 11).trans rfl, (blk_cell BK286.out 12).trans rfl⟩ (fun hHeld => ?_)
       generalize wr.drew = w29 at BK270 BK271 BK286 HB hHeld ⊢
       refine pure_ (i := 1) (N := some 34) (v := ?_) (a' := ?_) #[false, true, false, false, false, false, false] rfl rfl (by kernel_rfl) (fun _ _ _ h => h) (Or.inl ⟨by rfl, ?_⟩) ?_ ?_
       rotate_left
       ·intro w'
        go_simp
        with_reducible rfl
       rotate_left
       ·simp only [Act.put, List.setIfInBounds_toArray, List.set_cons_zero, List.set_cons_succ, i64_w, i32_w]
        rfl
       refine pure_ (i := 4) (N := some 37) (v := ?_) (a' := ?_) #[false, true, false, false, true, false, false] rfl rfl (by kernel_rfl) (fun _ _ _ h => h) (Or.inl ⟨by rfl, ?_⟩) ?_ ?_
       rotate_left
       ·intro w'
        go_simp
        with_reducible rfl
       rotate_left
       ·simp only [Act.put, List.setIfInBounds_toArray, List.set_cons_zero, List.set_cons_succ, i64_w, i32_w]
        rfl
       refine take_ (i := 0) (N := some 33) (v := ?_) (a' := ?_) #[true, true, false, false, true, false, false] rfl rfl (by kernel_rfl) (fun _ _ _ h => h) (Or.inl ⟨by rfl, ?_⟩) hHeld ?_ ?_
       rotate_left
       ·rintro w' ⟨s0, s1, s2, s3, s4, s5, s6, s7, s8, s9, s10, s11, s12, s13, s14, s15, s16, s17, s18, s19, s20, s21, s22, s23, s24, s25⟩
        go_simp
        with_reducible rfl
       rotate_left
       ·simp only [Act.put, List.setIfInBounds_toArray, List.set_cons_zero, List.set_cons_succ, i64_w, i32_w]
        rfl
       refine take_ (i := 3) (N := some 36) (v := ?_) (a' := ?_) #[true, true, false, true, true, false, false] rfl rfl (by kernel_rfl) (fun _ _ _ h => h) (Or.inl ⟨by rfl, ?_⟩) hHeld ?_ ?_
       rotate_left
       ·rintro w' ⟨s0, s1, s2, s3, s4, s5, s6, s7, s8, s9, s10, s11, s12, s13, s14, s15, s16, s17, s18, s19, s20, s21, s22, s23, s24, s25⟩
        go_simp
        with_reducible rfl
       rotate_left
       ·simp only [Act.put, List.setIfInBounds_toArray, List.set_cons_zero, List.set_cons_succ, i64_w, i32_w]
        rfl
       refine one_ (i := 2) (N := some 35) #[true, true, true, true, true, false, false] rfl rfl (by kernel_rfl) (by decide) (fun K hK => ?_)
       refine goes_ Try.func20 (by kernel_rfl) rfl #[.agg #[.int .i64 a0_0, .int .i64 a0_1, .int .i64 a0_2, .int .i64 a0_3, .int .i64 a0_4, .int .i64 a0_5, .int .i64 a0_6, .int .i64 a0_7, .int .i64 a0_8, .int .u64 a0_9, .int .u64 a0_10, .int .u64 a0_11, .int .u64 a0_12], .int .u64 a1_0] (by rfl) rfl rfl (by (try simp only [List.map_toArray, List.map_cons, List.map_nil]); first | done | rfl | (simp only [List.length_drop, List.length_take]; rfl)) ?_
       with_reducible refine (record_Sign.calls a0_0 a0_1 a0_2 a0_3 a0_4 a0_5 a0_6 a0_7 a0_8 a0_9 a0_10 a0_11 a0_12 a1_0 t289 _ A26.out).mono ?_
       rintro e w30 ⟨rfl, hb⟩
       refine ⟨_, rfl, ?_⟩
       have n0_ := Aside0.mk (blk_below (g := gb270) (o := .cells #[.int .i64 a0_0, .int .i64 a0_1, .int .i64 a0_2, .int .i64 a0_3, .int .i64 a0_4, .int .i64 a0_5, .int .i64 a0_6, .int .i64 a0_7, .int .i64 a0_8, .int .u64 a0_9, .int .u64 a0_10, .int .u64 a0_11, .int .u64 a0_12] 25 (0, 0)) (by (with_reducible repeat (first | refine blk_drewN ?_ _ | refine blk_drew ?_ | refine blk_alloc ?_ _)); exact BK270.out) hb)
       have n1_ := Aside0.mk (blk_below (g := gb271) (o := .cells #[.int .u64 a1_0, .int .u64 a1_1, .int .u64 a1_2, .int .u64 a1_3] 23 (0, 0)) (by (with_reducible repeat (first | refine blk_drewN ?_ _ | refine blk_drew ?_ | refine blk_alloc ?_ _)); exact BK271.out) hb)
       have n2_ := Aside0.mk (blk_below (g := gb286) (o := .cells #[.int .i64 t273, .int .i64 t274, .int .i64 t275, .int .i64 t276, .int .i64 t277, .int .i64 t278, .int .i64 t279, .int .i64 t280, .int .i64 t281, .int .u64 t282, .int .u64 t283, .int .u64 t284, .int .u64 t285] 25 (0, 0)) (by (with_reducible repeat (first | refine blk_drewN ?_ _ | refine blk_drew ?_ | refine blk_alloc ?_ _)); exact BK286.out) hb)
       have n3_ := Aside0.mk (below_step (by repeat (first | (with_reducible first | exact HB.out | apply below_alloc | apply pw_below_drewN | apply below_drew1 | refine below_set ?_ GE270.out | refine below_set ?_ GE271.out | refine below_set ?_ GE286.out) | exact HB.out)) hb)
       clear BK270
       clear BK271
       clear BK286
       clear HB
       have BK270 := n0_
       have BK271 := n1_
       have BK286 := n2_
       have HB := n3_
       clear n0_ n1_ n2_ n3_
       (try clear hb)
       (try clear hb2)
       (try clear hk)
       (try clear hi)
       refine hK.out _ _ ⟨(blk_cell BK270.out 0).trans rfl, (blk_cell BK270.out 1).trans rfl, (blk_cell BK270.out 2).trans rfl, (blk_cell BK270.out 3).trans rfl, (blk_cell BK270.out 4).trans rfl, (blk_cell BK270.out 5).trans rfl, (blk_cell BK270.out 6).trans rfl, (blk_cell BK270.out 7).trans rfl, (blk_cell BK270.out 8).trans rfl, (blk_cell BK270.out 9).trans rfl, (blk_cell BK270.out 10).trans rfl, (blk_cell BK270.out 11).trans rfl, (blk_cell BK270.out 12).trans rfl, (blk_cell BK286.out 0).trans rfl, (blk_cell BK286.out 1).trans rfl, (blk_cell BK286.out 2).trans rfl, (blk_cell BK286.out 3).trans rfl, (blk_cell BK286.out 4).trans rfl, (blk_cell BK286.out 5).trans rfl, (blk_cell BK286.out 6).trans rfl, (blk_cell BK286.out 7).trans rfl, (blk_cell BK286.out 8).trans rfl, (blk_cell BK286.out 9).trans rfl, (blk_cell BK286.out 10).trans rfl, (blk_cell BK286.out 11).trans rfl, (blk_cell BK286.out 12).trans rfl⟩ (fun hHeld => ?_)
       clear hK K
       refine norm_ (a' := ?_) ?_ ?_
       rotate_left
       ·show Act.put _ (some 35) _ = _
        simp only [Act.put, List.setIfInBounds_toArray, List.set_cons_zero, List.set_cons_succ, i64_w, i32_w]
        rfl
       refine one_ (i := 5) (N := some 38) #[true, true, true, true, true, true, false] rfl rfl (by kernel_rfl) (by decide) (fun K hK => ?_)
       refine goes_ Try.func20 (by kernel_rfl) rfl #[.agg #[.int .i64 t273, .int .i64 t274, .int .i64 t275, .int .i64 t276, .int .i64 t277, .int .i64 t278, .int .i64 t279, .int .i64 t280, .int .i64 t281, .int .u64 t282, .int .u64 t283, .int .u64 t284, .int .u64 t285], .int .u64 a1_0] (by rfl) rfl rfl (by (try simp only [List.map_toArray, List.map_cons, List.map_nil]); first | done | rfl | (simp only [List.length_drop, List.length_take]; rfl)) ?_
       with_reducible refine (record_Sign.calls t273 t274 t275 t276 t277 t278 t279 t280 t281 t282 t283 t284 t285 a1_0 t290 _ A27.out).mono ?_
       rintro e w31 ⟨rfl, hb⟩
       refine ⟨_, rfl, ?_⟩
       have n0_ := Aside0.mk (blk_below (g := gb270) (o := .cells #[.int .i64 a0_0, .int .i64 a0_1, .int .i64 a0_2, .int .i64 a0_3, .int .i64 a0_4, .int .i64 a0_5, .int .i64 a0_6, .int .i64 a0_7, .int .i64 a0_8, .int .u64 a0_9, .int .u64 a0_10, .int .u64 a0_11, .int .u64 a0_12] 25 (0, 0)) (by (with_reducible repeat (first | refine blk_drewN ?_ _ | refine blk_drew ?_ | refine blk_alloc ?_ _)); exact BK270.out) hb)
       have n1_ := Aside0.mk (blk_below (g := gb271) (o := .cells #[.int .u64 a1_0, .int .u64 a1_1, .int .u64 a1_2, .int .u64 a1_3] 23 (0, 0)) (by (with_reducible repeat (first | refine blk_drewN ?_ _ | refine blk_drew ?_ | refine blk_alloc ?_ _)); exact BK271.out) hb)
       have n2_ := Aside0.mk (blk_below (g := gb286) (o := .cells #[.int .i64 t273, .int .i64 t274, .int .i64 t275, .int .i64 t276, .int .i64 t277, .int .i64 t278, .int .i64 t279, .int .i64 t280, .int .i64 t281, .int .u64 t282, .int .u64 t283, .int .u64 t284, .int .u64 t285] 25 (0, 0)) (by (with_reducible repeat (first | refine blk_drewN ?_ _ | refine blk_drew ?_ | refine blk_alloc ?_ _)); exact BK286.out) hb)
       have n3_ := Aside0.mk (below_step (by repeat (first | (with_reducible first | exact HB.out | apply below_alloc | apply pw_below_drewN | apply below_drew1 | refine below_set ?_ GE270.out | refine below_set ?_ GE271.out | refine below_set ?_ GE286.out) | exact HB.out)) hb)
       clear BK270
       clear BK271
       clear BK286
       clear HB
       have BK270 := n0_
       have BK271 := n1_
       have BK286 := n2_
       have HB := n3_
       clear n0_ n1_ n2_ n3_
       (try clear hb)
       (try clear hb2)
       (try clear hk)
       (try clear hi)
       refine hK.out _ _ ⟨(blk_cell BK270.out 0).trans rfl, (blk_cell BK270.out 1).trans rfl, (blk_cell BK270.out 2).trans rfl, (blk_cell BK270.out 3).trans rfl, (blk_cell BK270.out 4).trans rfl, (blk_cell BK270.out 5).trans rfl, (blk_cell BK270.out 6).trans rfl, (blk_cell BK270.out 7).trans rfl, (blk_cell BK270.out 8).trans rfl, (blk_cell BK270.out 9).trans rfl, (blk_cell BK270.out 10).trans rfl, (blk_cell BK270.out 11).trans rfl, (blk_cell BK270.out 12).trans rfl, (blk_cell BK286.out 0).trans rfl, (blk_cell BK286.out 1).trans rfl, (blk_cell BK286.out 2).trans rfl, (blk_cell BK286.out 3).trans rfl, (blk_cell BK286.out 4).trans rfl, (blk_cell BK286.out 5).trans rfl, (blk_cell BK286.out 6).trans rfl, (blk_cell BK286.out 7).trans rfl, (blk_cell BK286.out 8).trans rfl, (blk_cell BK286.out 9).trans rfl, (blk_cell BK286.out 10).trans rfl, (blk_cell BK286.out 11).trans rfl, (blk_cell BK286.out 12).trans rfl⟩ (fun hHeld => ?_)
       clear hK K
       refine norm_ (a' := ?_) ?_ ?_
       rotate_left
       ·show Act.put _ (some 38) _ = _
        simp only [Act.put, List.setIfInBounds_toArray, List.set_cons_zero, List.set_cons_succ, i64_w, i32_w]
        rfl
       refine pure_ (i := 6) (N := some 39) (v := ?_) (a' := ?_) #[true, true, true, true, true, true, true] rfl rfl (by kernel_rfl) (fun _ _ _ h => h) (Or.inl ⟨by rfl, ?_⟩) ?_ ?_
       rotate_left
       ·intro w'
        go_simp
        with_reducible rfl
       rotate_left
       ·simp only [Act.put, List.setIfInBounds_toArray, List.set_cons_zero, List.set_cons_succ, i64_w, i32_w]
        rfl
       refine done_ (by kernel_rfl) ?_
       try go_wp2
       go_roundg k1
       case measure => have := HK1.out; omega
       case rel => exact ⟨(wrap64 (0 + 1)), (by first | rfl | (simp; done) | (simp [*]; done) | kernel_rfl), H', ⟨by have := HK1.out; omega⟩, ⟨by (with_reducible repeat (first | refine blk_drewN ?_ _ | refine blk_drew ?_ | refine blk_alloc ?_ _)); exact BK270.out⟩, ⟨by (with_reducible repeat (first | refine blk_drewN ?_ _ | refine blk_drew ?_ | refine blk_alloc ?_ _)); exact BK271.out⟩, ⟨by (with_reducible repeat (first | refine blk_drewN ?_ _ | refine blk_drew ?_ | refine blk_alloc ?_ _)); exact BK286.out⟩, ⟨by repeat (first | (with_reducible first | exact HB.out | apply below_alloc | apply pw_below_drewN | apply below_drew1 | refine below_set ?_ GE270.out | refine below_set ?_ GE271.out | refine below_set ?_ GE286.out) | exact HB.out)⟩⟩
     ·rw [if_neg c25] at H
      clear c25
      by_cases c32 : x30_1 = 1
      ·rw [if_pos c32] at H
       subst c32
       replace H : ((record_Sign.f a0_0 a0_1 a0_2 a0_3 a0_4 a0_5 a0_6 a0_7 a0_8 a0_9 a0_10 a0_11 a0_12 a1_1).bind fun t291 => ((record_Sign.f t273 t274 t275 t276 t277 t278 t279 t280 t281 t282 t283 t284 t285 a1_1).bind fun t292 => (if t291 = t292 then (some false) else (chargeparklaw41_RecordChanged.l0 k1 t272 (wrap64 (1 + 1)) a0_0 a0_1 a0_2 a0_3 a0_4 a0_5 a0_6 a0_7 a0_8 a0_9 a0_10 a0_11 a0_12 a1_0 a1_1 a1_2 a1_3 t273 t274 t275 t276 t277 t278 t279 t280 t281 t282 t283 t284 t285)))) = some r := H
       replace H := Option.bind_eq_some_iff.mp H
       obtain ⟨t291, A330, H⟩ := H
       replace H : ((record_Sign.f t273 t274 t275 t276 t277 t278 t279 t280 t281 t282 t283 t284 t285 a1_1).bind fun t292 => (if t291 = t292 then (some false) else (chargeparklaw41_RecordChanged.l0 k1 t272 (wrap64 (1 + 1)) a0_0 a0_1 a0_2 a0_3 a0_4 a0_5 a0_6 a0_7 a0_8 a0_9 a0_10 a0_11 a0_12 a1_0 a1_1 a1_2 a1_3 t273 t274 t275 t276 t277 t278 t279 t280 t281 t282 t283 t284 t285))) = some r := H
       have A33 := Aside0.mk A330
       clear A330
       replace H := Option.bind_eq_some_iff.mp H
       obtain ⟨t292, A340, H⟩ := H
       replace H : (if t291 = t292 then (some false) else (chargeparklaw41_RecordChanged.l0 k1 t272 (wrap64 (1 + 1)) a0_0 a0_1 a0_2 a0_3 a0_4 a0_5 a0_6 a0_7 a0_8 a0_9 a0_10 a0_11 a0_12 a1_0 a1_1 a1_2 a1_3 t273 t274 t275 t276 t277 t278 t279 t280 t281 t282 t283 t284 t285)) = some r := H
       have A34 := Aside0.mk A340
       clear A340
       by_cases c35 : t291 = t292
       ·rw [if_pos c35] at H
        have c35b0 : (t291 == t292) = true := beq_iff_eq.mpr c35
        have c35b1 : (t291 != t292) = false := bne_eq_false_iff_eq.mpr c35
        clear c35
        exact absurd ((Option.some.inj H).trans hT_.out) (by decide)
       ·rw [if_neg c35] at H
        have c35b0 : (t291 == t292) = false := beq_eq_false_iff_ne.mpr c35
        have c35b1 : (t291 != t292) = true := bne_iff_ne.mpr c35
        have H' := Aside0.mk H
        clear H
        try go_wp2
        have n0_ := Aside0.mk (blk_drew BK270.out)
        have n1_ := Aside0.mk (blk_drew BK271.out)
        have n2_ := Aside0.mk (blk_drew BK286.out)
        have n3_ := Aside0.mk (below_drew1 HB.out)
        clear BK270
        clear BK271
        clear BK286
        clear HB
        have BK270 := n0_
        have BK271 := n1_
        have BK286 := n2_
        have HB := n3_
        clear n0_ n1_ n2_ n3_
        refine start_ (n := 7) (S := fun w' => w'.cell? ⟨gb270, 0, none⟩ = some (.int .i64 a0_0) ∧ w'.cell? ⟨gb270, 1, none⟩ = some (.int .i64 a0_1) ∧ w'.cell? ⟨gb270, 2, none⟩ = some (.int .i64 a0_2) ∧ w'.cell? ⟨gb270, 3, none⟩ = some (.int .i64 a0_3) ∧ w'.cell? ⟨gb270, 4, none⟩ = some (.int .i64 a0_4) ∧ w'.cell? ⟨gb270, 5, none⟩ = some (.int .i64 a0_5) ∧ w'.cell? ⟨gb270, 6, none⟩ = some (.int .i64 a0_6) ∧ w'.cell? ⟨gb270, 7, none⟩ = some (.int .i64 a0_7) ∧ w'.cell? ⟨gb270, 8, none⟩ = some (.int .i64 a0_8) ∧ w'.cell? ⟨gb270, 9, none⟩ = some (.int .u64 a0_9) ∧ w'.cell? ⟨gb270, 10, none⟩ = some (.int .u64 a0_10) ∧ w'.cell? ⟨gb270, 11, none⟩ = some (.int .u64 a0_11) ∧ w'.cell? ⟨gb270, 12, none⟩ = some (.int .u64 a0_12) ∧ w'.cell? ⟨gb286, 0, none⟩ = some (.int .i64 t273) ∧ w'.cell? ⟨gb286, 1, none⟩ = some (.int .i64 t274) ∧ w'.cell? ⟨gb286, 2, none⟩ = some (.int .i64 t275) ∧ w'.cell? ⟨gb286, 3, none⟩ = some (.int .i64 t276) ∧ w'.cell? ⟨gb286, 4, none⟩ = some (.int .i64 t277) ∧ w'.cell? ⟨gb286, 5, none⟩ = some (.int .i64 t278) ∧ w'.cell? ⟨gb286, 6, none⟩ = some (.int .i64 t279) ∧ w'.cell? ⟨gb286, 7, none⟩ = some (.int .i64 t280) ∧ w'.cell? ⟨gb286, 8, none⟩ = some (.int .i64 t281) ∧ w'.cell? ⟨gb286, 9, none⟩ = some (.int .u64 t282) ∧ w'.cell? ⟨gb286, 10, none⟩ = some (.int .u64 t283) ∧ w'.cell? ⟨gb286, 11, none⟩ = some (.int .u64 t284) ∧ w'.cell? ⟨gb286, 12, none⟩ = some (.int .u64 t285)) (ds := []) #[false, false, false, false, false, false, false] (by kernel_rfl) rfl rfl ⟨(blk_cell BK270.out 0).trans rfl, (blk_cell BK270.out 1).trans rfl, (blk_cell BK270.out 2).trans rfl, (blk_cell BK270.out 3).trans rfl, (blk_cell BK270.out 4).trans rfl, (blk_cell BK270.out 5).trans rfl, (blk_cell BK270.out 6).trans rfl, (blk_cell BK270.out 7).trans rfl, (blk_cell BK270.out 8).trans rfl, (blk_cell BK270.out 9).trans rfl, (blk_cell BK270.out 10).trans rfl, (blk_cell BK270.out 11).trans rfl, (blk_cell BK270.out 12).trans rfl, (blk_cell BK286.out 0).trans rfl, (blk_cell BK286.out 1).trans rfl, (blk_cell BK286.out 2).trans rfl, (blk_cell BK286.out 3).trans rfl, (blk_cell BK286.out 4).trans rfl, (blk_cell BK286.out 5).trans rfl, (blk_cell BK286.out 6).trans rfl, (blk_cell BK286.out 7).trans rfl, (blk_cell BK286.out 8).trans rfl, (blk_cell BK286.out 9).trans rfl, (blk_cell BK286.out 10).trans rfl, (blk_cell BK286.out 11).trans rfl, (blk_cell BK286.out 12).trans rfl⟩ (fun hHeld => ?_)
        generalize wr.drew = w36 at BK270 BK271 BK286 HB hHeld ⊢
        refine pure_ (i := 1) (N := some 34) (v := ?_) (a' := ?_) #[false, true, false, false, false, false, false] rfl rfl (by kernel_rfl) (fun _ _ _ h => h) (Or.inl ⟨by rfl, ?_⟩) ?_ ?_
        rotate_left
        ·intro w'
         go_simp
         with_reducible rfl
        rotate_left
        ·simp only [Act.put, List.setIfInBounds_toArray, List.set_cons_zero, List.set_cons_succ, i64_w, i32_w]
         rfl
        refine pure_ (i := 4) (N := some 37) (v := ?_) (a' := ?_) #[false, true, false, false, true, false, false] rfl rfl (by kernel_rfl) (fun _ _ _ h => h) (Or.inl ⟨by rfl, ?_⟩) ?_ ?_
        rotate_left
        ·intro w'
         go_simp
         with_reducible rfl
        rotate_left
        ·simp only [Act.put, List.setIfInBounds_toArray, List.set_cons_zero, List.set_cons_succ, i64_w, i32_w]
         rfl
        refine take_ (i := 0) (N := some 33) (v := ?_) (a' := ?_) #[true, true, false, false, true, false, false] rfl rfl (by kernel_rfl) (fun _ _ _ h => h) (Or.inl ⟨by rfl, ?_⟩) hHeld ?_ ?_
        rotate_left
        ·rintro w' ⟨s0, s1, s2, s3, s4, s5, s6, s7, s8, s9, s10, s11, s12, s13, s14, s15, s16, s17, s18, s19, s20, s21, s22, s23, s24, s25⟩
         go_simp
         with_reducible rfl
        rotate_left
        ·simp only [Act.put, List.setIfInBounds_toArray, List.set_cons_zero, List.set_cons_succ, i64_w, i32_w]
         rfl
        refine take_ (i := 3) (N := some 36) (v := ?_) (a' := ?_) #[true, true, false, true, true, false, false] rfl rfl (by kernel_rfl) (fun _ _ _ h => h) (Or.inl ⟨by rfl, ?_⟩) hHeld ?_ ?_
        rotate_left
        ·rintro w' ⟨s0, s1, s2, s3, s4, s5, s6, s7, s8, s9, s10, s11, s12, s13, s14, s15, s16, s17, s18, s19, s20, s21, s22, s23, s24, s25⟩
         go_simp
         with_reducible rfl
        rotate_left
        ·simp only [Act.put, List.setIfInBounds_toArray, List.set_cons_zero, List.set_cons_succ, i64_w, i32_w]
         rfl
        refine one_ (i := 2) (N := some 35) #[true, true, true, true, true, false, false] rfl rfl (by kernel_rfl) (by decide) (fun K hK => ?_)
        refine goes_ Try.func20 (by kernel_rfl) rfl #[.agg #[.int .i64 a0_0, .int .i64 a0_1, .int .i64 a0_2, .int .i64 a0_3, .int .i64 a0_4, .int .i64 a0_5, .int .i64 a0_6, .int .i64 a0_7, .int .i64 a0_8, .int .u64 a0_9, .int .u64 a0_10, .int .u64 a0_11, .int .u64 a0_12], .int .u64 a1_1] (by rfl) rfl rfl (by (try simp only [List.map_toArray, List.map_cons, List.map_nil]); first | done | rfl | (simp only [List.length_drop, List.length_take]; rfl)) ?_
        with_reducible refine (record_Sign.calls a0_0 a0_1 a0_2 a0_3 a0_4 a0_5 a0_6 a0_7 a0_8 a0_9 a0_10 a0_11 a0_12 a1_1 t291 _ A33.out).mono ?_
        rintro e w37 ⟨rfl, hb⟩
        refine ⟨_, rfl, ?_⟩
        have n0_ := Aside0.mk (blk_below (g := gb270) (o := .cells #[.int .i64 a0_0, .int .i64 a0_1, .int .i64 a0_2, .int .i64 a0_3, .int .i64 a0_4, .int .i64 a0_5, .int .i64 a0_6, .int .i64 a0_7, .int .i64 a0_8, .int .u64 a0_9, .int .u64 a0_10, .int .u64 a0_11, .int .u64 a0_12] 25 (0, 0)) (by (with_reducible repeat (first | refine blk_drewN ?_ _ | refine blk_drew ?_ | refine blk_alloc ?_ _)); exact BK270.out) hb)
        have n1_ := Aside0.mk (blk_below (g := gb271) (o := .cells #[.int .u64 a1_0, .int .u64 a1_1, .int .u64 a1_2, .int .u64 a1_3] 23 (0, 0)) (by (with_reducible repeat (first | refine blk_drewN ?_ _ | refine blk_drew ?_ | refine blk_alloc ?_ _)); exact BK271.out) hb)
        have n2_ := Aside0.mk (blk_below (g := gb286) (o := .cells #[.int .i64 t273, .int .i64 t274, .int .i64 t275, .int .i64 t276, .int .i64 t277, .int .i64 t278, .int .i64 t279, .int .i64 t280, .int .i64 t281, .int .u64 t282, .int .u64 t283, .int .u64 t284, .int .u64 t285] 25 (0, 0)) (by (with_reducible repeat (first | refine blk_drewN ?_ _ | refine blk_drew ?_ | refine blk_alloc ?_ _)); exact BK286.out) hb)
        have n3_ := Aside0.mk (below_step (by repeat (first | (with_reducible first | exact HB.out | apply below_alloc | apply pw_below_drewN | apply below_drew1 | refine below_set ?_ GE270.out | refine below_set ?_ GE271.out | refine below_set ?_ GE286.out) | exact HB.out)) hb)
        clear BK270
        clear BK271
        clear BK286
        clear HB
        have BK270 := n0_
        have BK271 := n1_
        have BK286 := n2_
        have HB := n3_
        clear n0_ n1_ n2_ n3_
        (try clear hb)
        (try clear hb2)
        (try clear hk)
        (try clear hi)
        refine hK.out _ _ ⟨(blk_cell BK270.out 0).trans rfl, (blk_cell BK270.out 1).trans rfl, (blk_cell BK270.out 2).trans rfl, (blk_cell BK270.out 3).trans rfl, (blk_cell BK270.out 4).trans rfl, (blk_cell BK270.out 5).trans rfl, (blk_cell BK270.out 6).trans rfl, (blk_cell BK270.out 7).trans rfl, (blk_cell BK270.out 8).trans rfl, (blk_cell BK270.out 9).trans rfl, (blk_cell BK270.out 10).trans rfl, (blk_cell BK270.out 11).trans rfl, (blk_cell BK270.out 12).trans rfl, (blk_cell BK286.out 0).trans rfl, (blk_cell BK286.out 1).trans rfl, (blk_cell BK286.out 2).trans rfl, (blk_cell BK286.out 3).trans rfl, (blk_cell BK286.out 4).trans rfl, (blk_cell BK286.out 5).trans rfl, (blk_cell BK286.out 6).trans rfl, (blk_cell BK286.out 7).trans rfl, (blk_cell BK286.out 8).trans rfl, (blk_cell BK286.out 9).trans rfl, (blk_cell BK286.out 10).trans rfl, (blk_cell BK286.out 11).trans rfl, (blk_cell BK286.out 12).trans rfl⟩ (fun hHeld => ?_)
        clear hK K
        refine norm_ (a' := ?_) ?_ ?_
        rotate_left
        ·show Act.put _ (some 35) _ = _
         simp only [Act.put, List.setIfInBounds_toArray, List.set_cons_zero, List.set_cons_succ, i64_w, i32_w]
         rfl
        refine one_ (i := 5) (N := some 38) #[true, true, true, true, true, true, false] rfl rfl (by kernel_rfl) (by decide) (fun K hK => ?_)
        refine goes_ Try.func20 (by kernel_rfl) rfl #[.agg #[.int .i64 t273, .int .i64 t274, .int .i64 t275, .int .i64 t276, .int .i64 t277, .int .i64 t278, .int .i64 t279, .int .i64 t280, .int .i64 t281, .int .u64 t282, .int .u64 t283, .int .u64 t284, .int .u64 t285], .int .u64 a1_1] (by rfl) rfl rfl (by (try simp only [List.map_toArray, List.map_cons, List.map_nil]); first | done | rfl | (simp only [List.length_drop, List.length_take]; rfl)) ?_
        with_reducible refine (record_Sign.calls t273 t274 t275 t276 t277 t278 t279 t280 t281 t282 t283 t284 t285 a1_1 t292 _ A34.out).mono ?_
        rintro e w38 ⟨rfl, hb⟩
        refine ⟨_, rfl, ?_⟩
        have n0_ := Aside0.mk (blk_below (g := gb270) (o := .cells #[.int .i64 a0_0, .int .i64 a0_1, .int .i64 a0_2, .int .i64 a0_3, .int .i64 a0_4, .int .i64 a0_5, .int .i64 a0_6, .int .i64 a0_7, .int .i64 a0_8, .int .u64 a0_9, .int .u64 a0_10, .int .u64 a0_11, .int .u64 a0_12] 25 (0, 0)) (by (with_reducible repeat (first | refine blk_drewN ?_ _ | refine blk_drew ?_ | refine blk_alloc ?_ _)); exact BK270.out) hb)
        have n1_ := Aside0.mk (blk_below (g := gb271) (o := .cells #[.int .u64 a1_0, .int .u64 a1_1, .int .u64 a1_2, .int .u64 a1_3] 23 (0, 0)) (by (with_reducible repeat (first | refine blk_drewN ?_ _ | refine blk_drew ?_ | refine blk_alloc ?_ _)); exact BK271.out) hb)
        have n2_ := Aside0.mk (blk_below (g := gb286) (o := .cells #[.int .i64 t273, .int .i64 t274, .int .i64 t275, .int .i64 t276, .int .i64 t277, .int .i64 t278, .int .i64 t279, .int .i64 t280, .int .i64 t281, .int .u64 t282, .int .u64 t283, .int .u64 t284, .int .u64 t285] 25 (0, 0)) (by (with_reducible repeat (first | refine blk_drewN ?_ _ | refine blk_drew ?_ | refine blk_alloc ?_ _)); exact BK286.out) hb)
        have n3_ := Aside0.mk (below_step (by repeat (first | (with_reducible first | exact HB.out | apply below_alloc | apply pw_below_drewN | apply below_drew1 | refine below_set ?_ GE270.out | refine below_set ?_ GE271.out | refine below_set ?_ GE286.out) | exact HB.out)) hb)
        clear BK270
        clear BK271
        clear BK286
        clear HB
        have BK270 := n0_
        have BK271 := n1_
        have BK286 := n2_
        have HB := n3_
        clear n0_ n1_ n2_ n3_
        (try clear hb)
        (try clear hb2)
        (try clear hk)
        (try clear hi)
        refine hK.out _ _ ⟨(blk_cell BK270.out 0).trans rfl, (blk_cell BK270.out 1).trans rfl, (blk_cell BK270.out 2).trans rfl, (blk_cell BK270.out 3).trans rfl, (blk_cell BK270.out 4).trans rfl, (blk_cell BK270.out 5).trans rfl, (blk_cell BK270.out 6).trans rfl, (blk_cell BK270.out 7).trans rfl, (blk_cell BK270.out 8).trans rfl, (blk_cell BK270.out 9).trans rfl, (blk_cell BK270.out 10).trans rfl, (blk_cell BK270.out 11).trans rfl, (blk_cell BK270.out 12).trans rfl, (blk_cell BK286.out 0).trans rfl, (blk_cell BK286.out 1).trans rfl, (blk_cell BK286.out 2).trans rfl, (blk_cell BK286.out 3).trans rfl, (blk_cell BK286.out 4).trans rfl, (blk_cell BK286.out 5).trans rfl, (blk_cell BK286.out 6).trans rfl, (blk_cell BK286.out 7).trans rfl, (blk_cell BK286.out 8).trans rfl, (blk_cell BK286.out 9).trans rfl, (blk_cell BK286.out 10).trans rfl, (blk_cell BK286.out 11).trans rfl, (blk_cell BK286.out 12).trans rfl⟩ (fun hHeld => ?_)
        clear hK K
        refine norm_ (a' := ?_) ?_ ?_
        rotate_left
        ·show Act.put _ (some 38) _ = _
         simp only [Act.put, List.setIfInBounds_toArray, List.set_cons_zero, List.set_cons_succ, i64_w, i32_w]
         rfl
        refine pure_ (i := 6) (N := some 39) (v := ?_) (a' := ?_) #[true, true, true, true, true, true, true] rfl rfl (by kernel_rfl) (fun _ _ _ h => h) (Or.inl ⟨by rfl, ?_⟩) ?_ ?_
        rotate_left
        ·intro w'
         go_simp
         with_reducible rfl
        rotate_left
        ·simp only [Act.put, List.setIfInBounds_toArray, List.set_cons_zero, List.set_cons_succ, i64_w, i32_w]
         rfl
        refine done_ (by kernel_rfl) ?_
        try go_wp2
        go_roundg k1
        case measure => have := HK1.out; omega
        case rel => exact ⟨(wrap64 (1 + 1)), (by first | rfl | (simp; done) | (simp [*]; done) | kernel_rfl), H', ⟨by have := HK1.out; omega⟩, ⟨by (with_reducible repeat (first | refine blk_drewN ?_ _ | refine blk_drew ?_ | refine blk_alloc ?_ _)); exact BK270.out⟩, ⟨by (with_reducible repeat (first | refine blk_drewN ?_ _ | refine blk_drew ?_ | refine blk_alloc ?_ _)); exact BK271.out⟩, ⟨by (with_reducible repeat (first | refine blk_drewN ?_ _ | refine blk_drew ?_ | refine blk_alloc ?_ _)); exact BK286.out⟩, ⟨by repeat (first | (with_reducible first | exact HB.out | apply below_alloc | apply pw_below_drewN | apply below_drew1 | refine below_set ?_ GE270.out | refine below_set ?_ GE271.out | refine below_set ?_ GE286.out) | exact HB.out)⟩⟩
      ·rw [if_neg c32] at H
       clear c32
       by_cases c39 : x30_1 = 2
       ·rw [if_pos c39] at H
        subst c39
        replace H : ((record_Sign.f a0_0 a0_1 a0_2 a0_3 a0_4 a0_5 a0_6 a0_7 a0_8 a0_9 a0_10 a0_11 a0_12 a1_2).bind fun t293 => ((record_Sign.f t273 t274 t275 t276 t277 t278 t279 t280 t281 t282 t283 t284 t285 a1_2).bind fun t294 => (if t293 = t294 then (some false) else (chargeparklaw41_RecordChanged.l0 k1 t272 (wrap64 (2 + 1)) a0_0 a0_1 a0_2 a0_3 a0_4 a0_5 a0_6 a0_7 a0_8 a0_9 a0_10 a0_11 a0_12 a1_0 a1_1 a1_2 a1_3 t273 t274 t275 t276 t277 t278 t279 t280 t281 t282 t283 t284 t285)))) = some r := H
        replace H := Option.bind_eq_some_iff.mp H
        obtain ⟨t293, A400, H⟩ := H
        replace H : ((record_Sign.f t273 t274 t275 t276 t277 t278 t279 t280 t281 t282 t283 t284 t285 a1_2).bind fun t294 => (if t293 = t294 then (some false) else (chargeparklaw41_RecordChanged.l0 k1 t272 (wrap64 (2 + 1)) a0_0 a0_1 a0_2 a0_3 a0_4 a0_5 a0_6 a0_7 a0_8 a0_9 a0_10 a0_11 a0_12 a1_0 a1_1 a1_2 a1_3 t273 t274 t275 t276 t277 t278 t279 t280 t281 t282 t283 t284 t285))) = some r := H
        have A40 := Aside0.mk A400
        clear A400
        replace H := Option.bind_eq_some_iff.mp H
        obtain ⟨t294, A410, H⟩ := H
        replace H : (if t293 = t294 then (some false) else (chargeparklaw41_RecordChanged.l0 k1 t272 (wrap64 (2 + 1)) a0_0 a0_1 a0_2 a0_3 a0_4 a0_5 a0_6 a0_7 a0_8 a0_9 a0_10 a0_11 a0_12 a1_0 a1_1 a1_2 a1_3 t273 t274 t275 t276 t277 t278 t279 t280 t281 t282 t283 t284 t285)) = some r := H
        have A41 := Aside0.mk A410
        clear A410
        by_cases c42 : t293 = t294
        ·rw [if_pos c42] at H
         have c42b0 : (t293 == t294) = true := beq_iff_eq.mpr c42
         have c42b1 : (t293 != t294) = false := bne_eq_false_iff_eq.mpr c42
         clear c42
         exact absurd ((Option.some.inj H).trans hT_.out) (by decide)
        ·rw [if_neg c42] at H
         have c42b0 : (t293 == t294) = false := beq_eq_false_iff_ne.mpr c42
         have c42b1 : (t293 != t294) = true := bne_iff_ne.mpr c42
         have H' := Aside0.mk H
         clear H
         try go_wp2
         have n0_ := Aside0.mk (blk_drew BK270.out)
         have n1_ := Aside0.mk (blk_drew BK271.out)
         have n2_ := Aside0.mk (blk_drew BK286.out)
         have n3_ := Aside0.mk (below_drew1 HB.out)
         clear BK270
         clear BK271
         clear BK286
         clear HB
         have BK270 := n0_
         have BK271 := n1_
         have BK286 := n2_
         have HB := n3_
         clear n0_ n1_ n2_ n3_
         refine start_ (n := 7) (S := fun w' => w'.cell? ⟨gb270, 0, none⟩ = some (.int .i64 a0_0) ∧ w'.cell? ⟨gb270, 1, none⟩ = some (.int .i64 a0_1) ∧ w'.cell? ⟨gb270, 2, none⟩ = some (.int .i64 a0_2) ∧ w'.cell? ⟨gb270, 3, none⟩ = some (.int .i64 a0_3) ∧ w'.cell? ⟨gb270, 4, none⟩ = some (.int .i64 a0_4) ∧ w'.cell? ⟨gb270, 5, none⟩ = some (.int .i64 a0_5) ∧ w'.cell? ⟨gb270, 6, none⟩ = some (.int .i64 a0_6) ∧ w'.cell? ⟨gb270, 7, none⟩ = some (.int .i64 a0_7) ∧ w'.cell? ⟨gb270, 8, none⟩ = some (.int .i64 a0_8) ∧ w'.cell? ⟨gb270, 9, none⟩ = some (.int .u64 a0_9) ∧ w'.cell? ⟨gb270, 10, none⟩ = some (.int .u64 a0_10) ∧ w'.cell? ⟨gb270, 11, none⟩ = some (.int .u64 a0_11) ∧ w'.cell? ⟨gb270, 12, none⟩ = some (.int .u64 a0_12) ∧ w'.cell? ⟨gb286, 0, none⟩ = some (.int .i64 t273) ∧ w'.cell? ⟨gb286, 1, none⟩ = some (.int .i64 t274) ∧ w'.cell? ⟨gb286, 2, none⟩ = some (.int .i64 t275) ∧ w'.cell? ⟨gb286, 3, none⟩ = some (.int .i64 t276) ∧ w'.cell? ⟨gb286, 4, none⟩ = some (.int .i64 t277) ∧ w'.cell? ⟨gb286, 5, none⟩ = some (.int .i64 t278) ∧ w'.cell? ⟨gb286, 6, none⟩ = some (.int .i64 t279) ∧ w'.cell? ⟨gb286, 7, none⟩ = some (.int .i64 t280) ∧ w'.cell? ⟨gb286, 8, none⟩ = some (.int .i64 t281) ∧ w'.cell? ⟨gb286, 9, none⟩ = some (.int .u64 t282) ∧ w'.cell? ⟨gb286, 10, none⟩ = some (.int .u64 t283) ∧ w'.cell? ⟨gb286, 11, none⟩ = some (.int .u64 t284) ∧ w'.cell? ⟨gb286, 12, none⟩ = some (.int .u64 t285)) (ds := []) #[false, false, false, false, false, false, false] (by kernel_rfl) rfl rfl ⟨(blk_cell BK270.out 0).trans rfl, (blk_cell BK270.out 1).trans rfl, (blk_cell BK270.out 2).trans rfl, (blk_cell BK270.out 3).trans rfl, (blk_cell BK270.out 4).trans rfl, (blk_cell BK270.out 5).trans rfl, (blk_cell BK270.out 6).trans rfl, (blk_cell BK270.out 7).trans rfl, (blk_cell BK270.out 8).trans rfl, (blk_cell BK270.out 9).trans rfl, (blk_cell BK270.out 10).trans rfl, (blk_cell BK270.out 11).trans rfl, (blk_cell BK270.out 12).trans rfl, (blk_cell BK286.out 0).trans rfl, (blk_cell BK286.out 1).trans rfl, (blk_cell BK286.out 2).trans rfl, (blk_cell BK286.out 3).trans rfl, (blk_cell BK286.out 4).trans rfl, (blk_cell BK286.out 5).trans rfl, (blk_cell BK286.out 6).trans rfl, (blk_cell BK286.out 7).trans rfl, (blk_cell BK286.out 8).trans rfl, (blk_cell BK286.out 9).trans rfl, (blk_cell BK286.out 10).trans rfl, (blk_cell BK286.out 11).trans rfl, (blk_cell BK286.out 12).trans rfl⟩ (fun hHeld => ?_)
         generalize wr.drew = w43 at BK270 BK271 BK286 HB hHeld ⊢
         refine pure_ (i := 1) (N := some 34) (v := ?_) (a' := ?_) #[false, true, false, false, false, false, false] rfl rfl (by kernel_rfl) (fun _ _ _ h => h) (Or.inl ⟨by rfl, ?_⟩) ?_ ?_
         rotate_left
         ·intro w'
          go_simp
          with_reducible rfl
         rotate_left
         ·simp only [Act.put, List.setIfInBounds_toArray, List.set_cons_zero, List.set_cons_succ, i64_w, i32_w]
          rfl
         refine pure_ (i := 4) (N := some 37) (v := ?_) (a' := ?_) #[false, true, false, false, true, false, false] rfl rfl (by kernel_rfl) (fun _ _ _ h => h) (Or.inl ⟨by rfl, ?_⟩) ?_ ?_
         rotate_left
         ·intro w'
          go_simp
          with_reducible rfl
         rotate_left
         ·simp only [Act.put, List.setIfInBounds_toArray, List.set_cons_zero, List.set_cons_succ, i64_w, i32_w]
          rfl
         refine take_ (i := 0) (N := some 33) (v := ?_) (a' := ?_) #[true, true, false, false, true, false, false] rfl rfl (by kernel_rfl) (fun _ _ _ h => h) (Or.inl ⟨by rfl, ?_⟩) hHeld ?_ ?_
         rotate_left
         ·rintro w' ⟨s0, s1, s2, s3, s4, s5, s6, s7, s8, s9, s10, s11, s12, s13, s14, s15, s16, s17, s18, s19, s20, s21, s22, s23, s24, s25⟩
          go_simp
          with_reducible rfl
         rotate_left
         ·simp only [Act.put, List.setIfInBounds_toArray, List.set_cons_zero, List.set_cons_succ, i64_w, i32_w]
          rfl
         refine take_ (i := 3) (N := some 36) (v := ?_) (a' := ?_) #[true, true, false, true, true, false, false] rfl rfl (by kernel_rfl) (fun _ _ _ h => h) (Or.inl ⟨by rfl, ?_⟩) hHeld ?_ ?_
         rotate_left
         ·rintro w' ⟨s0, s1, s2, s3, s4, s5, s6, s7, s8, s9, s10, s11, s12, s13, s14, s15, s16, s17, s18, s19, s20, s21, s22, s23, s24, s25⟩
          go_simp
          with_reducible rfl
         rotate_left
         ·simp only [Act.put, List.setIfInBounds_toArray, List.set_cons_zero, List.set_cons_succ, i64_w, i32_w]
          rfl
         refine one_ (i := 2) (N := some 35) #[true, true, true, true, true, false, false] rfl rfl (by kernel_rfl) (by decide) (fun K hK => ?_)
         refine goes_ Try.func20 (by kernel_rfl) rfl #[.agg #[.int .i64 a0_0, .int .i64 a0_1, .int .i64 a0_2, .int .i64 a0_3, .int .i64 a0_4, .int .i64 a0_5, .int .i64 a0_6, .int .i64 a0_7, .int .i64 a0_8, .int .u64 a0_9, .int .u64 a0_10, .int .u64 a0_11, .int .u64 a0_12], .int .u64 a1_2] (by rfl) rfl rfl (by (try simp only [List.map_toArray, List.map_cons, List.map_nil]); first | done | rfl | (simp only [List.length_drop, List.length_take]; rfl)) ?_
         with_reducible refine (record_Sign.calls a0_0 a0_1 a0_2 a0_3 a0_4 a0_5 a0_6 a0_7 a0_8 a0_9 a0_10 a0_11 a0_12 a1_2 t293 _ A40.out).mono ?_
         rintro e w44 ⟨rfl, hb⟩
         refine ⟨_, rfl, ?_⟩
         have n0_ := Aside0.mk (blk_below (g := gb270) (o := .cells #[.int .i64 a0_0, .int .i64 a0_1, .int .i64 a0_2, .int .i64 a0_3, .int .i64 a0_4, .int .i64 a0_5, .int .i64 a0_6, .int .i64 a0_7, .int .i64 a0_8, .int .u64 a0_9, .int .u64 a0_10, .int .u64 a0_11, .int .u64 a0_12] 25 (0, 0)) (by (with_reducible repeat (first | refine blk_drewN ?_ _ | refine blk_drew ?_ | refine blk_alloc ?_ _)); exact BK270.out) hb)
         have n1_ := Aside0.mk (blk_below (g := gb271) (o := .cells #[.int .u64 a1_0, .int .u64 a1_1, .int .u64 a1_2, .int .u64 a1_3] 23 (0, 0)) (by (with_reducible repeat (first | refine blk_drewN ?_ _ | refine blk_drew ?_ | refine blk_alloc ?_ _)); exact BK271.out) hb)
         have n2_ := Aside0.mk (blk_below (g := gb286) (o := .cells #[.int .i64 t273, .int .i64 t274, .int .i64 t275, .int .i64 t276, .int .i64 t277, .int .i64 t278, .int .i64 t279, .int .i64 t280, .int .i64 t281, .int .u64 t282, .int .u64 t283, .int .u64 t284, .int .u64 t285] 25 (0, 0)) (by (with_reducible repeat (first | refine blk_drewN ?_ _ | refine blk_drew ?_ | refine blk_alloc ?_ _)); exact BK286.out) hb)
         have n3_ := Aside0.mk (below_step (by repeat (first | (with_reducible first | exact HB.out | apply below_alloc | apply pw_below_drewN | apply below_drew1 | refine below_set ?_ GE270.out | refine below_set ?_ GE271.out | refine below_set ?_ GE286.out) | exact HB.out)) hb)
         clear BK270
         clear BK271
         clear BK286
         clear HB
         have BK270 := n0_
         have BK271 := n1_
         have BK286 := n2_
         have HB := n3_
         clear n0_ n1_ n2_ n3_
         (try clear hb)
         (try clear hb2)
         (try clear hk)
         (try clear hi)
         refine hK.out _ _ ⟨(blk_cell BK270.out 0).trans rfl, (blk_cell BK270.out 1).trans rfl, (blk_cell BK270.out 2).trans rfl, (blk_cell BK270.out 3).trans rfl, (blk_cell BK270.out 4).trans rfl, (blk_cell BK270.out 5).trans rfl, (blk_cell BK270.out 6).trans rfl, (blk_cell BK270.out 7).trans rfl, (blk_cell BK270.out 8).trans rfl, (blk_cell BK270.out 9).trans rfl, (blk_cell BK270.out 10).trans rfl, (blk_cell BK270.out 11).trans rfl, (blk_cell BK270.out 12).trans rfl, (blk_cell BK286.out 0).trans rfl, (blk_cell BK286.out 1).trans rfl, (blk_cell BK286.out 2).trans rfl, (blk_cell BK286.out 3).trans rfl, (blk_cell BK286.out 4).trans rfl, (blk_cell BK286.out 5).trans rfl, (blk_cell BK286.out 6).trans rfl, (blk_cell BK286.out 7).trans rfl, (blk_cell BK286.out 8).trans rfl, (blk_cell BK286.out 9).trans rfl, (blk_cell BK286.out 10).trans rfl, (blk_cell BK286.out 11).trans rfl, (blk_cell BK286.out 12).trans rfl⟩ (fun hHeld => ?_)
         clear hK K
         refine norm_ (a' := ?_) ?_ ?_
         rotate_left
         ·show Act.put _ (some 35) _ = _
          simp only [Act.put, List.setIfInBounds_toArray, List.set_cons_zero, List.set_cons_succ, i64_w, i32_w]
          rfl
         refine one_ (i := 5) (N := some 38) #[true, true, true, true, true, true, false] rfl rfl (by kernel_rfl) (by decide) (fun K hK => ?_)
         refine goes_ Try.func20 (by kernel_rfl) rfl #[.agg #[.int .i64 t273, .int .i64 t274, .int .i64 t275, .int .i64 t276, .int .i64 t277, .int .i64 t278, .int .i64 t279, .int .i64 t280, .int .i64 t281, .int .u64 t282, .int .u64 t283, .int .u64 t284, .int .u64 t285], .int .u64 a1_2] (by rfl) rfl rfl (by (try simp only [List.map_toArray, List.map_cons, List.map_nil]); first | done | rfl | (simp only [List.length_drop, List.length_take]; rfl)) ?_
         with_reducible refine (record_Sign.calls t273 t274 t275 t276 t277 t278 t279 t280 t281 t282 t283 t284 t285 a1_2 t294 _ A41.out).mono ?_
         rintro e w45 ⟨rfl, hb⟩
         refine ⟨_, rfl, ?_⟩
         have n0_ := Aside0.mk (blk_below (g := gb270) (o := .cells #[.int .i64 a0_0, .int .i64 a0_1, .int .i64 a0_2, .int .i64 a0_3, .int .i64 a0_4, .int .i64 a0_5, .int .i64 a0_6, .int .i64 a0_7, .int .i64 a0_8, .int .u64 a0_9, .int .u64 a0_10, .int .u64 a0_11, .int .u64 a0_12] 25 (0, 0)) (by (with_reducible repeat (first | refine blk_drewN ?_ _ | refine blk_drew ?_ | refine blk_alloc ?_ _)); exact BK270.out) hb)
         have n1_ := Aside0.mk (blk_below (g := gb271) (o := .cells #[.int .u64 a1_0, .int .u64 a1_1, .int .u64 a1_2, .int .u64 a1_3] 23 (0, 0)) (by (with_reducible repeat (first | refine blk_drewN ?_ _ | refine blk_drew ?_ | refine blk_alloc ?_ _)); exact BK271.out) hb)
         have n2_ := Aside0.mk (blk_below (g := gb286) (o := .cells #[.int .i64 t273, .int .i64 t274, .int .i64 t275, .int .i64 t276, .int .i64 t277, .int .i64 t278, .int .i64 t279, .int .i64 t280, .int .i64 t281, .int .u64 t282, .int .u64 t283, .int .u64 t284, .int .u64 t285] 25 (0, 0)) (by (with_reducible repeat (first | refine blk_drewN ?_ _ | refine blk_drew ?_ | refine blk_alloc ?_ _)); exact BK286.out) hb)
         have n3_ := Aside0.mk (below_step (by repeat (first | (with_reducible first | exact HB.out | apply below_alloc | apply pw_below_drewN | apply below_drew1 | refine below_set ?_ GE270.out | refine below_set ?_ GE271.out | refine below_set ?_ GE286.out) | exact HB.out)) hb)
         clear BK270
         clear BK271
         clear BK286
         clear HB
         have BK270 := n0_
         have BK271 := n1_
         have BK286 := n2_
         have HB := n3_
         clear n0_ n1_ n2_ n3_
         (try clear hb)
         (try clear hb2)
         (try clear hk)
         (try clear hi)
         refine hK.out _ _ ⟨(blk_cell BK270.out 0).trans rfl, (blk_cell BK270.out 1).trans rfl, (blk_cell BK270.out 2).trans rfl, (blk_cell BK270.out 3).trans rfl, (blk_cell BK270.out 4).trans rfl, (blk_cell BK270.out 5).trans rfl, (blk_cell BK270.out 6).trans rfl, (blk_cell BK270.out 7).trans rfl, (blk_cell BK270.out 8).trans rfl, (blk_cell BK270.out 9).trans rfl, (blk_cell BK270.out 10).trans rfl, (blk_cell BK270.out 11).trans rfl, (blk_cell BK270.out 12).trans rfl, (blk_cell BK286.out 0).trans rfl, (blk_cell BK286.out 1).trans rfl, (blk_cell BK286.out 2).trans rfl, (blk_cell BK286.out 3).trans rfl, (blk_cell BK286.out 4).trans rfl, (blk_cell BK286.out 5).trans rfl, (blk_cell BK286.out 6).trans rfl, (blk_cell BK286.out 7).trans rfl, (blk_cell BK286.out 8).trans rfl, (blk_cell BK286.out 9).trans rfl, (blk_cell BK286.out 10).trans rfl, (blk_cell BK286.out 11).trans rfl, (blk_cell BK286.out 12).trans rfl⟩ (fun hHeld => ?_)
         clear hK K
         refine norm_ (a' := ?_) ?_ ?_
         rotate_left
         ·show Act.put _ (some 38) _ = _
          simp only [Act.put, List.setIfInBounds_toArray, List.set_cons_zero, List.set_cons_succ, i64_w, i32_w]
          rfl
         refine pure_ (i := 6) (N := some 39) (v := ?_) (a' := ?_) #[true, true, true, true, true, true, true] rfl rfl (by kernel_rfl) (fun _ _ _ h => h) (Or.inl ⟨by rfl, ?_⟩) ?_ ?_
         rotate_left
         ·intro w'
          go_simp
          with_reducible rfl
         rotate_left
         ·simp only [Act.put, List.setIfInBounds_toArray, List.set_cons_zero, List.set_cons_succ, i64_w, i32_w]
          rfl
         refine done_ (by kernel_rfl) ?_
         try go_wp2
         go_roundg k1
         case measure => have := HK1.out; omega
         case rel => exact ⟨(wrap64 (2 + 1)), (by first | rfl | (simp; done) | (simp [*]; done) | kernel_rfl), H', ⟨by have := HK1.out; omega⟩, ⟨by (with_reducible repeat (first | refine blk_drewN ?_ _ | refine blk_drew ?_ | refine blk_alloc ?_ _)); exact BK270.out⟩, ⟨by (with_reducible repeat (first | refine blk_drewN ?_ _ | refine blk_drew ?_ | refine blk_alloc ?_ _)); exact BK271.out⟩, ⟨by (with_reducible repeat (first | refine blk_drewN ?_ _ | refine blk_drew ?_ | refine blk_alloc ?_ _)); exact BK286.out⟩, ⟨by repeat (first | (with_reducible first | exact HB.out | apply below_alloc | apply pw_below_drewN | apply below_drew1 | refine below_set ?_ GE270.out | refine below_set ?_ GE271.out | refine below_set ?_ GE286.out) | exact HB.out)⟩⟩
       ·rw [if_neg c39] at H
        clear c39
        by_cases c46 : x30_1 = 3
        ·rw [if_pos c46] at H
         subst c46
         replace H : ((record_Sign.f a0_0 a0_1 a0_2 a0_3 a0_4 a0_5 a0_6 a0_7 a0_8 a0_9 a0_10 a0_11 a0_12 a1_3).bind fun t295 => ((record_Sign.f t273 t274 t275 t276 t277 t278 t279 t280 t281 t282 t283 t284 t285 a1_3).bind fun t296 => (if t295 = t296 then (some false) else (chargeparklaw41_RecordChanged.l0 k1 t272 (wrap64 (3 + 1)) a0_0 a0_1 a0_2 a0_3 a0_4 a0_5 a0_6 a0_7 a0_8 a0_9 a0_10 a0_11 a0_12 a1_0 a1_1 a1_2 a1_3 t273 t274 t275 t276 t277 t278 t279 t280 t281 t282 t283 t284 t285)))) = some r := H
         replace H := Option.bind_eq_some_iff.mp H
         obtain ⟨t295, A470, H⟩ := H
         replace H : ((record_Sign.f t273 t274 t275 t276 t277 t278 t279 t280 t281 t282 t283 t284 t285 a1_3).bind fun t296 => (if t295 = t296 then (some false) else (chargeparklaw41_RecordChanged.l0 k1 t272 (wrap64 (3 + 1)) a0_0 a0_1 a0_2 a0_3 a0_4 a0_5 a0_6 a0_7 a0_8 a0_9 a0_10 a0_11 a0_12 a1_0 a1_1 a1_2 a1_3 t273 t274 t275 t276 t277 t278 t279 t280 t281 t282 t283 t284 t285))) = some r := H
         have A47 := Aside0.mk A470
         clear A470
         replace H := Option.bind_eq_some_iff.mp H
         obtain ⟨t296, A480, H⟩ := H
         replace H : (if t295 = t296 then (some false) else (chargeparklaw41_RecordChanged.l0 k1 t272 (wrap64 (3 + 1)) a0_0 a0_1 a0_2 a0_3 a0_4 a0_5 a0_6 a0_7 a0_8 a0_9 a0_10 a0_11 a0_12 a1_0 a1_1 a1_2 a1_3 t273 t274 t275 t276 t277 t278 t279 t280 t281 t282 t283 t284 t285)) = some r := H
         have A48 := Aside0.mk A480
         clear A480
         by_cases c49 : t295 = t296
         ·rw [if_pos c49] at H
          have c49b0 : (t295 == t296) = true := beq_iff_eq.mpr c49
          have c49b1 : (t295 != t296) = false := bne_eq_false_iff_eq.mpr c49
          clear c49
          exact absurd ((Option.some.inj H).trans hT_.out) (by decide)
         ·rw [if_neg c49] at H
          have c49b0 : (t295 == t296) = false := beq_eq_false_iff_ne.mpr c49
          have c49b1 : (t295 != t296) = true := bne_iff_ne.mpr c49
          have H' := Aside0.mk H
          clear H
          try go_wp2
          have n0_ := Aside0.mk (blk_drew BK270.out)
          have n1_ := Aside0.mk (blk_drew BK271.out)
          have n2_ := Aside0.mk (blk_drew BK286.out)
          have n3_ := Aside0.mk (below_drew1 HB.out)
          clear BK270
          clear BK271
          clear BK286
          clear HB
          have BK270 := n0_
          have BK271 := n1_
          have BK286 := n2_
          have HB := n3_
          clear n0_ n1_ n2_ n3_
          refine start_ (n := 7) (S := fun w' => w'.cell? ⟨gb270, 0, none⟩ = some (.int .i64 a0_0) ∧ w'.cell? ⟨gb270, 1, none⟩ = some (.int .i64 a0_1) ∧ w'.cell? ⟨gb270, 2, none⟩ = some (.int .i64 a0_2) ∧ w'.cell? ⟨gb270, 3, none⟩ = some (.int .i64 a0_3) ∧ w'.cell? ⟨gb270, 4, none⟩ = some (.int .i64 a0_4) ∧ w'.cell? ⟨gb270, 5, none⟩ = some (.int .i64 a0_5) ∧ w'.cell? ⟨gb270, 6, none⟩ = some (.int .i64 a0_6) ∧ w'.cell? ⟨gb270, 7, none⟩ = some (.int .i64 a0_7) ∧ w'.cell? ⟨gb270, 8, none⟩ = some (.int .i64 a0_8) ∧ w'.cell? ⟨gb270, 9, none⟩ = some (.int .u64 a0_9) ∧ w'.cell? ⟨gb270, 10, none⟩ = some (.int .u64 a0_10) ∧ w'.cell? ⟨gb270, 11, none⟩ = some (.int .u64 a0_11) ∧ w'.cell? ⟨gb270, 12, none⟩ = some (.int .u64 a0_12) ∧ w'.cell? ⟨gb286, 0, none⟩ = some (.int .i64 t273) ∧ w'.cell? ⟨gb286, 1, none⟩ = some (.int .i64 t274) ∧ w'.cell? ⟨gb286, 2, none⟩ = some (.int .i64 t275) ∧ w'.cell? ⟨gb286, 3, none⟩ = some (.int .i64 t276) ∧ w'.cell? ⟨gb286, 4, none⟩ = some (.int .i64 t277) ∧ w'.cell? ⟨gb286, 5, none⟩ = some (.int .i64 t278) ∧ w'.cell? ⟨gb286, 6, none⟩ = some (.int .i64 t279) ∧ w'.cell? ⟨gb286, 7, none⟩ = some (.int .i64 t280) ∧ w'.cell? ⟨gb286, 8, none⟩ = some (.int .i64 t281) ∧ w'.cell? ⟨gb286, 9, none⟩ = some (.int .u64 t282) ∧ w'.cell? ⟨gb286, 10, none⟩ = some (.int .u64 t283) ∧ w'.cell? ⟨gb286, 11, none⟩ = some (.int .u64 t284) ∧ w'.cell? ⟨gb286, 12, none⟩ = some (.int .u64 t285)) (ds := []) #[false, false, false, false, false, false, false] (by kernel_rfl) rfl rfl ⟨(blk_cell BK270.out 0).trans rfl, (blk_cell BK270.out 1).trans rfl, (blk_cell BK270.out 2).trans rfl, (blk_cell BK270.out 3).trans rfl, (blk_cell BK270.out 4).trans rfl, (blk_cell BK270.out 5).trans rfl, (blk_cell BK270.out 6).trans rfl, (blk_cell BK270.out 7).trans rfl, (blk_cell BK270.out 8).trans rfl, (blk_cell BK270.out 9).trans rfl, (blk_cell BK270.out 10).trans rfl, (blk_cell BK270.out 11).trans rfl, (blk_cell BK270.out 12).trans rfl, (blk_cell BK286.out 0).trans rfl, (blk_cell BK286.out 1).trans rfl, (blk_cell BK286.out 2).trans rfl, (blk_cell BK286.out 3).trans rfl, (blk_cell BK286.out 4).trans rfl, (blk_cell BK286.out 5).trans rfl, (blk_cell BK286.out 6).trans rfl, (blk_cell BK286.out 7).trans rfl, (blk_cell BK286.out 8).trans rfl, (blk_cell BK286.out 9).trans rfl, (blk_cell BK286.out 10).trans rfl, (blk_cell BK286.out 11).trans rfl, (blk_cell BK286.out 12).trans rfl⟩ (fun hHeld => ?_)
          generalize wr.drew = w50 at BK270 BK271 BK286 HB hHeld ⊢
          refine pure_ (i := 1) (N := some 34) (v := ?_) (a' := ?_) #[false, true, false, false, false, false, false] rfl rfl (by kernel_rfl) (fun _ _ _ h => h) (Or.inl ⟨by rfl, ?_⟩) ?_ ?_
          rotate_left
          ·intro w'
           go_simp
           with_reducible rfl
          rotate_left
          ·simp only [Act.put, List.setIfInBounds_toArray, List.set_cons_zero, List.set_cons_succ, i64_w, i32_w]
           rfl
          refine pure_ (i := 4) (N := some 37) (v := ?_) (a' := ?_) #[false, true, false, false, true, false, false] rfl rfl (by kernel_rfl) (fun _ _ _ h => h) (Or.inl ⟨by rfl, ?_⟩) ?_ ?_
          rotate_left
          ·intro w'
           go_simp
           with_reducible rfl
          rotate_left
          ·simp only [Act.put, List.setIfInBounds_toArray, List.set_cons_zero, List.set_cons_succ, i64_w, i32_w]
           rfl
          refine take_ (i := 0) (N := some 33) (v := ?_) (a' := ?_) #[true, true, false, false, true, false, false] rfl rfl (by kernel_rfl) (fun _ _ _ h => h) (Or.inl ⟨by rfl, ?_⟩) hHeld ?_ ?_
          rotate_left
          ·rintro w' ⟨s0, s1, s2, s3, s4, s5, s6, s7, s8, s9, s10, s11, s12, s13, s14, s15, s16, s17, s18, s19, s20, s21, s22, s23, s24, s25⟩
           go_simp
           with_reducible rfl
          rotate_left
          ·simp only [Act.put, List.setIfInBounds_toArray, List.set_cons_zero, List.set_cons_succ, i64_w, i32_w]
           rfl
          refine take_ (i := 3) (N := some 36) (v := ?_) (a' := ?_) #[true, true, false, true, true, false, false] rfl rfl (by kernel_rfl) (fun _ _ _ h => h) (Or.inl ⟨by rfl, ?_⟩) hHeld ?_ ?_
          rotate_left
          ·rintro w' ⟨s0, s1, s2, s3, s4, s5, s6, s7, s8, s9, s10, s11, s12, s13, s14, s15, s16, s17, s18, s19, s20, s21, s22, s23, s24, s25⟩
           go_simp
           with_reducible rfl
          rotate_left
          ·simp only [Act.put, List.setIfInBounds_toArray, List.set_cons_zero, List.set_cons_succ, i64_w, i32_w]
           rfl
          refine one_ (i := 2) (N := some 35) #[true, true, true, true, true, false, false] rfl rfl (by kernel_rfl) (by decide) (fun K hK => ?_)
          refine goes_ Try.func20 (by kernel_rfl) rfl #[.agg #[.int .i64 a0_0, .int .i64 a0_1, .int .i64 a0_2, .int .i64 a0_3, .int .i64 a0_4, .int .i64 a0_5, .int .i64 a0_6, .int .i64 a0_7, .int .i64 a0_8, .int .u64 a0_9, .int .u64 a0_10, .int .u64 a0_11, .int .u64 a0_12], .int .u64 a1_3] (by rfl) rfl rfl (by (try simp only [List.map_toArray, List.map_cons, List.map_nil]); first | done | rfl | (simp only [List.length_drop, List.length_take]; rfl)) ?_
          with_reducible refine (record_Sign.calls a0_0 a0_1 a0_2 a0_3 a0_4 a0_5 a0_6 a0_7 a0_8 a0_9 a0_10 a0_11 a0_12 a1_3 t295 _ A47.out).mono ?_
          rintro e w51 ⟨rfl, hb⟩
          refine ⟨_, rfl, ?_⟩
          have n0_ := Aside0.mk (blk_below (g := gb270) (o := .cells #[.int .i64 a0_0, .int .i64 a0_1, .int .i64 a0_2, .int .i64 a0_3, .int .i64 a0_4, .int .i64 a0_5, .int .i64 a0_6, .int .i64 a0_7, .int .i64 a0_8, .int .u64 a0_9, .int .u64 a0_10, .int .u64 a0_11, .int .u64 a0_12] 25 (0, 0)) (by (with_reducible repeat (first | refine blk_drewN ?_ _ | refine blk_drew ?_ | refine blk_alloc ?_ _)); exact BK270.out) hb)
          have n1_ := Aside0.mk (blk_below (g := gb271) (o := .cells #[.int .u64 a1_0, .int .u64 a1_1, .int .u64 a1_2, .int .u64 a1_3] 23 (0, 0)) (by (with_reducible repeat (first | refine blk_drewN ?_ _ | refine blk_drew ?_ | refine blk_alloc ?_ _)); exact BK271.out) hb)
          have n2_ := Aside0.mk (blk_below (g := gb286) (o := .cells #[.int .i64 t273, .int .i64 t274, .int .i64 t275, .int .i64 t276, .int .i64 t277, .int .i64 t278, .int .i64 t279, .int .i64 t280, .int .i64 t281, .int .u64 t282, .int .u64 t283, .int .u64 t284, .int .u64 t285] 25 (0, 0)) (by (with_reducible repeat (first | refine blk_drewN ?_ _ | refine blk_drew ?_ | refine blk_alloc ?_ _)); exact BK286.out) hb)
          have n3_ := Aside0.mk (below_step (by repeat (first | (with_reducible first | exact HB.out | apply below_alloc | apply pw_below_drewN | apply below_drew1 | refine below_set ?_ GE270.out | refine below_set ?_ GE271.out | refine below_set ?_ GE286.out) | exact HB.out)) hb)
          clear BK270
          clear BK271
          clear BK286
          clear HB
          have BK270 := n0_
          have BK271 := n1_
          have BK286 := n2_
          have HB := n3_
          clear n0_ n1_ n2_ n3_
          (try clear hb)
          (try clear hb2)
          (try clear hk)
          (try clear hi)
          refine hK.out _ _ ⟨(blk_cell BK270.out 0).trans rfl, (blk_cell BK270.out 1).trans rfl, (blk_cell BK270.out 2).trans rfl, (blk_cell BK270.out 3).trans rfl, (blk_cell BK270.out 4).trans rfl, (blk_cell BK270.out 5).trans rfl, (blk_cell BK270.out 6).trans rfl, (blk_cell BK270.out 7).trans rfl, (blk_cell BK270.out 8).trans rfl, (blk_cell BK270.out 9).trans rfl, (blk_cell BK270.out 10).trans rfl, (blk_cell BK270.out 11).trans rfl, (blk_cell BK270.out 12).trans rfl, (blk_cell BK286.out 0).trans rfl, (blk_cell BK286.out 1).trans rfl, (blk_cell BK286.out 2).trans rfl, (blk_cell BK286.out 3).trans rfl, (blk_cell BK286.out 4).trans rfl, (blk_cell BK286.out 5).trans rfl, (blk_cell BK286.out 6).trans rfl, (blk_cell BK286.out 7).trans rfl, (blk_cell BK286.out 8).trans rfl, (blk_cell BK286.out 9).trans rfl, (blk_cell BK286.out 10).trans rfl, (blk_cell BK286.out 11).trans rfl, (blk_cell BK286.out 12).trans rfl⟩ (fun hHeld => ?_)
          clear hK K
          refine norm_ (a' := ?_) ?_ ?_
          rotate_left
          ·show Act.put _ (some 35) _ = _
           simp only [Act.put, List.setIfInBounds_toArray, List.set_cons_zero, List.set_cons_succ, i64_w, i32_w]
           rfl
          refine one_ (i := 5) (N := some 38) #[true, true, true, true, true, true, false] rfl rfl (by kernel_rfl) (by decide) (fun K hK => ?_)
          refine goes_ Try.func20 (by kernel_rfl) rfl #[.agg #[.int .i64 t273, .int .i64 t274, .int .i64 t275, .int .i64 t276, .int .i64 t277, .int .i64 t278, .int .i64 t279, .int .i64 t280, .int .i64 t281, .int .u64 t282, .int .u64 t283, .int .u64 t284, .int .u64 t285], .int .u64 a1_3] (by rfl) rfl rfl (by (try simp only [List.map_toArray, List.map_cons, List.map_nil]); first | done | rfl | (simp only [List.length_drop, List.length_take]; rfl)) ?_
          with_reducible refine (record_Sign.calls t273 t274 t275 t276 t277 t278 t279 t280 t281 t282 t283 t284 t285 a1_3 t296 _ A48.out).mono ?_
          rintro e w52 ⟨rfl, hb⟩
          refine ⟨_, rfl, ?_⟩
          have n0_ := Aside0.mk (blk_below (g := gb270) (o := .cells #[.int .i64 a0_0, .int .i64 a0_1, .int .i64 a0_2, .int .i64 a0_3, .int .i64 a0_4, .int .i64 a0_5, .int .i64 a0_6, .int .i64 a0_7, .int .i64 a0_8, .int .u64 a0_9, .int .u64 a0_10, .int .u64 a0_11, .int .u64 a0_12] 25 (0, 0)) (by (with_reducible repeat (first | refine blk_drewN ?_ _ | refine blk_drew ?_ | refine blk_alloc ?_ _)); exact BK270.out) hb)
          have n1_ := Aside0.mk (blk_below (g := gb271) (o := .cells #[.int .u64 a1_0, .int .u64 a1_1, .int .u64 a1_2, .int .u64 a1_3] 23 (0, 0)) (by (with_reducible repeat (first | refine blk_drewN ?_ _ | refine blk_drew ?_ | refine blk_alloc ?_ _)); exact BK271.out) hb)
          have n2_ := Aside0.mk (blk_below (g := gb286) (o := .cells #[.int .i64 t273, .int .i64 t274, .int .i64 t275, .int .i64 t276, .int .i64 t277, .int .i64 t278, .int .i64 t279, .int .i64 t280, .int .i64 t281, .int .u64 t282, .int .u64 t283, .int .u64 t284, .int .u64 t285] 25 (0, 0)) (by (with_reducible repeat (first | refine blk_drewN ?_ _ | refine blk_drew ?_ | refine blk_alloc ?_ _)); exact BK286.out) hb)
          have n3_ := Aside0.mk (below_step (by repeat (first | (with_reducible first | exact HB.out | apply below_alloc | apply pw_below_drewN | apply below_drew1 | refine below_set ?_ GE270.out | refine below_set ?_ GE271.out | refine below_set ?_ GE286.out) | exact HB.out)) hb)
          clear BK270
          clear BK271
          clear BK286
          clear HB
          have BK270 := n0_
          have BK271 := n1_
          have BK286 := n2_
          have HB := n3_
          clear n0_ n1_ n2_ n3_
          (try clear hb)
          (try clear hb2)
          (try clear hk)
          (try clear hi)
          refine hK.out _ _ ⟨(blk_cell BK270.out 0).trans rfl, (blk_cell BK270.out 1).trans rfl, (blk_cell BK270.out 2).trans rfl, (blk_cell BK270.out 3).trans rfl, (blk_cell BK270.out 4).trans rfl, (blk_cell BK270.out 5).trans rfl, (blk_cell BK270.out 6).trans rfl, (blk_cell BK270.out 7).trans rfl, (blk_cell BK270.out 8).trans rfl, (blk_cell BK270.out 9).trans rfl, (blk_cell BK270.out 10).trans rfl, (blk_cell BK270.out 11).trans rfl, (blk_cell BK270.out 12).trans rfl, (blk_cell BK286.out 0).trans rfl, (blk_cell BK286.out 1).trans rfl, (blk_cell BK286.out 2).trans rfl, (blk_cell BK286.out 3).trans rfl, (blk_cell BK286.out 4).trans rfl, (blk_cell BK286.out 5).trans rfl, (blk_cell BK286.out 6).trans rfl, (blk_cell BK286.out 7).trans rfl, (blk_cell BK286.out 8).trans rfl, (blk_cell BK286.out 9).trans rfl, (blk_cell BK286.out 10).trans rfl, (blk_cell BK286.out 11).trans rfl, (blk_cell BK286.out 12).trans rfl⟩ (fun hHeld => ?_)
          clear hK K
          refine norm_ (a' := ?_) ?_ ?_
          rotate_left
          ·show Act.put _ (some 38) _ = _
           simp only [Act.put, List.setIfInBounds_toArray, List.set_cons_zero, List.set_cons_succ, i64_w, i32_w]
           rfl
          refine pure_ (i := 6) (N := some 39) (v := ?_) (a' := ?_) #[true, true, true, true, true, true, true] rfl rfl (by kernel_rfl) (fun _ _ _ h => h) (Or.inl ⟨by rfl, ?_⟩) ?_ ?_
          rotate_left
          ·intro w'
           go_simp
           with_reducible rfl
          rotate_left
          ·simp only [Act.put, List.setIfInBounds_toArray, List.set_cons_zero, List.set_cons_succ, i64_w, i32_w]
           rfl
          refine done_ (by kernel_rfl) ?_
          try go_wp2
          go_roundg k1
          case measure => have := HK1.out; omega
          case rel => exact ⟨(wrap64 (3 + 1)), (by first | rfl | (simp; done) | (simp [*]; done) | kernel_rfl), H', ⟨by have := HK1.out; omega⟩, ⟨by (with_reducible repeat (first | refine blk_drewN ?_ _ | refine blk_drew ?_ | refine blk_alloc ?_ _)); exact BK270.out⟩, ⟨by (with_reducible repeat (first | refine blk_drewN ?_ _ | refine blk_drew ?_ | refine blk_alloc ?_ _)); exact BK271.out⟩, ⟨by (with_reducible repeat (first | refine blk_drewN ?_ _ | refine blk_drew ?_ | refine blk_alloc ?_ _)); exact BK286.out⟩, ⟨by repeat (first | (with_reducible first | exact HB.out | apply below_alloc | apply pw_below_drewN | apply below_drew1 | refine below_set ?_ GE270.out | refine below_set ?_ GE271.out | refine below_set ?_ GE286.out) | exact HB.out)⟩⟩
        ·rw [if_neg c46] at H
         clear c46
         exact absurd H (by simp)
    ·rw [if_neg c24] at H
     have c24b0 : decide (x30_1 < 4) = false := decide_eq_false c24
     clear c24
     by_cases c53 : t272 = true
     ·subst c53
      have H1 : ((record_Check.f a0_0 a0_1 a0_2 a0_3 a0_4 a0_5 a0_6 a0_7 a0_8 a0_9 a0_10 a0_11 a0_12 a1_0 a1_1 a1_2 a1_3).bind fun t287 => (if t287 = (-1) then ((record_Check.f t273 t274 t275 t276 t277 t278 t279 t280 t281 t282 t283 t284 t285 a1_0 a1_1 a1_2 a1_3).bind fun t288 => (some (t288 == 0))) else (some true))) = some r := by rw [if_pos rfl] at H; exact H
      clear H
      have H := H1
      clear H1
      replace H := Option.bind_eq_some_iff.mp H
      obtain ⟨t287, A540, H⟩ := H
      replace H : (if t287 = (-1) then ((record_Check.f t273 t274 t275 t276 t277 t278 t279 t280 t281 t282 t283 t284 t285 a1_0 a1_1 a1_2 a1_3).bind fun t288 => (some (t288 == 0))) else (some true)) = some r := H
      have A54 := Aside0.mk A540
      clear A540
      by_cases c55 : t287 = (-1)
      ·rw [if_pos c55] at H
       have c55b0 : (t287 == (-1)) = true := beq_iff_eq.mpr c55
       have c55b1 : (t287 != (-1)) = false := bne_eq_false_iff_eq.mpr c55
       clear c55
       replace H := Option.bind_eq_some_iff.mp H
       obtain ⟨t288, A560, H⟩ := H
       replace H : (some (t288 == 0)) = some r := H
       have A56 := Aside0.mk A560
       clear A560
       obtain rfl := Option.some.inj H
       have hnb57 := NB270_271.out
       have hnc57 := NB271_270.out
       have hnb58 := NB270_286.out
       have hnc58 := NB286_270.out
       have hcz59_0 : wr.cell? ⟨gb270, 0, none⟩ = some (.int .i64 a0_0) := (blk_cell BK270.out 0).trans rfl
       have hcz59_1 : wr.cell? ⟨gb270, 1, none⟩ = some (.int .i64 a0_1) := (blk_cell BK270.out 1).trans rfl
       have hcz59_2 : wr.cell? ⟨gb270, 2, none⟩ = some (.int .i64 a0_2) := (blk_cell BK270.out 2).trans rfl
       have hcz59_3 : wr.cell? ⟨gb270, 3, none⟩ = some (.int .i64 a0_3) := (blk_cell BK270.out 3).trans rfl
       have hcz59_4 : wr.cell? ⟨gb270, 4, none⟩ = some (.int .i64 a0_4) := (blk_cell BK270.out 4).trans rfl
       have hcz59_5 : wr.cell? ⟨gb270, 5, none⟩ = some (.int .i64 a0_5) := (blk_cell BK270.out 5).trans rfl
       have hcz59_6 : wr.cell? ⟨gb270, 6, none⟩ = some (.int .i64 a0_6) := (blk_cell BK270.out 6).trans rfl
       have hcz59_7 : wr.cell? ⟨gb270, 7, none⟩ = some (.int .i64 a0_7) := (blk_cell BK270.out 7).trans rfl
       have hcz59_8 : wr.cell? ⟨gb270, 8, none⟩ = some (.int .i64 a0_8) := (blk_cell BK270.out 8).trans rfl
       have hcz59_9 : wr.cell? ⟨gb270, 9, none⟩ = some (.int .u64 a0_9) := (blk_cell BK270.out 9).trans rfl
       have hcz59_10 : wr.cell? ⟨gb270, 10, none⟩ = some (.int .u64 a0_10) := (blk_cell BK270.out 10).trans rfl
       have hcz59_11 : wr.cell? ⟨gb270, 11, none⟩ = some (.int .u64 a0_11) := (blk_cell BK270.out 11).trans rfl
       have hcz59_12 : wr.cell? ⟨gb270, 12, none⟩ = some (.int .u64 a0_12) := (blk_cell BK270.out 12).trans rfl
       have hfz59_0 := blk_frozen BK270.out 0
       have hfz59_1 := blk_frozen BK270.out 1
       have hfz59_2 := blk_frozen BK270.out 2
       have hfz59_3 := blk_frozen BK270.out 3
       have hfz59_4 := blk_frozen BK270.out 4
       have hfz59_5 := blk_frozen BK270.out 5
       have hfz59_6 := blk_frozen BK270.out 6
       have hfz59_7 := blk_frozen BK270.out 7
       have hfz59_8 := blk_frozen BK270.out 8
       have hfz59_9 := blk_frozen BK270.out 9
       have hfz59_10 := blk_frozen BK270.out 10
       have hfz59_11 := blk_frozen BK270.out 11
       have hfz59_12 := blk_frozen BK270.out 12
       have hnb60 := NB271_286.out
       have hnc60 := NB286_271.out
       have hcz61_0 : wr.cell? ⟨gb271, 0, none⟩ = some (.int .u64 a1_0) := (blk_cell BK271.out 0).trans rfl
       have hcz61_1 : wr.cell? ⟨gb271, 1, none⟩ = some (.int .u64 a1_1) := (blk_cell BK271.out 1).trans rfl
       have hcz61_2 : wr.cell? ⟨gb271, 2, none⟩ = some (.int .u64 a1_2) := (blk_cell BK271.out 2).trans rfl
       have hcz61_3 : wr.cell? ⟨gb271, 3, none⟩ = some (.int .u64 a1_3) := (blk_cell BK271.out 3).trans rfl
       have hfz61_0 := blk_frozen BK271.out 0
       have hfz61_1 := blk_frozen BK271.out 1
       have hfz61_2 := blk_frozen BK271.out 2
       have hfz61_3 := blk_frozen BK271.out 3
       go_wp2_with (first | (go_at_call 22; (with_reducible refine (record_Check.calls a0_0 a0_1 a0_2 a0_3 a0_4 a0_5 a0_6 a0_7 a0_8 a0_9 a0_10 a0_11 a0_12 a1_0 a1_1 a1_2 a1_3 t287 _ A54.out).mono ?_); rintro e w62 ⟨rfl, hb⟩; have n0_ := Aside0.mk (blk_below (g := gb270) (o := .cells #[.int .i64 a0_0, .int .i64 a0_1, .int .i64 a0_2, .int .i64 a0_3, .int .i64 a0_4, .int .i64 a0_5, .int .i64 a0_6, .int .i64 a0_7, .int .i64 a0_8, .int .u64 a0_9, .int .u64 a0_10, .int .u64 a0_11, .int .u64 a0_12] 25 (0, 0)) (by (with_reducible repeat (first | refine blk_drewN ?_ _ | refine blk_drew ?_ | refine blk_alloc ?_ _)); exact BK270.out) hb); have n1_ := Aside0.mk (blk_below (g := gb271) (o := .cells #[.int .u64 a1_0, .int .u64 a1_1, .int .u64 a1_2, .int .u64 a1_3] 23 (0, 0)) (by (with_reducible repeat (first | refine blk_drewN ?_ _ | refine blk_drew ?_ | refine blk_alloc ?_ _)); exact BK271.out) hb); have n2_ := Aside0.mk (blk_below (g := gb286) (o := .cells #[.int .i64 t273, .int .i64 t274, .int .i64 t275, .int .i64 t276, .int .i64 t277, .int .i64 t278, .int .i64 t279, .int .i64 t280, .int .i64 t281, .int .u64 t282, .int .u64 t283, .int .u64 t284, .int .u64 t285] 25 (0, 0)) (by (with_reducible repeat (first | refine blk_drewN ?_ _ | refine blk_drew ?_ | refine blk_alloc ?_ _)); exact BK286.out) hb); have n3_ := Aside0.mk (below_step (by repeat (first | (with_reducible first | exact HB.out | apply below_alloc | apply pw_below_drewN | apply below_drew1 | refine below_set ?_ GE270.out | refine below_set ?_ GE271.out | refine below_set ?_ GE286.out) | exact HB.out)) hb); clear BK270; clear BK271; clear BK286; clear HB; have BK270 := n0_; have BK271 := n1_; have BK286 := n2_; have HB := n3_; clear n0_ n1_ n2_ n3_; (try clear hb); (try clear hb2); (try clear hk); (try clear hi); have hcz63_0 : w62.cell? ⟨gb286, 0, none⟩ = some (.int .i64 t273) := (blk_cell BK286.out 0).trans rfl; have hcz63_1 : w62.cell? ⟨gb286, 1, none⟩ = some (.int .i64 t274) := (blk_cell BK286.out 1).trans rfl; have hcz63_2 : w62.cell? ⟨gb286, 2, none⟩ = some (.int .i64 t275) := (blk_cell BK286.out 2).trans rfl; have hcz63_3 : w62.cell? ⟨gb286, 3, none⟩ = some (.int .i64 t276) := (blk_cell BK286.out 3).trans rfl; have hcz63_4 : w62.cell? ⟨gb286, 4, none⟩ = some (.int .i64 t277) := (blk_cell BK286.out 4).trans rfl; have hcz63_5 : w62.cell? ⟨gb286, 5, none⟩ = some (.int .i64 t278) := (blk_cell BK286.out 5).trans rfl; have hcz63_6 : w62.cell? ⟨gb286, 6, none⟩ = some (.int .i64 t279) := (blk_cell BK286.out 6).trans rfl; have hcz63_7 : w62.cell? ⟨gb286, 7, none⟩ = some (.int .i64 t280) := (blk_cell BK286.out 7).trans rfl; have hcz63_8 : w62.cell? ⟨gb286, 8, none⟩ = some (.int .i64 t281) := (blk_cell BK286.out 8).trans rfl; have hcz63_9 : w62.cell? ⟨gb286, 9, none⟩ = some (.int .u64 t282) := (blk_cell BK286.out 9).trans rfl; have hcz63_10 : w62.cell? ⟨gb286, 10, none⟩ = some (.int .u64 t283) := (blk_cell BK286.out 10).trans rfl; have hcz63_11 : w62.cell? ⟨gb286, 11, none⟩ = some (.int .u64 t284) := (blk_cell BK286.out 11).trans rfl; have hcz63_12 : w62.cell? ⟨gb286, 12, none⟩ = some (.int .u64 t285) := (blk_cell BK286.out 12).trans rfl; have hfz63_0 := blk_frozen BK286.out 0; have hfz63_1 := blk_frozen BK286.out 1; have hfz63_2 := blk_frozen BK286.out 2; have hfz63_3 := blk_frozen BK286.out 3; have hfz63_4 := blk_frozen BK286.out 4; have hfz63_5 := blk_frozen BK286.out 5; have hfz63_6 := blk_frozen BK286.out 6; have hfz63_7 := blk_frozen BK286.out 7; have hfz63_8 := blk_frozen BK286.out 8; have hfz63_9 := blk_frozen BK286.out 9; have hfz63_10 := blk_frozen BK286.out 10; have hfz63_11 := blk_frozen BK286.out 11; have hfz63_12 := blk_frozen BK286.out 12; have hcz64_0 : w62.cell? ⟨gb271, 0, none⟩ = some (.int .u64 a1_0) := (blk_cell BK271.out 0).trans rfl; have hcz64_1 : w62.cell? ⟨gb271, 1, none⟩ = some (.int .u64 a1_1) := (blk_cell BK271.out 1).trans rfl; have hcz64_2 : w62.cell? ⟨gb271, 2, none⟩ = some (.int .u64 a1_2) := (blk_cell BK271.out 2).trans rfl; have hcz64_3 : w62.cell? ⟨gb271, 3, none⟩ = some (.int .u64 a1_3) := (blk_cell BK271.out 3).trans rfl; have hfz64_0 := blk_frozen BK271.out 0; have hfz64_1 := blk_frozen BK271.out 1; have hfz64_2 := blk_frozen BK271.out 2; have hfz64_3 := blk_frozen BK271.out 3) | (go_at_call 22; (with_reducible refine (record_Check.calls t273 t274 t275 t276 t277 t278 t279 t280 t281 t282 t283 t284 t285 a1_0 a1_1 a1_2 a1_3 t288 _ A56.out).mono ?_); rintro e w65 ⟨rfl, hb⟩; have n0_ := Aside0.mk (blk_below (g := gb270) (o := .cells #[.int .i64 a0_0, .int .i64 a0_1, .int .i64 a0_2, .int .i64 a0_3, .int .i64 a0_4, .int .i64 a0_5, .int .i64 a0_6, .int .i64 a0_7, .int .i64 a0_8, .int .u64 a0_9, .int .u64 a0_10, .int .u64 a0_11, .int .u64 a0_12] 25 (0, 0)) (by (with_reducible repeat (first | refine blk_drewN ?_ _ | refine blk_drew ?_ | refine blk_alloc ?_ _)); exact BK270.out) hb); have n1_ := Aside0.mk (blk_below (g := gb271) (o := .cells #[.int .u64 a1_0, .int .u64 a1_1, .int .u64 a1_2, .int .u64 a1_3] 23 (0, 0)) (by (with_reducible repeat (first | refine blk_drewN ?_ _ | refine blk_drew ?_ | refine blk_alloc ?_ _)); exact BK271.out) hb); have n2_ := Aside0.mk (blk_below (g := gb286) (o := .cells #[.int .i64 t273, .int .i64 t274, .int .i64 t275, .int .i64 t276, .int .i64 t277, .int .i64 t278, .int .i64 t279, .int .i64 t280, .int .i64 t281, .int .u64 t282, .int .u64 t283, .int .u64 t284, .int .u64 t285] 25 (0, 0)) (by (with_reducible repeat (first | refine blk_drewN ?_ _ | refine blk_drew ?_ | refine blk_alloc ?_ _)); exact BK286.out) hb); have n3_ := Aside0.mk (below_step (by repeat (first | (with_reducible first | exact HB.out | apply below_alloc | apply pw_below_drewN | apply below_drew1 | refine below_set ?_ GE270.out | refine below_set ?_ GE271.out | refine below_set ?_ GE286.out) | exact HB.out)) hb); clear BK270; clear BK271; clear BK286; clear HB; have BK270 := n0_; have BK271 := n1_; have BK286 := n2_; have HB := n3_; clear n0_ n1_ n2_ n3_; (try clear hb); (try clear hb2); (try clear hk); (try clear hi)))
       go_ret
       exact ⟨by first | rfl | (simp [errW_none, errW_some] <;> rfl) | (simp only [← hji11]; first | rfl | (simp [errW_none, errW_some] <;> rfl)) | (simp [*, errW_none, errW_some] <;> rfl), by repeat (first | (with_reducible first | exact HB.out | apply below_alloc | apply pw_below_drewN | apply below_drew1 | refine below_set ?_ GE270.out | refine below_set ?_ GE271.out | refine below_set ?_ GE286.out) | exact HB.out)⟩
      ·rw [if_neg c55] at H
       have c55b0 : (t287 == (-1)) = false := beq_eq_false_iff_ne.mpr c55
       have c55b1 : (t287 != (-1)) = true := bne_iff_ne.mpr c55
       obtain rfl := Option.some.inj H
       have hnb66 := NB270_271.out
       have hnc66 := NB271_270.out
       have hnb67 := NB270_286.out
       have hnc67 := NB286_270.out
       have hcz68_0 : wr.cell? ⟨gb270, 0, none⟩ = some (.int .i64 a0_0) := (blk_cell BK270.out 0).trans rfl
       have hcz68_1 : wr.cell? ⟨gb270, 1, none⟩ = some (.int .i64 a0_1) := (blk_cell BK270.out 1).trans rfl
       have hcz68_2 : wr.cell? ⟨gb270, 2, none⟩ = some (.int .i64 a0_2) := (blk_cell BK270.out 2).trans rfl
       have hcz68_3 : wr.cell? ⟨gb270, 3, none⟩ = some (.int .i64 a0_3) := (blk_cell BK270.out 3).trans rfl
       have hcz68_4 : wr.cell? ⟨gb270, 4, none⟩ = some (.int .i64 a0_4) := (blk_cell BK270.out 4).trans rfl
       have hcz68_5 : wr.cell? ⟨gb270, 5, none⟩ = some (.int .i64 a0_5) := (blk_cell BK270.out 5).trans rfl
       have hcz68_6 : wr.cell? ⟨gb270, 6, none⟩ = some (.int .i64 a0_6) := (blk_cell BK270.out 6).trans rfl
       have hcz68_7 : wr.cell? ⟨gb270, 7, none⟩ = some (.int .i64 a0_7) := (blk_cell BK270.out 7).trans rfl
       have hcz68_8 : wr.cell? ⟨gb270, 8, none⟩ = some (.int .i64 a0_8) := (blk_cell BK270.out 8).trans rfl
       have hcz68_9 : wr.cell? ⟨gb270, 9, none⟩ = some (.int .u64 a0_9) := (blk_cell BK270.out 9).trans rfl
       have hcz68_10 : wr.cell? ⟨gb270, 10, none⟩ = some (.int .u64 a0_10) := (blk_cell BK270.out 10).trans rfl
       have hcz68_11 : wr.cell? ⟨gb270, 11, none⟩ = some (.int .u64 a0_11) := (blk_cell BK270.out 11).trans rfl
       have hcz68_12 : wr.cell? ⟨gb270, 12, none⟩ = some (.int .u64 a0_12) := (blk_cell BK270.out 12).trans rfl
       have hfz68_0 := blk_frozen BK270.out 0
       have hfz68_1 := blk_frozen BK270.out 1
       have hfz68_2 := blk_frozen BK270.out 2
       have hfz68_3 := blk_frozen BK270.out 3
       have hfz68_4 := blk_frozen BK270.out 4
       have hfz68_5 := blk_frozen BK270.out 5
       have hfz68_6 := blk_frozen BK270.out 6
       have hfz68_7 := blk_frozen BK270.out 7
       have hfz68_8 := blk_frozen BK270.out 8
       have hfz68_9 := blk_frozen BK270.out 9
       have hfz68_10 := blk_frozen BK270.out 10
       have hfz68_11 := blk_frozen BK270.out 11
       have hfz68_12 := blk_frozen BK270.out 12
       have hnb69 := NB271_286.out
       have hnc69 := NB286_271.out
       have hcz70_0 : wr.cell? ⟨gb271, 0, none⟩ = some (.int .u64 a1_0) := (blk_cell BK271.out 0).trans rfl
       have hcz70_1 : wr.cell? ⟨gb271, 1, none⟩ = some (.int .u64 a1_1) := (blk_cell BK271.out 1).trans rfl
       have hcz70_2 : wr.cell? ⟨gb271, 2, none⟩ = some (.int .u64 a1_2) := (blk_cell BK271.out 2).trans rfl
       have hcz70_3 : wr.cell? ⟨gb271, 3, none⟩ = some (.int .u64 a1_3) := (blk_cell BK271.out 3).trans rfl
       have hfz70_0 := blk_frozen BK271.out 0
       have hfz70_1 := blk_frozen BK271.out 1
       have hfz70_2 := blk_frozen BK271.out 2
       have hfz70_3 := blk_frozen BK271.out 3
       go_wp2_with (first | (go_at_call 22; (with_reducible refine (record_Check.calls a0_0 a0_1 a0_2 a0_3 a0_4 a0_5 a0_6 a0_7 a0_8 a0_9 a0_10 a0_11 a0_12 a1_0 a1_1 a1_2 a1_3 t287 _ A54.out).mono ?_); rintro e w71 ⟨rfl, hb⟩; have n0_ := Aside0.mk (blk_below (g := gb270) (o := .cells #[.int .i64 a0_0, .int .i64 a0_1, .int .i64 a0_2, .int .i64 a0_3, .int .i64 a0_4, .int .i64 a0_5, .int .i64 a0_6, .int .i64 a0_7, .int .i64 a0_8, .int .u64 a0_9, .int .u64 a0_10, .int .u64 a0_11, .int .u64 a0_12] 25 (0, 0)) (by (with_reducible repeat (first | refine blk_drewN ?_ _ | refine blk_drew ?_ | refine blk_alloc ?_ _)); exact BK270.out) hb); have n1_ := Aside0.mk (blk_below (g := gb271) (o := .cells #[.int .u64 a1_0, .int .u64 a1_1, .int .u64 a1_2, .int .u64 a1_3] 23 (0, 0)) (by (with_reducible repeat (first | refine blk_drewN ?_ _ | refine blk_drew ?_ | refine blk_alloc ?_ _)); exact BK271.out) hb); have n2_ := Aside0.mk (blk_below (g := gb286) (o := .cells #[.int .i64 t273, .int .i64 t274, .int .i64 t275, .int .i64 t276, .int .i64 t277, .int .i64 t278, .int .i64 t279, .int .i64 t280, .int .i64 t281, .int .u64 t282, .int .u64 t283, .int .u64 t284, .int .u64 t285] 25 (0, 0)) (by (with_reducible repeat (first | refine blk_drewN ?_ _ | refine blk_drew ?_ | refine blk_alloc ?_ _)); exact BK286.out) hb); have n3_ := Aside0.mk (below_step (by repeat (first | (with_reducible first | exact HB.out | apply below_alloc | apply pw_below_drewN | apply below_drew1 | refine below_set ?_ GE270.out | refine below_set ?_ GE271.out | refine below_set ?_ GE286.out) | exact HB.out)) hb); clear BK270; clear BK271; clear BK286; clear HB; have BK270 := n0_; have BK271 := n1_; have BK286 := n2_; have HB := n3_; clear n0_ n1_ n2_ n3_; (try clear hb); (try clear hb2); (try clear hk); (try clear hi)))
       go_ret
       exact ⟨by first | rfl | (simp [errW_none, errW_some] <;> rfl) | (simp only [← hji11]; first | rfl | (simp [errW_none, errW_some] <;> rfl)) | (simp [*, errW_none, errW_some] <;> rfl), by repeat (first | (with_reducible first | exact HB.out | apply below_alloc | apply pw_below_drewN | apply below_drew1 | refine below_set ?_ GE270.out | refine below_set ?_ GE271.out | refine below_set ?_ GE286.out) | exact HB.out)⟩
     ·replace c53 := Bool.eq_false_iff.mpr c53
      subst c53
      have H1 : (some false) = some r := by rw [if_neg (show ¬ (false = true) by decide)] at H; exact H
      clear H
      have H := H1
      clear H1
      exact absurd ((Option.some.inj H).trans hT_.out) (by decide)

end Go.Proofs.Ytenkffjlpdappaa.Pr
