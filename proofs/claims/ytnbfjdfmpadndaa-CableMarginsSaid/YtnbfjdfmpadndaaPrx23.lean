-- Printed by hprint.py (a program of this claim's session over the kit's printer).
import Derived.Test.YtnbfjdfmpadndaaPrx0
import Derived.Test.YtnbfjdfmpadndaaPrx1
import Derived.Test.YtnbfjdfmpadndaaPrx18
import Derived.Test.YtnbfjdfmpadndaaPrx19
import Derived.Test.YtnbfjdfmpadndaaHCableP
namespace Go.Proofs.Ytnbfjdfmpadndaa.Pr
open Go.RowKit Go.Proofs.YtnbfjdfmpadndaaW.PrintWords Go.Proofs.YtnbfjdfmpadndaaW.PrintLast Go.Proofs.YtnbfjdfmpadndaaW.PrintMore
attribute [local go_sem] max2_int min2_int max_two min_two max_three min_three max_four min_four   -- for this text's walks alone
set_option linter.unusedVariables false
set_option linter.unusedSimpArgs false

attribute [local go_sem high] eqA46
/-! ### chargeparklaw07_CableMargins: function 14 -/
def chargeparklaw07_CableMargins.j0 : Nat → Bool → Bool → Int → Int → Int → Int → Int → Int → Int → Int → Int → Int → Option (Bool)
  | 0, _, _, _, _, _, _, _, _, _, _, _, _ => none
  | k + 1, x5, x55, x330000, x330001, x330002, x330003, x330004, x331000, x331001, x331002, x331003, x331004 => if x55 = true then (some x5) else ((cable_Permitted.f x330000 x330001 x330002 x330003 x330004).bind fun bt334 => ((cable_Permitted.f x331000 x331001 x331002 x331003 x331004).bind fun bt336 => (if x5 = true then (if bt334.2 = 0 then (if bt336.2 = 0 then (some (decide (bt334.1 ≤ bt336.1))) else (some false)) else (some false)) else (some false))))
def chargeparklaw07_CableMargins.f (k : Nat) (a0_0 : Int) (a0_1 : Int) (a0_2 : Int) (a0_3 : Int) (a0_4 : Int) (a1_0 : Int) (a1_1 : Int) (a1_2 : Int) (a1_3 : Int) (a1_4 : Int) : Option (Bool) := (chargeparklaw07_head.f).bind fun t331 => ((chargeparkref07_Valid.f a0_0 a0_1 a0_2 a0_3 a0_4).bind fun t332 => (if t332 = true then ((chargeparkref07_Valid.f a0_0 a1_1 a1_2 a1_3 a0_4).bind fun t333 => (if t333 = true then (if (a0_0 == 0 && (a0_1 == 0 && (a0_2 == 0 && (a0_3 == 0 && (a0_4 == 0))))) = true then (chargeparklaw07_CableMargins.j0 k t331 true a0_0 a0_1 a0_2 a0_3 a0_4 a0_0 a1_1 a1_2 a1_3 a0_4) else (if (a0_0 == 0 && (a1_1 == 0 && (a1_2 == 0 && (a1_3 == 0 && (a0_4 == 0))))) = true then (chargeparklaw07_CableMargins.j0 k t331 true a0_0 a0_1 a0_2 a0_3 a0_4 a0_0 a1_1 a1_2 a1_3 a0_4) else (if a1_1 < a0_1 then (chargeparklaw07_CableMargins.j0 k t331 true a0_0 a0_1 a0_2 a0_3 a0_4 a0_0 a1_1 a1_2 a1_3 a0_4) else (if a1_3 < a0_3 then (chargeparklaw07_CableMargins.j0 k t331 true a0_0 a0_1 a0_2 a0_3 a0_4 a0_0 a1_1 a1_2 a1_3 a0_4) else (chargeparklaw07_CableMargins.j0 k t331 (decide (a1_2 > a0_2)) a0_0 a0_1 a0_2 a0_3 a0_4 a0_0 a1_1 a1_2 a1_3 a0_4))))) else (chargeparklaw07_CableMargins.j0 k t331 true a0_0 a0_1 a0_2 a0_3 a0_4 a0_0 a1_1 a1_2 a1_3 a0_4))) else (chargeparklaw07_CableMargins.j0 k t331 true a0_0 a0_1 a0_2 a0_3 a0_4 a0_0 a1_1 a1_2 a1_3 a0_4)))
theorem chargeparklaw07_CableMargins.mono_l : ∀ k, (∀ y0 y1 y2 y3 y4 y5 y6 y7 y8 y9 y10 y11, LeO (chargeparklaw07_CableMargins.j0 k y0 y1 y2 y3 y4 y5 y6 y7 y8 y9 y10 y11) (chargeparklaw07_CableMargins.j0 (k + 1) y0 y1 y2 y3 y4 y5 y6 y7 y8 y9 y10 y11))
  | 0 => fun _ _ _ _ _ _ _ _ _ _ _ _ r h => by simp [chargeparklaw07_CableMargins.j0] at h
  | k + 1 => by
    have ih0 := chargeparklaw07_CableMargins.mono_l k
    · intro y0 y1 y2 y3 y4 y5 y6 y7 y8 y9 y10 y11
      unfold chargeparklaw07_CableMargins.j0
      repeat' first
      | (with_reducible exact ih0 _ _ _ _ _ _ _ _ _ _ _ _)
      | (with_reducible exact LeO.refl _)
      | (with_reducible exact LeO.none _)
      | (with_reducible refine LeO.ite ?_ ?_)
      | (with_reducible refine LeO.bind ?_ (fun _ => ?_))
      | exact ih0 _ _ _ _ _ _ _ _ _ _ _ _
      | exact LeO.none _
      | refine LeO.ite ?_ ?_
      | refine LeO.bind ?_ (fun _ => ?_)
theorem chargeparklaw07_CableMargins.mono : ∀ a0 a1 a2 a3 a4 a5 a6 a7 a8 a9 k, LeO (chargeparklaw07_CableMargins.f k a0 a1 a2 a3 a4 a5 a6 a7 a8 a9) (chargeparklaw07_CableMargins.f (k + 1) a0 a1 a2 a3 a4 a5 a6 a7 a8 a9) := by
  intro a0 a1 a2 a3 a4 a5 a6 a7 a8 a9 k
  have ih0 := chargeparklaw07_CableMargins.mono_l k
  unfold chargeparklaw07_CableMargins.f
  repeat' first
      | (with_reducible exact ih0 _ _ _ _ _ _ _ _ _ _ _ _)
      | (with_reducible exact LeO.refl _)
      | (with_reducible exact LeO.none _)
      | (with_reducible refine LeO.ite ?_ ?_)
      | (with_reducible refine LeO.bind ?_ (fun _ => ?_))
      | exact ih0 _ _ _ _ _ _ _ _ _ _ _ _
      | exact LeO.none _
      | refine LeO.ite ?_ ?_
      | refine LeO.bind ?_ (fun _ => ?_)
def chargeparklaw07_CableMargins.T2 : Bool × List (List Nat × List Nat) := (true, [([], []), ([0], [0]), ([], []), ([2], [2]), ([0, 1], []), ([4, 1, 0, 1], [1, 4]), ([0, 1, 2, 3, 4, 5], []), ([6, 3, 5, 0, 1, 2, 3, 4, 5], [3, 6])])
def chargeparklaw07_CableMargins.B2 : List Nat := [0, 1, 0, 4, 3, 19, 63, 127]
theorem chargeparklaw07_CableMargins.tab2 : rtab .any (opsOf Try.f14 2) = chargeparklaw07_CableMargins.T2 := by kernel_rfl
theorem chargeparklaw07_CableMargins.bits2 : waitsOk chargeparklaw07_CableMargins.T2.2 chargeparklaw07_CableMargins.B2 = true := by kernel_rfl
set_option maxHeartbeats 8000000 in
set_option maxRecDepth 100000 in
theorem chargeparklaw07_CableMargins.calls (k : Nat) (a0_0 : Int) (a0_1 : Int) (a0_2 : Int) (a0_3 : Int) (a0_4 : Int) (a1_0 : Int) (a1_1 : Int) (a1_2 : Int) (a1_3 : Int) (a1_4 : Int) (r : Bool) (w : World) (h : chargeparklaw07_CableMargins.f k a0_0 a0_1 a0_2 a0_3 a0_4 a1_0 a1_1 a1_2 a1_3 a1_4 = some r) :
    Calls Try.prog 14 #[.agg #[.int .i64 a0_0, .int .i64 a0_1, .int .i64 a0_2, .int .i64 a0_3, .int .i64 a0_4], .agg #[.int .i64 a1_0, .int .i64 a1_1, .int .i64 a1_2, .int .i64 a1_3, .int .i64 a1_4]] w fun e w' => e = .returned (.bool r) ∧ Below w.heap.size w w' := by
  have hu46 := Try.underlying46
  have HB := Aside0.mk (Below.refl w.heap.size w)
  have H : ((chargeparklaw07_head.f).bind fun t331 => ((chargeparkref07_Valid.f a0_0 a0_1 a0_2 a0_3 a0_4).bind fun t332 => (if t332 = true then ((chargeparkref07_Valid.f a0_0 a1_1 a1_2 a1_3 a0_4).bind fun t333 => (if t333 = true then (if (a0_0 == 0 && (a0_1 == 0 && (a0_2 == 0 && (a0_3 == 0 && (a0_4 == 0))))) = true then (chargeparklaw07_CableMargins.j0 k t331 true a0_0 a0_1 a0_2 a0_3 a0_4 a0_0 a1_1 a1_2 a1_3 a0_4) else (if (a0_0 == 0 && (a1_1 == 0 && (a1_2 == 0 && (a1_3 == 0 && (a0_4 == 0))))) = true then (chargeparklaw07_CableMargins.j0 k t331 true a0_0 a0_1 a0_2 a0_3 a0_4 a0_0 a1_1 a1_2 a1_3 a0_4) else (if a1_1 < a0_1 then (chargeparklaw07_CableMargins.j0 k t331 true a0_0 a0_1 a0_2 a0_3 a0_4 a0_0 a1_1 a1_2 a1_3 a0_4) else (if a1_3 < a0_3 then (chargeparklaw07_CableMargins.j0 k t331 true a0_0 a0_1 a0_2 a0_3 a0_4 a0_0 a1_1 a1_2 a1_3 a0_4) else (chargeparklaw07_CableMargins.j0 k t331 (decide (a1_2 > a0_2)) a0_0 a0_1 a0_2 a0_3 a0_4 a0_0 a1_1 a1_2 a1_3 a0_4))))) else (chargeparklaw07_CableMargins.j0 k t331 true a0_0 a0_1 a0_2 a0_3 a0_4 a0_0 a1_1 a1_2 a1_3 a0_4))) else (chargeparklaw07_CableMargins.j0 k t331 true a0_0 a0_1 a0_2 a0_3 a0_4 a0_0 a1_1 a1_2 a1_3 a0_4)))) = some r := h
  clear h
  replace H := Option.bind_eq_some_iff.mp H
  obtain ⟨t331, A30, H⟩ := H
  replace H : ((chargeparkref07_Valid.f a0_0 a0_1 a0_2 a0_3 a0_4).bind fun t332 => (if t332 = true then ((chargeparkref07_Valid.f a0_0 a1_1 a1_2 a1_3 a0_4).bind fun t333 => (if t333 = true then (if (a0_0 == 0 && (a0_1 == 0 && (a0_2 == 0 && (a0_3 == 0 && (a0_4 == 0))))) = true then (chargeparklaw07_CableMargins.j0 k t331 true a0_0 a0_1 a0_2 a0_3 a0_4 a0_0 a1_1 a1_2 a1_3 a0_4) else (if (a0_0 == 0 && (a1_1 == 0 && (a1_2 == 0 && (a1_3 == 0 && (a0_4 == 0))))) = true then (chargeparklaw07_CableMargins.j0 k t331 true a0_0 a0_1 a0_2 a0_3 a0_4 a0_0 a1_1 a1_2 a1_3 a0_4) else (if a1_1 < a0_1 then (chargeparklaw07_CableMargins.j0 k t331 true a0_0 a0_1 a0_2 a0_3 a0_4 a0_0 a1_1 a1_2 a1_3 a0_4) else (if a1_3 < a0_3 then (chargeparklaw07_CableMargins.j0 k t331 true a0_0 a0_1 a0_2 a0_3 a0_4 a0_0 a1_1 a1_2 a1_3 a0_4) else (chargeparklaw07_CableMargins.j0 k t331 (decide (a1_2 > a0_2)) a0_0 a0_1 a0_2 a0_3 a0_4 a0_0 a1_1 a1_2 a1_3 a0_4))))) else (chargeparklaw07_CableMargins.j0 k t331 true a0_0 a0_1 a0_2 a0_3 a0_4 a0_0 a1_1 a1_2 a1_3 a0_4))) else (chargeparklaw07_CableMargins.j0 k t331 true a0_0 a0_1 a0_2 a0_3 a0_4 a0_0 a1_1 a1_2 a1_3 a0_4))) = some r := H
  have A3 := Aside0.mk A30
  clear A30
  have HC4 := Aside0.mk H
  clear H
  go_enter Try.func14, Try.ntmps14
  try go_wp2_with (first | ((with_reducible refine gate_dst (N := 2) rfl ?_); refine box_event ?hg (N := 2) ?hd (cs := #[.int .i64 a0_0, .int .i64 a0_1, .int .i64 a0_2, .int .i64 a0_3, .int .i64 a0_4]) (t := 46) ?hr ?_; (case hd => rfl); (case hg => rfl); (case hr => first | (go_simp; done) | (go_simp; rfl)); intro gb329 hg w5 hbox hb; have n0_ := Aside0.mk (below_step (by repeat (first | (with_reducible first | exact HB.out | apply below_alloc | apply pw_below_drewN | apply below_drew1) | exact HB.out)) hb); have n1_ := Aside0.mk (hbox); have n2_ := Aside0.mk ((by rw [hg]; exact (below_size (by repeat (first | (with_reducible first | exact HB.out | apply below_alloc | apply pw_below_drewN | apply below_drew1) | exact HB.out))) : w.heap.size ≤ gb329)); have n3_ := Aside0.mk ((by rw [hg]; exact (below_size (by repeat (first | (with_reducible first | exact HB.out | apply below_alloc | apply pw_below_drewN | apply below_drew1) | exact HB.out))) : w.heap.size ≤ gb329)); clear HB; have HB := n0_; have BK329 := n1_; have GW329 := n2_; have GE329 := n3_; clear n0_ n1_ n2_ n3_; clear hb hbox hg) | ((with_reducible refine gate_dst (N := 3) rfl ?_); refine box_event ?hg (N := 3) ?hd (cs := #[.int .i64 a1_0, .int .i64 a1_1, .int .i64 a1_2, .int .i64 a1_3, .int .i64 a1_4]) (t := 46) ?hr ?_; (case hd => rfl); (case hg => rfl); (case hr => first | (go_simp; done) | (go_simp; rfl)); intro gb330 hg w6 hbox hb; have n0_ := Aside0.mk (blk_below (g := gb329) (o := .cells #[.int .i64 a0_0, .int .i64 a0_1, .int .i64 a0_2, .int .i64 a0_3, .int .i64 a0_4] 46 (0, 0)) (by (with_reducible repeat (first | refine blk_drewN ?_ _ | refine blk_drew ?_ | refine blk_alloc ?_ _)); exact BK329.out) hb); have n1_ := Aside0.mk (below_step (by repeat (first | (with_reducible first | exact HB.out | apply below_alloc | apply pw_below_drewN | apply below_drew1 | refine below_set ?_ GE329.out) | exact HB.out)) hb); have n2_ := Aside0.mk (hbox); have n3_ := Aside0.mk ((by rw [hg]; exact (below_size (by repeat (first | (with_reducible first | exact HB.out | apply below_alloc | apply pw_below_drewN | apply below_drew1 | refine below_set ?_ GE329.out) | exact HB.out))) : w.heap.size ≤ gb330)); have n4_ := Aside0.mk ((by rw [hg]; exact (below_size (by repeat (first | (with_reducible first | exact HB.out | apply below_alloc | apply pw_below_drewN | apply below_drew1 | refine below_set ?_ GE329.out) | exact HB.out))) : w.heap.size ≤ gb330)); have n5_ := Aside0.mk ((by rw [hg]; exact Nat.ne_of_lt (blk_lt (g := gb329) (o := .cells #[.int .i64 a0_0, .int .i64 a0_1, .int .i64 a0_2, .int .i64 a0_3, .int .i64 a0_4] 46 (0, 0)) (by (with_reducible repeat (first | refine blk_drewN ?_ _ | refine blk_drew ?_ | refine blk_alloc ?_ _)); exact BK329.out)) : gb329 ≠ gb330)); have n6_ := Aside0.mk ((by rw [hg]; exact Nat.ne_of_gt (blk_lt (g := gb329) (o := .cells #[.int .i64 a0_0, .int .i64 a0_1, .int .i64 a0_2, .int .i64 a0_3, .int .i64 a0_4] 46 (0, 0)) (by (with_reducible repeat (first | refine blk_drewN ?_ _ | refine blk_drew ?_ | refine blk_alloc ?_ _)); exact BK329.out)) : gb330 ≠ gb329)); clear BK329; clear HB; have BK329 := n0_; have HB := n1_; have BK330 := n2_; have GW330 := n3_; have GE330 := n4_; have NB329_330 := n5_; have NB330_329 := n6_; clear n0_ n1_ n2_ n3_ n4_ n5_ n6_; clear hb hbox hg) | ((with_reducible refine gate_callee (f := 27) rfl ?_); refine goesL_ (some 10) rfl rfl Try.func27 (by kernel_rfl) rfl #[] rfl (by (try simp only [List.map_toArray, List.map_cons, List.map_nil]); first | done | rfl | (simp only [List.length_drop, List.length_take]; rfl)) ?_; (with_reducible refine (chargeparklaw07_head.calls  t331 _ A3.out).mono ?_); rintro e w7 ⟨rfl, hb⟩; refine ⟨_, rfl, ?_⟩; have n0_ := Aside0.mk (blk_below (g := gb329) (o := .cells #[.int .i64 a0_0, .int .i64 a0_1, .int .i64 a0_2, .int .i64 a0_3, .int .i64 a0_4] 46 (0, 0)) (by (with_reducible repeat (first | refine blk_drewN ?_ _ | refine blk_drew ?_ | refine blk_alloc ?_ _)); exact BK329.out) hb); have n1_ := Aside0.mk (blk_below (g := gb330) (o := .cells #[.int .i64 a1_0, .int .i64 a1_1, .int .i64 a1_2, .int .i64 a1_3, .int .i64 a1_4] 46 (0, 0)) (by (with_reducible repeat (first | refine blk_drewN ?_ _ | refine blk_drew ?_ | refine blk_alloc ?_ _)); exact BK330.out) hb); have n2_ := Aside0.mk (below_step (by repeat (first | (with_reducible first | exact HB.out | apply below_alloc | apply pw_below_drewN | apply below_drew1 | refine below_set ?_ GE329.out | refine below_set ?_ GE330.out) | exact HB.out)) hb); clear BK329; clear BK330; clear HB; have BK329 := n0_; have BK330 := n1_; have HB := n2_; clear n0_ n1_ n2_; (try clear hb); (try clear hb2); (try clear hk); (try clear hi)))
  have n0_ := Aside0.mk (blk_drew BK329.out)
  have n1_ := Aside0.mk (blk_drew BK330.out)
  have n2_ := Aside0.mk (below_drew1 HB.out)
  clear BK329
  clear BK330
  clear HB
  have BK329 := n0_
  have BK330 := n1_
  have HB := n2_
  clear n0_ n1_ n2_
  refine start_ (n := 8) (S := fun w' => w'.cell? ⟨gb329, 0, none⟩ = some (.int .i64 a0_0) ∧ w'.cell? ⟨gb329, 1, none⟩ = some (.int .i64 a0_1) ∧ w'.cell? ⟨gb329, 2, none⟩ = some (.int .i64 a0_2) ∧ w'.cell? ⟨gb329, 3, none⟩ = some (.int .i64 a0_3) ∧ w'.cell? ⟨gb329, 4, none⟩ = some (.int .i64 a0_4)) (ds := []) #[false, false, false, false, false, false, false, false] (by kernel_rfl) rfl rfl ⟨(blk_cell BK329.out 0).trans rfl, (blk_cell BK329.out 1).trans rfl, (blk_cell BK329.out 2).trans rfl, (blk_cell BK329.out 3).trans rfl, (blk_cell BK329.out 4).trans rfl⟩ (fun hHeld => ?_); refine with_tabW chargeparklaw07_CableMargins.tab2 chargeparklaw07_CableMargins.bits2 (fun HT_ HW_ => ?_)
  generalize w7.drew = w8 at BK329 BK330 HB hHeld ⊢
  refine pure_ (i := 0) (N := some 11) (v := ?_) (a' := ?_) #[true, false, false, false, false, false, false, false] rfl rfl (any_of HT_.out (by kernel_rfl)) (fun _ _ _ h => h) (Or.inl ⟨by rfl, ?_⟩) ?_ ?_
  rotate_left
  · intro w'
    go_simp
    with_reducible rfl
  rotate_left
  · simp only [Act.put, List.setIfInBounds_toArray, List.set_cons_zero, List.set_cons_succ, i64_w, i32_w]
    rfl
  refine pure_ (i := 2) (N := some 13) (v := ?_) (a' := ?_) #[true, false, true, false, false, false, false, false] rfl rfl (any_of HT_.out (by kernel_rfl)) (fun _ _ _ h => h) (Or.inl ⟨by rfl, ?_⟩) ?_ ?_
  rotate_left
  · intro w'
    go_simp
    with_reducible rfl
  rotate_left
  · simp only [Act.put, List.setIfInBounds_toArray, List.set_cons_zero, List.set_cons_succ, i64_w, i32_w]
    rfl
  refine take_ (i := 1) (N := some 12) (v := ?_) (a' := ?_) #[true, true, true, false, false, false, false, false] rfl rfl (take_ofW HT_.out HW_.out (by kernel_rfl)) (fun _ _ _ h => h) (Or.inl ⟨by rfl, ?_⟩) hHeld ?_ ?_
  rotate_left
  · rintro w' ⟨s0, s1, s2, s3, s4⟩
    go_simp
    with_reducible rfl
  rotate_left
  · simp only [Act.put, List.setIfInBounds_toArray, List.set_cons_zero, List.set_cons_succ, i64_w, i32_w]
    rfl
  refine pure_ (i := 4) (N := some 15) (v := ?_) (a' := ?_) #[true, true, true, false, true, false, false, false] rfl rfl (any_of HT_.out (by kernel_rfl)) (fun _ _ _ h => h) (Or.inl ⟨by rfl, ?_⟩) ?_ ?_
  rotate_left
  · intro w'
    go_simp
    with_reducible rfl
  rotate_left
  · simp only [Act.put, List.setIfInBounds_toArray, List.set_cons_zero, List.set_cons_succ, i64_w, i32_w]
    rfl
  refine take_ (i := 3) (N := some 14) (v := ?_) (a' := ?_) #[true, true, true, true, true, false, false, false] rfl rfl (take_ofW HT_.out HW_.out (by kernel_rfl)) (fun _ _ _ h => h) (Or.inl ⟨by rfl, ?_⟩) hHeld ?_ ?_
  rotate_left
  · rintro w' ⟨s0, s1, s2, s3, s4⟩
    go_simp
    with_reducible rfl
  rotate_left
  · simp only [Act.put, List.setIfInBounds_toArray, List.set_cons_zero, List.set_cons_succ, i64_w, i32_w]
    rfl
  refine one_ (i := 5) (N := none) #[true, true, true, true, true, true, false, false] rfl rfl (one_of HT_.out (by kernel_rfl)) (by decide) (fun K hK => ?_)
  have hs9 : w8.cell? ⟨gb330, 0, none⟩ = some (.int .i64 a1_0) := (blk_cell BK330.out 0).trans rfl
  have hfs9 := blk_frozen BK330.out 0
  have hns9_0 := NB329_330.out
  have hms9_0 := NB330_329.out
  refine skip_ (w1 := ?_) (by rfl) rfl ?_ ?_
  rotate_left
  · go_simp
    rfl
  refine hK.out _ _ ⟨((cell_far (p := ⟨gb330, _, none⟩) NB329_330.out _).trans (hHeld.1)), ((cell_far (p := ⟨gb330, _, none⟩) NB329_330.out _).trans (hHeld.2.1)), ((cell_far (p := ⟨gb330, _, none⟩) NB329_330.out _).trans (hHeld.2.2.1)), ((cell_far (p := ⟨gb330, _, none⟩) NB329_330.out _).trans (hHeld.2.2.2.1)), ((cell_far (p := ⟨gb330, _, none⟩) NB329_330.out _).trans (hHeld.2.2.2.2))⟩ (fun hHeld => ?_)
  clear hK K
  refine pure_ (i := 6) (N := some 16) (v := ?_) (a' := ?_) #[true, true, true, true, true, true, true, false] rfl rfl (any_of HT_.out (by kernel_rfl)) (fun _ _ _ h => h) (Or.inl ⟨by rfl, ?_⟩) ?_ ?_
  rotate_left
  · intro w'
    go_simp
    with_reducible rfl
  rotate_left
  · simp only [Act.put, List.setIfInBounds_toArray, List.set_cons_zero, List.set_cons_succ, i64_w, i32_w]
    rfl
  refine one_ (i := 7) (N := none) #[true, true, true, true, true, true, true, true] rfl rfl (one_of HT_.out (by kernel_rfl)) (by decide) (fun K hK => ?_)
  have hs10 : w8.cell? ⟨gb330, 4, none⟩ = some (.int .i64 a1_4) := (blk_cell BK330.out 4).trans rfl
  have hfs10 := blk_frozen BK330.out 4
  have hns10_0 := NB329_330.out
  have hms10_0 := NB330_329.out
  refine skip_ (w1 := ?_) (by rfl) rfl ?_ ?_
  rotate_left
  · go_simp
    rfl
  refine hK.out _ _ ⟨((cell_far (p := ⟨gb330, _, none⟩) NB329_330.out _).trans (hHeld.1)), ((cell_far (p := ⟨gb330, _, none⟩) NB329_330.out _).trans (hHeld.2.1)), ((cell_far (p := ⟨gb330, _, none⟩) NB329_330.out _).trans (hHeld.2.2.1)), ((cell_far (p := ⟨gb330, _, none⟩) NB329_330.out _).trans (hHeld.2.2.2.1)), ((cell_far (p := ⟨gb330, _, none⟩) NB329_330.out _).trans (hHeld.2.2.2.2))⟩ (fun hHeld => ?_)
  clear hK K
  refine done_ (done_of HT_.out (by kernel_rfl)) ?_
  go_upto_region 3 with (fail)
  go_cut [55] (fun v55 wc => ∃ (kq : Nat) (x55_3 : Bool), v55 = .bool x55_3 ∧ Aside0 (chargeparklaw07_CableMargins.j0 kq t331 x55_3 a0_0 a0_1 a0_2 a0_3 a0_4 a0_0 a1_1 a1_2 a1_3 a0_4 = some r) ∧ Aside0 (kq ≤ k) ∧ Aside0 (wc.heap[gb329]? = some (.cells #[.int .i64 a0_0, .int .i64 a0_1, .int .i64 a0_2, .int .i64 a0_3, .int .i64 a0_4] 46 (0, 0))) ∧ Aside0 (wc.heap[gb330]? = some (.cells #[.int .i64 a0_0, .int .i64 a1_1, .int .i64 a1_2, .int .i64 a1_3, .int .i64 a0_4] 46 (0, 0))) ∧ Aside0 (Below w.heap.size w wc))
  case first =>
    have H := HC4.out
    clear HC4
    replace H := Option.bind_eq_some_iff.mp H
    obtain ⟨t332, A110, H⟩ := H
    replace H : (if t332 = true then ((chargeparkref07_Valid.f a0_0 a1_1 a1_2 a1_3 a0_4).bind fun t333 => (if t333 = true then (if (a0_0 == 0 && (a0_1 == 0 && (a0_2 == 0 && (a0_3 == 0 && (a0_4 == 0))))) = true then (chargeparklaw07_CableMargins.j0 k t331 true a0_0 a0_1 a0_2 a0_3 a0_4 a0_0 a1_1 a1_2 a1_3 a0_4) else (if (a0_0 == 0 && (a1_1 == 0 && (a1_2 == 0 && (a1_3 == 0 && (a0_4 == 0))))) = true then (chargeparklaw07_CableMargins.j0 k t331 true a0_0 a0_1 a0_2 a0_3 a0_4 a0_0 a1_1 a1_2 a1_3 a0_4) else (if a1_1 < a0_1 then (chargeparklaw07_CableMargins.j0 k t331 true a0_0 a0_1 a0_2 a0_3 a0_4 a0_0 a1_1 a1_2 a1_3 a0_4) else (if a1_3 < a0_3 then (chargeparklaw07_CableMargins.j0 k t331 true a0_0 a0_1 a0_2 a0_3 a0_4 a0_0 a1_1 a1_2 a1_3 a0_4) else (chargeparklaw07_CableMargins.j0 k t331 (decide (a1_2 > a0_2)) a0_0 a0_1 a0_2 a0_3 a0_4 a0_0 a1_1 a1_2 a1_3 a0_4))))) else (chargeparklaw07_CableMargins.j0 k t331 true a0_0 a0_1 a0_2 a0_3 a0_4 a0_0 a1_1 a1_2 a1_3 a0_4))) else (chargeparklaw07_CableMargins.j0 k t331 true a0_0 a0_1 a0_2 a0_3 a0_4 a0_0 a1_1 a1_2 a1_3 a0_4)) = some r := H
    have A11 := Aside0.mk A110
    clear A110
    by_cases c12 : t332 = true
    · subst c12
      have H1 : ((chargeparkref07_Valid.f a0_0 a1_1 a1_2 a1_3 a0_4).bind fun t333 => (if t333 = true then (if (a0_0 == 0 && (a0_1 == 0 && (a0_2 == 0 && (a0_3 == 0 && (a0_4 == 0))))) = true then (chargeparklaw07_CableMargins.j0 k t331 true a0_0 a0_1 a0_2 a0_3 a0_4 a0_0 a1_1 a1_2 a1_3 a0_4) else (if (a0_0 == 0 && (a1_1 == 0 && (a1_2 == 0 && (a1_3 == 0 && (a0_4 == 0))))) = true then (chargeparklaw07_CableMargins.j0 k t331 true a0_0 a0_1 a0_2 a0_3 a0_4 a0_0 a1_1 a1_2 a1_3 a0_4) else (if a1_1 < a0_1 then (chargeparklaw07_CableMargins.j0 k t331 true a0_0 a0_1 a0_2 a0_3 a0_4 a0_0 a1_1 a1_2 a1_3 a0_4) else (if a1_3 < a0_3 then (chargeparklaw07_CableMargins.j0 k t331 true a0_0 a0_1 a0_2 a0_3 a0_4 a0_0 a1_1 a1_2 a1_3 a0_4) else (chargeparklaw07_CableMargins.j0 k t331 (decide (a1_2 > a0_2)) a0_0 a0_1 a0_2 a0_3 a0_4 a0_0 a1_1 a1_2 a1_3 a0_4))))) else (chargeparklaw07_CableMargins.j0 k t331 true a0_0 a0_1 a0_2 a0_3 a0_4 a0_0 a1_1 a1_2 a1_3 a0_4))) = some r := by rw [if_pos rfl] at H; exact H
      clear H
      have H := H1
      clear H1
      replace H := Option.bind_eq_some_iff.mp H
      obtain ⟨t333, A130, H⟩ := H
      replace H : (if t333 = true then (if (a0_0 == 0 && (a0_1 == 0 && (a0_2 == 0 && (a0_3 == 0 && (a0_4 == 0))))) = true then (chargeparklaw07_CableMargins.j0 k t331 true a0_0 a0_1 a0_2 a0_3 a0_4 a0_0 a1_1 a1_2 a1_3 a0_4) else (if (a0_0 == 0 && (a1_1 == 0 && (a1_2 == 0 && (a1_3 == 0 && (a0_4 == 0))))) = true then (chargeparklaw07_CableMargins.j0 k t331 true a0_0 a0_1 a0_2 a0_3 a0_4 a0_0 a1_1 a1_2 a1_3 a0_4) else (if a1_1 < a0_1 then (chargeparklaw07_CableMargins.j0 k t331 true a0_0 a0_1 a0_2 a0_3 a0_4 a0_0 a1_1 a1_2 a1_3 a0_4) else (if a1_3 < a0_3 then (chargeparklaw07_CableMargins.j0 k t331 true a0_0 a0_1 a0_2 a0_3 a0_4 a0_0 a1_1 a1_2 a1_3 a0_4) else (chargeparklaw07_CableMargins.j0 k t331 (decide (a1_2 > a0_2)) a0_0 a0_1 a0_2 a0_3 a0_4 a0_0 a1_1 a1_2 a1_3 a0_4))))) else (chargeparklaw07_CableMargins.j0 k t331 true a0_0 a0_1 a0_2 a0_3 a0_4 a0_0 a1_1 a1_2 a1_3 a0_4)) = some r := H
      have A13 := Aside0.mk A130
      clear A130
      by_cases c14 : t333 = true
      · subst c14
        have H1 : (if (a0_0 == 0 && (a0_1 == 0 && (a0_2 == 0 && (a0_3 == 0 && (a0_4 == 0))))) = true then (chargeparklaw07_CableMargins.j0 k t331 true a0_0 a0_1 a0_2 a0_3 a0_4 a0_0 a1_1 a1_2 a1_3 a0_4) else (if (a0_0 == 0 && (a1_1 == 0 && (a1_2 == 0 && (a1_3 == 0 && (a0_4 == 0))))) = true then (chargeparklaw07_CableMargins.j0 k t331 true a0_0 a0_1 a0_2 a0_3 a0_4 a0_0 a1_1 a1_2 a1_3 a0_4) else (if a1_1 < a0_1 then (chargeparklaw07_CableMargins.j0 k t331 true a0_0 a0_1 a0_2 a0_3 a0_4 a0_0 a1_1 a1_2 a1_3 a0_4) else (if a1_3 < a0_3 then (chargeparklaw07_CableMargins.j0 k t331 true a0_0 a0_1 a0_2 a0_3 a0_4 a0_0 a1_1 a1_2 a1_3 a0_4) else (chargeparklaw07_CableMargins.j0 k t331 (decide (a1_2 > a0_2)) a0_0 a0_1 a0_2 a0_3 a0_4 a0_0 a1_1 a1_2 a1_3 a0_4))))) = some r := by rw [if_pos rfl] at H; exact H
        clear H
        have H := H1
        clear H1
        by_cases c15 : (a0_0 == 0 && (a0_1 == 0 && (a0_2 == 0 && (a0_3 == 0 && (a0_4 == 0))))) = true
        · rw [if_pos c15] at H
          have c15b0 : (a0_0 == 0 && (a0_1 == 0 && (a0_2 == 0 && (a0_3 == 0 && (a0_4 == 0))))) = true := c15
          (try (have c15b1 : decide (a0_0 = 0 && (a0_1 == 0 && (a0_2 == 0 && (a0_3 == 0 && (a0_4 == 0))))) = true := by simpa using c15))
          (try (have c15b2 : (a0_0 == 0 && (a0_1 == 0 && (a0_2 == 0 && (a0_3 == 0 && (a0_4 == 0))))) = true := by simpa using c15))
          clear c15
          (first | rw [c15b0] | (simp only [i64_w, i32_w]; rw [c15b0]) | skip)
          have H' := Aside0.mk H
          clear H
          have hnb16 := NB329_330.out
          have hnc16 := NB330_329.out
          have hcz17_0 : w8.cell? ⟨gb329, 0, none⟩ = some (.int .i64 a0_0) := (blk_cell BK329.out 0).trans rfl
          have hcz17_1 : w8.cell? ⟨gb329, 1, none⟩ = some (.int .i64 a0_1) := (blk_cell BK329.out 1).trans rfl
          have hcz17_2 : w8.cell? ⟨gb329, 2, none⟩ = some (.int .i64 a0_2) := (blk_cell BK329.out 2).trans rfl
          have hcz17_3 : w8.cell? ⟨gb329, 3, none⟩ = some (.int .i64 a0_3) := (blk_cell BK329.out 3).trans rfl
          have hcz17_4 : w8.cell? ⟨gb329, 4, none⟩ = some (.int .i64 a0_4) := (blk_cell BK329.out 4).trans rfl
          have hfz17_0 := blk_frozen BK329.out 0
          have hfz17_1 := blk_frozen BK329.out 1
          have hfz17_2 := blk_frozen BK329.out 2
          have hfz17_3 := blk_frozen BK329.out 3
          have hfz17_4 := blk_frozen BK329.out 4
          go_wp2_with (first | ((with_reducible refine gate_callee (f := 28) rfl ?_); refine goesL_ (some 18) rfl rfl Try.func28 (by kernel_rfl) rfl #[.agg #[.int .i64 a0_0, .int .i64 a0_1, .int .i64 a0_2, .int .i64 a0_3, .int .i64 a0_4]] rfl (by (try simp only [List.map_toArray, List.map_cons, List.map_nil]); first | done | rfl | (simp only [List.length_drop, List.length_take]; rfl)) ?_; (with_reducible refine (chargeparkref07_Valid.calls a0_0 a0_1 a0_2 a0_3 a0_4 true _ A11.out).mono ?_); rintro e w18 ⟨rfl, hb⟩; refine ⟨_, rfl, ?_⟩; have n0_ := Aside0.mk (blk_below (g := gb329) (o := .cells #[.int .i64 a0_0, .int .i64 a0_1, .int .i64 a0_2, .int .i64 a0_3, .int .i64 a0_4] 46 (0, 0)) (by (with_reducible repeat (first | refine blk_drewN ?_ _ | refine blk_drew ?_ | refine blk_alloc ?_ _)); refine blk_far ?_ NB329_330.out _; (with_reducible repeat (first | refine blk_drewN ?_ _ | refine blk_drew ?_ | refine blk_alloc ?_ _)); refine blk_far ?_ NB329_330.out _; (with_reducible repeat (first | refine blk_drewN ?_ _ | refine blk_drew ?_ | refine blk_alloc ?_ _)); exact BK329.out) hb); have n1_ := Aside0.mk (blk_below (g := gb330) (o := .cells #[.int .i64 a0_0, .int .i64 a1_1, .int .i64 a1_2, .int .i64 a1_3, .int .i64 a0_4] 46 (0, 0)) (by (with_reducible repeat (first | refine blk_drewN ?_ _ | refine blk_drew ?_ | refine blk_alloc ?_ _)); refine blk_put (cs := #[.int .i64 a0_0, .int .i64 a1_1, .int .i64 a1_2, .int .i64 a1_3, .int .i64 a1_4]) ?_ 4 _ rfl; (with_reducible repeat (first | refine blk_drewN ?_ _ | refine blk_drew ?_ | refine blk_alloc ?_ _)); refine blk_put (cs := #[.int .i64 a1_0, .int .i64 a1_1, .int .i64 a1_2, .int .i64 a1_3, .int .i64 a1_4]) ?_ 0 _ rfl; (with_reducible repeat (first | refine blk_drewN ?_ _ | refine blk_drew ?_ | refine blk_alloc ?_ _)); exact BK330.out) hb); have n2_ := Aside0.mk (below_step (by repeat (first | (with_reducible first | exact HB.out | apply below_alloc | apply pw_below_drewN | apply below_drew1 | refine below_set ?_ GE329.out | refine below_set ?_ GE330.out) | exact HB.out)) hb); clear BK329; clear BK330; clear HB; have BK329 := n0_; have BK330 := n1_; have HB := n2_; clear n0_ n1_ n2_; (try clear hb); (try clear hb2); (try clear hk); (try clear hi); have hcz19_0 : w18.cell? ⟨gb330, 0, none⟩ = some (.int .i64 a0_0) := (blk_cell BK330.out 0).trans rfl; have hcz19_1 : w18.cell? ⟨gb330, 1, none⟩ = some (.int .i64 a1_1) := (blk_cell BK330.out 1).trans rfl; have hcz19_2 : w18.cell? ⟨gb330, 2, none⟩ = some (.int .i64 a1_2) := (blk_cell BK330.out 2).trans rfl; have hcz19_3 : w18.cell? ⟨gb330, 3, none⟩ = some (.int .i64 a1_3) := (blk_cell BK330.out 3).trans rfl; have hcz19_4 : w18.cell? ⟨gb330, 4, none⟩ = some (.int .i64 a0_4) := (blk_cell BK330.out 4).trans rfl; have hfz19_0 := blk_frozen BK330.out 0; have hfz19_1 := blk_frozen BK330.out 1; have hfz19_2 := blk_frozen BK330.out 2; have hfz19_3 := blk_frozen BK330.out 3; have hfz19_4 := blk_frozen BK330.out 4) | (go_at_call 28; (with_reducible refine (chargeparkref07_Valid.calls a0_0 a1_1 a1_2 a1_3 a0_4 true _ A13.out).mono ?_); rintro e w20 ⟨rfl, hb⟩; have n0_ := Aside0.mk (blk_below (g := gb329) (o := .cells #[.int .i64 a0_0, .int .i64 a0_1, .int .i64 a0_2, .int .i64 a0_3, .int .i64 a0_4] 46 (0, 0)) (by (with_reducible repeat (first | refine blk_drewN ?_ _ | refine blk_drew ?_ | refine blk_alloc ?_ _)); exact BK329.out) hb); have n1_ := Aside0.mk (blk_below (g := gb330) (o := .cells #[.int .i64 a0_0, .int .i64 a1_1, .int .i64 a1_2, .int .i64 a1_3, .int .i64 a0_4] 46 (0, 0)) (by (with_reducible repeat (first | refine blk_drewN ?_ _ | refine blk_drew ?_ | refine blk_alloc ?_ _)); exact BK330.out) hb); have n2_ := Aside0.mk (below_step (by repeat (first | (with_reducible first | exact HB.out | apply below_alloc | apply pw_below_drewN | apply below_drew1 | refine below_set ?_ GE329.out | refine below_set ?_ GE330.out) | exact HB.out)) hb); clear BK329; clear BK330; clear HB; have BK329 := n0_; have BK330 := n1_; have HB := n2_; clear n0_ n1_ n2_; (try clear hb); (try clear hb2); (try clear hk); (try clear hi); have hcz21_0 : w20.cell? ⟨gb329, 0, none⟩ = some (.int .i64 a0_0) := (blk_cell BK329.out 0).trans rfl; have hcz21_1 : w20.cell? ⟨gb329, 1, none⟩ = some (.int .i64 a0_1) := (blk_cell BK329.out 1).trans rfl; have hcz21_2 : w20.cell? ⟨gb329, 2, none⟩ = some (.int .i64 a0_2) := (blk_cell BK329.out 2).trans rfl; have hcz21_3 : w20.cell? ⟨gb329, 3, none⟩ = some (.int .i64 a0_3) := (blk_cell BK329.out 3).trans rfl; have hcz21_4 : w20.cell? ⟨gb329, 4, none⟩ = some (.int .i64 a0_4) := (blk_cell BK329.out 4).trans rfl; have hfz21_0 := blk_frozen BK329.out 0; have hfz21_1 := blk_frozen BK329.out 1; have hfz21_2 := blk_frozen BK329.out 2; have hfz21_3 := blk_frozen BK329.out 3; have hfz21_4 := blk_frozen BK329.out 4))
          go_meet
          case rel => exact ⟨_, (true), (by first | rfl | (simp; done) | (simp [*]; done)), H', ⟨by first | omega | exact Nat.le_refl _⟩, ⟨by (with_reducible repeat (first | refine blk_drewN ?_ _ | refine blk_drew ?_ | refine blk_alloc ?_ _)); exact BK329.out⟩, ⟨by (with_reducible repeat (first | refine blk_drewN ?_ _ | refine blk_drew ?_ | refine blk_alloc ?_ _)); exact BK330.out⟩, ⟨by repeat (first | (with_reducible first | exact HB.out | apply below_alloc | apply pw_below_drewN | apply below_drew1 | refine below_set ?_ GE329.out | refine below_set ?_ GE330.out) | exact HB.out)⟩⟩
        · rw [if_neg c15] at H
          have c15b0 : (a0_0 == 0 && (a0_1 == 0 && (a0_2 == 0 && (a0_3 == 0 && (a0_4 == 0))))) = false := by simpa using c15
          (try (have c15b1 : decide (a0_0 = 0 && (a0_1 == 0 && (a0_2 == 0 && (a0_3 == 0 && (a0_4 == 0))))) = false := by simpa using c15))
          (try (have c15b2 : (a0_0 == 0 && (a0_1 == 0 && (a0_2 == 0 && (a0_3 == 0 && (a0_4 == 0))))) = false := by simpa using c15))
          (try (have c15b3 : ¬ (a0_0 = 0 && (a0_1 == 0 && (a0_2 == 0 && (a0_3 == 0 && (a0_4 == 0))))) := by simpa using c15))
          clear c15
          (first | rw [c15b0] | (simp only [i64_w, i32_w]; rw [c15b0]) | skip)
          by_cases c22 : (a0_0 == 0 && (a1_1 == 0 && (a1_2 == 0 && (a1_3 == 0 && (a0_4 == 0))))) = true
          · rw [if_pos c22] at H
            have c22b0 : (a0_0 == 0 && (a1_1 == 0 && (a1_2 == 0 && (a1_3 == 0 && (a0_4 == 0))))) = true := c22
            (try (have c22b1 : decide (a0_0 = 0 && (a1_1 == 0 && (a1_2 == 0 && (a1_3 == 0 && (a0_4 == 0))))) = true := by simpa using c22))
            (try (have c22b2 : (a0_0 == 0 && (a1_1 == 0 && (a1_2 == 0 && (a1_3 == 0 && (a0_4 == 0))))) = true := by simpa using c22))
            clear c22
            have H' := Aside0.mk H
            clear H
            have hnb23 := NB329_330.out
            have hnc23 := NB330_329.out
            have hcz24_0 : w8.cell? ⟨gb329, 0, none⟩ = some (.int .i64 a0_0) := (blk_cell BK329.out 0).trans rfl
            have hcz24_1 : w8.cell? ⟨gb329, 1, none⟩ = some (.int .i64 a0_1) := (blk_cell BK329.out 1).trans rfl
            have hcz24_2 : w8.cell? ⟨gb329, 2, none⟩ = some (.int .i64 a0_2) := (blk_cell BK329.out 2).trans rfl
            have hcz24_3 : w8.cell? ⟨gb329, 3, none⟩ = some (.int .i64 a0_3) := (blk_cell BK329.out 3).trans rfl
            have hcz24_4 : w8.cell? ⟨gb329, 4, none⟩ = some (.int .i64 a0_4) := (blk_cell BK329.out 4).trans rfl
            have hfz24_0 := blk_frozen BK329.out 0
            have hfz24_1 := blk_frozen BK329.out 1
            have hfz24_2 := blk_frozen BK329.out 2
            have hfz24_3 := blk_frozen BK329.out 3
            have hfz24_4 := blk_frozen BK329.out 4
            go_wp2_with (first | ((with_reducible refine gate_callee (f := 28) rfl ?_); refine goesL_ (some 18) rfl rfl Try.func28 (by kernel_rfl) rfl #[.agg #[.int .i64 a0_0, .int .i64 a0_1, .int .i64 a0_2, .int .i64 a0_3, .int .i64 a0_4]] rfl (by (try simp only [List.map_toArray, List.map_cons, List.map_nil]); first | done | rfl | (simp only [List.length_drop, List.length_take]; rfl)) ?_; (with_reducible refine (chargeparkref07_Valid.calls a0_0 a0_1 a0_2 a0_3 a0_4 true _ A11.out).mono ?_); rintro e w25 ⟨rfl, hb⟩; refine ⟨_, rfl, ?_⟩; have n0_ := Aside0.mk (blk_below (g := gb329) (o := .cells #[.int .i64 a0_0, .int .i64 a0_1, .int .i64 a0_2, .int .i64 a0_3, .int .i64 a0_4] 46 (0, 0)) (by (with_reducible repeat (first | refine blk_drewN ?_ _ | refine blk_drew ?_ | refine blk_alloc ?_ _)); refine blk_far ?_ NB329_330.out _; (with_reducible repeat (first | refine blk_drewN ?_ _ | refine blk_drew ?_ | refine blk_alloc ?_ _)); refine blk_far ?_ NB329_330.out _; (with_reducible repeat (first | refine blk_drewN ?_ _ | refine blk_drew ?_ | refine blk_alloc ?_ _)); exact BK329.out) hb); have n1_ := Aside0.mk (blk_below (g := gb330) (o := .cells #[.int .i64 a0_0, .int .i64 a1_1, .int .i64 a1_2, .int .i64 a1_3, .int .i64 a0_4] 46 (0, 0)) (by (with_reducible repeat (first | refine blk_drewN ?_ _ | refine blk_drew ?_ | refine blk_alloc ?_ _)); refine blk_put (cs := #[.int .i64 a0_0, .int .i64 a1_1, .int .i64 a1_2, .int .i64 a1_3, .int .i64 a1_4]) ?_ 4 _ rfl; (with_reducible repeat (first | refine blk_drewN ?_ _ | refine blk_drew ?_ | refine blk_alloc ?_ _)); refine blk_put (cs := #[.int .i64 a1_0, .int .i64 a1_1, .int .i64 a1_2, .int .i64 a1_3, .int .i64 a1_4]) ?_ 0 _ rfl; (with_reducible repeat (first | refine blk_drewN ?_ _ | refine blk_drew ?_ | refine blk_alloc ?_ _)); exact BK330.out) hb); have n2_ := Aside0.mk (below_step (by repeat (first | (with_reducible first | exact HB.out | apply below_alloc | apply pw_below_drewN | apply below_drew1 | refine below_set ?_ GE329.out | refine below_set ?_ GE330.out) | exact HB.out)) hb); clear BK329; clear BK330; clear HB; have BK329 := n0_; have BK330 := n1_; have HB := n2_; clear n0_ n1_ n2_; (try clear hb); (try clear hb2); (try clear hk); (try clear hi); have hcz26_0 : w25.cell? ⟨gb330, 0, none⟩ = some (.int .i64 a0_0) := (blk_cell BK330.out 0).trans rfl; have hcz26_1 : w25.cell? ⟨gb330, 1, none⟩ = some (.int .i64 a1_1) := (blk_cell BK330.out 1).trans rfl; have hcz26_2 : w25.cell? ⟨gb330, 2, none⟩ = some (.int .i64 a1_2) := (blk_cell BK330.out 2).trans rfl; have hcz26_3 : w25.cell? ⟨gb330, 3, none⟩ = some (.int .i64 a1_3) := (blk_cell BK330.out 3).trans rfl; have hcz26_4 : w25.cell? ⟨gb330, 4, none⟩ = some (.int .i64 a0_4) := (blk_cell BK330.out 4).trans rfl; have hfz26_0 := blk_frozen BK330.out 0; have hfz26_1 := blk_frozen BK330.out 1; have hfz26_2 := blk_frozen BK330.out 2; have hfz26_3 := blk_frozen BK330.out 3; have hfz26_4 := blk_frozen BK330.out 4) | (go_at_call 28; (with_reducible refine (chargeparkref07_Valid.calls a0_0 a1_1 a1_2 a1_3 a0_4 true _ A13.out).mono ?_); rintro e w27 ⟨rfl, hb⟩; have n0_ := Aside0.mk (blk_below (g := gb329) (o := .cells #[.int .i64 a0_0, .int .i64 a0_1, .int .i64 a0_2, .int .i64 a0_3, .int .i64 a0_4] 46 (0, 0)) (by (with_reducible repeat (first | refine blk_drewN ?_ _ | refine blk_drew ?_ | refine blk_alloc ?_ _)); exact BK329.out) hb); have n1_ := Aside0.mk (blk_below (g := gb330) (o := .cells #[.int .i64 a0_0, .int .i64 a1_1, .int .i64 a1_2, .int .i64 a1_3, .int .i64 a0_4] 46 (0, 0)) (by (with_reducible repeat (first | refine blk_drewN ?_ _ | refine blk_drew ?_ | refine blk_alloc ?_ _)); exact BK330.out) hb); have n2_ := Aside0.mk (below_step (by repeat (first | (with_reducible first | exact HB.out | apply below_alloc | apply pw_below_drewN | apply below_drew1 | refine below_set ?_ GE329.out | refine below_set ?_ GE330.out) | exact HB.out)) hb); clear BK329; clear BK330; clear HB; have BK329 := n0_; have BK330 := n1_; have HB := n2_; clear n0_ n1_ n2_; (try clear hb); (try clear hb2); (try clear hk); (try clear hi); have hcz28_0 : w27.cell? ⟨gb329, 0, none⟩ = some (.int .i64 a0_0) := (blk_cell BK329.out 0).trans rfl; have hcz28_1 : w27.cell? ⟨gb329, 1, none⟩ = some (.int .i64 a0_1) := (blk_cell BK329.out 1).trans rfl; have hcz28_2 : w27.cell? ⟨gb329, 2, none⟩ = some (.int .i64 a0_2) := (blk_cell BK329.out 2).trans rfl; have hcz28_3 : w27.cell? ⟨gb329, 3, none⟩ = some (.int .i64 a0_3) := (blk_cell BK329.out 3).trans rfl; have hcz28_4 : w27.cell? ⟨gb329, 4, none⟩ = some (.int .i64 a0_4) := (blk_cell BK329.out 4).trans rfl; have hfz28_0 := blk_frozen BK329.out 0; have hfz28_1 := blk_frozen BK329.out 1; have hfz28_2 := blk_frozen BK329.out 2; have hfz28_3 := blk_frozen BK329.out 3; have hfz28_4 := blk_frozen BK329.out 4; have hcz29_0 : w27.cell? ⟨gb330, 0, none⟩ = some (.int .i64 a0_0) := (blk_cell BK330.out 0).trans rfl; have hcz29_1 : w27.cell? ⟨gb330, 1, none⟩ = some (.int .i64 a1_1) := (blk_cell BK330.out 1).trans rfl; have hcz29_2 : w27.cell? ⟨gb330, 2, none⟩ = some (.int .i64 a1_2) := (blk_cell BK330.out 2).trans rfl; have hcz29_3 : w27.cell? ⟨gb330, 3, none⟩ = some (.int .i64 a1_3) := (blk_cell BK330.out 3).trans rfl; have hcz29_4 : w27.cell? ⟨gb330, 4, none⟩ = some (.int .i64 a0_4) := (blk_cell BK330.out 4).trans rfl; have hfz29_0 := blk_frozen BK330.out 0; have hfz29_1 := blk_frozen BK330.out 1; have hfz29_2 := blk_frozen BK330.out 2; have hfz29_3 := blk_frozen BK330.out 3; have hfz29_4 := blk_frozen BK330.out 4))
            go_meet
            case rel => exact ⟨_, (true), (by first | rfl | (simp; done) | (simp [*]; done)), H', ⟨by first | omega | exact Nat.le_refl _⟩, ⟨by (with_reducible repeat (first | refine blk_drewN ?_ _ | refine blk_drew ?_ | refine blk_alloc ?_ _)); exact BK329.out⟩, ⟨by (with_reducible repeat (first | refine blk_drewN ?_ _ | refine blk_drew ?_ | refine blk_alloc ?_ _)); exact BK330.out⟩, ⟨by repeat (first | (with_reducible first | exact HB.out | apply below_alloc | apply pw_below_drewN | apply below_drew1 | refine below_set ?_ GE329.out | refine below_set ?_ GE330.out) | exact HB.out)⟩⟩
          · rw [if_neg c22] at H
            have c22b0 : (a0_0 == 0 && (a1_1 == 0 && (a1_2 == 0 && (a1_3 == 0 && (a0_4 == 0))))) = false := by simpa using c22
            (try (have c22b1 : decide (a0_0 = 0 && (a1_1 == 0 && (a1_2 == 0 && (a1_3 == 0 && (a0_4 == 0))))) = false := by simpa using c22))
            (try (have c22b2 : (a0_0 == 0 && (a1_1 == 0 && (a1_2 == 0 && (a1_3 == 0 && (a0_4 == 0))))) = false := by simpa using c22))
            (try (have c22b3 : ¬ (a0_0 = 0 && (a1_1 == 0 && (a1_2 == 0 && (a1_3 == 0 && (a0_4 == 0))))) := by simpa using c22))
            clear c22
            by_cases c30 : a1_1 < a0_1
            · rw [if_pos c30] at H
              have c30b0 : decide (a1_1 < a0_1) = true := decide_eq_true c30
              clear c30
              have H' := Aside0.mk H
              clear H
              have hnb31 := NB329_330.out
              have hnc31 := NB330_329.out
              have hcz32_0 : w8.cell? ⟨gb329, 0, none⟩ = some (.int .i64 a0_0) := (blk_cell BK329.out 0).trans rfl
              have hcz32_1 : w8.cell? ⟨gb329, 1, none⟩ = some (.int .i64 a0_1) := (blk_cell BK329.out 1).trans rfl
              have hcz32_2 : w8.cell? ⟨gb329, 2, none⟩ = some (.int .i64 a0_2) := (blk_cell BK329.out 2).trans rfl
              have hcz32_3 : w8.cell? ⟨gb329, 3, none⟩ = some (.int .i64 a0_3) := (blk_cell BK329.out 3).trans rfl
              have hcz32_4 : w8.cell? ⟨gb329, 4, none⟩ = some (.int .i64 a0_4) := (blk_cell BK329.out 4).trans rfl
              have hfz32_0 := blk_frozen BK329.out 0
              have hfz32_1 := blk_frozen BK329.out 1
              have hfz32_2 := blk_frozen BK329.out 2
              have hfz32_3 := blk_frozen BK329.out 3
              have hfz32_4 := blk_frozen BK329.out 4
              go_wp2_with (first | ((with_reducible refine gate_callee (f := 28) rfl ?_); refine goesL_ (some 18) rfl rfl Try.func28 (by kernel_rfl) rfl #[.agg #[.int .i64 a0_0, .int .i64 a0_1, .int .i64 a0_2, .int .i64 a0_3, .int .i64 a0_4]] rfl (by (try simp only [List.map_toArray, List.map_cons, List.map_nil]); first | done | rfl | (simp only [List.length_drop, List.length_take]; rfl)) ?_; (with_reducible refine (chargeparkref07_Valid.calls a0_0 a0_1 a0_2 a0_3 a0_4 true _ A11.out).mono ?_); rintro e w33 ⟨rfl, hb⟩; refine ⟨_, rfl, ?_⟩; have n0_ := Aside0.mk (blk_below (g := gb329) (o := .cells #[.int .i64 a0_0, .int .i64 a0_1, .int .i64 a0_2, .int .i64 a0_3, .int .i64 a0_4] 46 (0, 0)) (by (with_reducible repeat (first | refine blk_drewN ?_ _ | refine blk_drew ?_ | refine blk_alloc ?_ _)); refine blk_far ?_ NB329_330.out _; (with_reducible repeat (first | refine blk_drewN ?_ _ | refine blk_drew ?_ | refine blk_alloc ?_ _)); refine blk_far ?_ NB329_330.out _; (with_reducible repeat (first | refine blk_drewN ?_ _ | refine blk_drew ?_ | refine blk_alloc ?_ _)); exact BK329.out) hb); have n1_ := Aside0.mk (blk_below (g := gb330) (o := .cells #[.int .i64 a0_0, .int .i64 a1_1, .int .i64 a1_2, .int .i64 a1_3, .int .i64 a0_4] 46 (0, 0)) (by (with_reducible repeat (first | refine blk_drewN ?_ _ | refine blk_drew ?_ | refine blk_alloc ?_ _)); refine blk_put (cs := #[.int .i64 a0_0, .int .i64 a1_1, .int .i64 a1_2, .int .i64 a1_3, .int .i64 a1_4]) ?_ 4 _ rfl; (with_reducible repeat (first | refine blk_drewN ?_ _ | refine blk_drew ?_ | refine blk_alloc ?_ _)); refine blk_put (cs := #[.int .i64 a1_0, .int .i64 a1_1, .int .i64 a1_2, .int .i64 a1_3, .int .i64 a1_4]) ?_ 0 _ rfl; (with_reducible repeat (first | refine blk_drewN ?_ _ | refine blk_drew ?_ | refine blk_alloc ?_ _)); exact BK330.out) hb); have n2_ := Aside0.mk (below_step (by repeat (first | (with_reducible first | exact HB.out | apply below_alloc | apply pw_below_drewN | apply below_drew1 | refine below_set ?_ GE329.out | refine below_set ?_ GE330.out) | exact HB.out)) hb); clear BK329; clear BK330; clear HB; have BK329 := n0_; have BK330 := n1_; have HB := n2_; clear n0_ n1_ n2_; (try clear hb); (try clear hb2); (try clear hk); (try clear hi); have hcz34_0 : w33.cell? ⟨gb330, 0, none⟩ = some (.int .i64 a0_0) := (blk_cell BK330.out 0).trans rfl; have hcz34_1 : w33.cell? ⟨gb330, 1, none⟩ = some (.int .i64 a1_1) := (blk_cell BK330.out 1).trans rfl; have hcz34_2 : w33.cell? ⟨gb330, 2, none⟩ = some (.int .i64 a1_2) := (blk_cell BK330.out 2).trans rfl; have hcz34_3 : w33.cell? ⟨gb330, 3, none⟩ = some (.int .i64 a1_3) := (blk_cell BK330.out 3).trans rfl; have hcz34_4 : w33.cell? ⟨gb330, 4, none⟩ = some (.int .i64 a0_4) := (blk_cell BK330.out 4).trans rfl; have hfz34_0 := blk_frozen BK330.out 0; have hfz34_1 := blk_frozen BK330.out 1; have hfz34_2 := blk_frozen BK330.out 2; have hfz34_3 := blk_frozen BK330.out 3; have hfz34_4 := blk_frozen BK330.out 4) | (go_at_call 28; (with_reducible refine (chargeparkref07_Valid.calls a0_0 a1_1 a1_2 a1_3 a0_4 true _ A13.out).mono ?_); rintro e w35 ⟨rfl, hb⟩; have n0_ := Aside0.mk (blk_below (g := gb329) (o := .cells #[.int .i64 a0_0, .int .i64 a0_1, .int .i64 a0_2, .int .i64 a0_3, .int .i64 a0_4] 46 (0, 0)) (by (with_reducible repeat (first | refine blk_drewN ?_ _ | refine blk_drew ?_ | refine blk_alloc ?_ _)); exact BK329.out) hb); have n1_ := Aside0.mk (blk_below (g := gb330) (o := .cells #[.int .i64 a0_0, .int .i64 a1_1, .int .i64 a1_2, .int .i64 a1_3, .int .i64 a0_4] 46 (0, 0)) (by (with_reducible repeat (first | refine blk_drewN ?_ _ | refine blk_drew ?_ | refine blk_alloc ?_ _)); exact BK330.out) hb); have n2_ := Aside0.mk (below_step (by repeat (first | (with_reducible first | exact HB.out | apply below_alloc | apply pw_below_drewN | apply below_drew1 | refine below_set ?_ GE329.out | refine below_set ?_ GE330.out) | exact HB.out)) hb); clear BK329; clear BK330; clear HB; have BK329 := n0_; have BK330 := n1_; have HB := n2_; clear n0_ n1_ n2_; (try clear hb); (try clear hb2); (try clear hk); (try clear hi); have hcz36_0 : w35.cell? ⟨gb329, 0, none⟩ = some (.int .i64 a0_0) := (blk_cell BK329.out 0).trans rfl; have hcz36_1 : w35.cell? ⟨gb329, 1, none⟩ = some (.int .i64 a0_1) := (blk_cell BK329.out 1).trans rfl; have hcz36_2 : w35.cell? ⟨gb329, 2, none⟩ = some (.int .i64 a0_2) := (blk_cell BK329.out 2).trans rfl; have hcz36_3 : w35.cell? ⟨gb329, 3, none⟩ = some (.int .i64 a0_3) := (blk_cell BK329.out 3).trans rfl; have hcz36_4 : w35.cell? ⟨gb329, 4, none⟩ = some (.int .i64 a0_4) := (blk_cell BK329.out 4).trans rfl; have hfz36_0 := blk_frozen BK329.out 0; have hfz36_1 := blk_frozen BK329.out 1; have hfz36_2 := blk_frozen BK329.out 2; have hfz36_3 := blk_frozen BK329.out 3; have hfz36_4 := blk_frozen BK329.out 4; have hcz37_0 : w35.cell? ⟨gb330, 0, none⟩ = some (.int .i64 a0_0) := (blk_cell BK330.out 0).trans rfl; have hcz37_1 : w35.cell? ⟨gb330, 1, none⟩ = some (.int .i64 a1_1) := (blk_cell BK330.out 1).trans rfl; have hcz37_2 : w35.cell? ⟨gb330, 2, none⟩ = some (.int .i64 a1_2) := (blk_cell BK330.out 2).trans rfl; have hcz37_3 : w35.cell? ⟨gb330, 3, none⟩ = some (.int .i64 a1_3) := (blk_cell BK330.out 3).trans rfl; have hcz37_4 : w35.cell? ⟨gb330, 4, none⟩ = some (.int .i64 a0_4) := (blk_cell BK330.out 4).trans rfl; have hfz37_0 := blk_frozen BK330.out 0; have hfz37_1 := blk_frozen BK330.out 1; have hfz37_2 := blk_frozen BK330.out 2; have hfz37_3 := blk_frozen BK330.out 3; have hfz37_4 := blk_frozen BK330.out 4))
              go_meet
              case rel => exact ⟨_, (true), (by first | rfl | (simp; done) | (simp [*]; done)), H', ⟨by first | omega | exact Nat.le_refl _⟩, ⟨by (with_reducible repeat (first | refine blk_drewN ?_ _ | refine blk_drew ?_ | refine blk_alloc ?_ _)); exact BK329.out⟩, ⟨by (with_reducible repeat (first | refine blk_drewN ?_ _ | refine blk_drew ?_ | refine blk_alloc ?_ _)); exact BK330.out⟩, ⟨by repeat (first | (with_reducible first | exact HB.out | apply below_alloc | apply pw_below_drewN | apply below_drew1 | refine below_set ?_ GE329.out | refine below_set ?_ GE330.out) | exact HB.out)⟩⟩
            · rw [if_neg c30] at H
              have c30b0 : decide (a1_1 < a0_1) = false := decide_eq_false c30
              clear c30
              by_cases c38 : a1_3 < a0_3
              · rw [if_pos c38] at H
                have c38b0 : decide (a1_3 < a0_3) = true := decide_eq_true c38
                clear c38
                have H' := Aside0.mk H
                clear H
                have hnb39 := NB329_330.out
                have hnc39 := NB330_329.out
                have hcz40_0 : w8.cell? ⟨gb329, 0, none⟩ = some (.int .i64 a0_0) := (blk_cell BK329.out 0).trans rfl
                have hcz40_1 : w8.cell? ⟨gb329, 1, none⟩ = some (.int .i64 a0_1) := (blk_cell BK329.out 1).trans rfl
                have hcz40_2 : w8.cell? ⟨gb329, 2, none⟩ = some (.int .i64 a0_2) := (blk_cell BK329.out 2).trans rfl
                have hcz40_3 : w8.cell? ⟨gb329, 3, none⟩ = some (.int .i64 a0_3) := (blk_cell BK329.out 3).trans rfl
                have hcz40_4 : w8.cell? ⟨gb329, 4, none⟩ = some (.int .i64 a0_4) := (blk_cell BK329.out 4).trans rfl
                have hfz40_0 := blk_frozen BK329.out 0
                have hfz40_1 := blk_frozen BK329.out 1
                have hfz40_2 := blk_frozen BK329.out 2
                have hfz40_3 := blk_frozen BK329.out 3
                have hfz40_4 := blk_frozen BK329.out 4
                go_wp2_with (first | ((with_reducible refine gate_callee (f := 28) rfl ?_); refine goesL_ (some 18) rfl rfl Try.func28 (by kernel_rfl) rfl #[.agg #[.int .i64 a0_0, .int .i64 a0_1, .int .i64 a0_2, .int .i64 a0_3, .int .i64 a0_4]] rfl (by (try simp only [List.map_toArray, List.map_cons, List.map_nil]); first | done | rfl | (simp only [List.length_drop, List.length_take]; rfl)) ?_; (with_reducible refine (chargeparkref07_Valid.calls a0_0 a0_1 a0_2 a0_3 a0_4 true _ A11.out).mono ?_); rintro e w41 ⟨rfl, hb⟩; refine ⟨_, rfl, ?_⟩; have n0_ := Aside0.mk (blk_below (g := gb329) (o := .cells #[.int .i64 a0_0, .int .i64 a0_1, .int .i64 a0_2, .int .i64 a0_3, .int .i64 a0_4] 46 (0, 0)) (by (with_reducible repeat (first | refine blk_drewN ?_ _ | refine blk_drew ?_ | refine blk_alloc ?_ _)); refine blk_far ?_ NB329_330.out _; (with_reducible repeat (first | refine blk_drewN ?_ _ | refine blk_drew ?_ | refine blk_alloc ?_ _)); refine blk_far ?_ NB329_330.out _; (with_reducible repeat (first | refine blk_drewN ?_ _ | refine blk_drew ?_ | refine blk_alloc ?_ _)); exact BK329.out) hb); have n1_ := Aside0.mk (blk_below (g := gb330) (o := .cells #[.int .i64 a0_0, .int .i64 a1_1, .int .i64 a1_2, .int .i64 a1_3, .int .i64 a0_4] 46 (0, 0)) (by (with_reducible repeat (first | refine blk_drewN ?_ _ | refine blk_drew ?_ | refine blk_alloc ?_ _)); refine blk_put (cs := #[.int .i64 a0_0, .int .i64 a1_1, .int .i64 a1_2, .int .i64 a1_3, .int .i64 a1_4]) ?_ 4 _ rfl; (with_reducible repeat (first | refine blk_drewN ?_ _ | refine blk_drew ?_ | refine blk_alloc ?_ _)); refine blk_put (cs := #[.int .i64 a1_0, .int .i64 a1_1, .int .i64 a1_2, .int .i64 a1_3, .int .i64 a1_4]) ?_ 0 _ rfl; (with_reducible repeat (first | refine blk_drewN ?_ _ | refine blk_drew ?_ | refine blk_alloc ?_ _)); exact BK330.out) hb); have n2_ := Aside0.mk (below_step (by repeat (first | (with_reducible first | exact HB.out | apply below_alloc | apply pw_below_drewN | apply below_drew1 | refine below_set ?_ GE329.out | refine below_set ?_ GE330.out) | exact HB.out)) hb); clear BK329; clear BK330; clear HB; have BK329 := n0_; have BK330 := n1_; have HB := n2_; clear n0_ n1_ n2_; (try clear hb); (try clear hb2); (try clear hk); (try clear hi); have hcz42_0 : w41.cell? ⟨gb330, 0, none⟩ = some (.int .i64 a0_0) := (blk_cell BK330.out 0).trans rfl; have hcz42_1 : w41.cell? ⟨gb330, 1, none⟩ = some (.int .i64 a1_1) := (blk_cell BK330.out 1).trans rfl; have hcz42_2 : w41.cell? ⟨gb330, 2, none⟩ = some (.int .i64 a1_2) := (blk_cell BK330.out 2).trans rfl; have hcz42_3 : w41.cell? ⟨gb330, 3, none⟩ = some (.int .i64 a1_3) := (blk_cell BK330.out 3).trans rfl; have hcz42_4 : w41.cell? ⟨gb330, 4, none⟩ = some (.int .i64 a0_4) := (blk_cell BK330.out 4).trans rfl; have hfz42_0 := blk_frozen BK330.out 0; have hfz42_1 := blk_frozen BK330.out 1; have hfz42_2 := blk_frozen BK330.out 2; have hfz42_3 := blk_frozen BK330.out 3; have hfz42_4 := blk_frozen BK330.out 4) | (go_at_call 28; (with_reducible refine (chargeparkref07_Valid.calls a0_0 a1_1 a1_2 a1_3 a0_4 true _ A13.out).mono ?_); rintro e w43 ⟨rfl, hb⟩; have n0_ := Aside0.mk (blk_below (g := gb329) (o := .cells #[.int .i64 a0_0, .int .i64 a0_1, .int .i64 a0_2, .int .i64 a0_3, .int .i64 a0_4] 46 (0, 0)) (by (with_reducible repeat (first | refine blk_drewN ?_ _ | refine blk_drew ?_ | refine blk_alloc ?_ _)); exact BK329.out) hb); have n1_ := Aside0.mk (blk_below (g := gb330) (o := .cells #[.int .i64 a0_0, .int .i64 a1_1, .int .i64 a1_2, .int .i64 a1_3, .int .i64 a0_4] 46 (0, 0)) (by (with_reducible repeat (first | refine blk_drewN ?_ _ | refine blk_drew ?_ | refine blk_alloc ?_ _)); exact BK330.out) hb); have n2_ := Aside0.mk (below_step (by repeat (first | (with_reducible first | exact HB.out | apply below_alloc | apply pw_below_drewN | apply below_drew1 | refine below_set ?_ GE329.out | refine below_set ?_ GE330.out) | exact HB.out)) hb); clear BK329; clear BK330; clear HB; have BK329 := n0_; have BK330 := n1_; have HB := n2_; clear n0_ n1_ n2_; (try clear hb); (try clear hb2); (try clear hk); (try clear hi); have hcz44_0 : w43.cell? ⟨gb329, 0, none⟩ = some (.int .i64 a0_0) := (blk_cell BK329.out 0).trans rfl; have hcz44_1 : w43.cell? ⟨gb329, 1, none⟩ = some (.int .i64 a0_1) := (blk_cell BK329.out 1).trans rfl; have hcz44_2 : w43.cell? ⟨gb329, 2, none⟩ = some (.int .i64 a0_2) := (blk_cell BK329.out 2).trans rfl; have hcz44_3 : w43.cell? ⟨gb329, 3, none⟩ = some (.int .i64 a0_3) := (blk_cell BK329.out 3).trans rfl; have hcz44_4 : w43.cell? ⟨gb329, 4, none⟩ = some (.int .i64 a0_4) := (blk_cell BK329.out 4).trans rfl; have hfz44_0 := blk_frozen BK329.out 0; have hfz44_1 := blk_frozen BK329.out 1; have hfz44_2 := blk_frozen BK329.out 2; have hfz44_3 := blk_frozen BK329.out 3; have hfz44_4 := blk_frozen BK329.out 4; have hcz45_0 : w43.cell? ⟨gb330, 0, none⟩ = some (.int .i64 a0_0) := (blk_cell BK330.out 0).trans rfl; have hcz45_1 : w43.cell? ⟨gb330, 1, none⟩ = some (.int .i64 a1_1) := (blk_cell BK330.out 1).trans rfl; have hcz45_2 : w43.cell? ⟨gb330, 2, none⟩ = some (.int .i64 a1_2) := (blk_cell BK330.out 2).trans rfl; have hcz45_3 : w43.cell? ⟨gb330, 3, none⟩ = some (.int .i64 a1_3) := (blk_cell BK330.out 3).trans rfl; have hcz45_4 : w43.cell? ⟨gb330, 4, none⟩ = some (.int .i64 a0_4) := (blk_cell BK330.out 4).trans rfl; have hfz45_0 := blk_frozen BK330.out 0; have hfz45_1 := blk_frozen BK330.out 1; have hfz45_2 := blk_frozen BK330.out 2; have hfz45_3 := blk_frozen BK330.out 3; have hfz45_4 := blk_frozen BK330.out 4))
                go_meet
                case rel => exact ⟨_, (true), (by first | rfl | (simp; done) | (simp [*]; done)), H', ⟨by first | omega | exact Nat.le_refl _⟩, ⟨by (with_reducible repeat (first | refine blk_drewN ?_ _ | refine blk_drew ?_ | refine blk_alloc ?_ _)); exact BK329.out⟩, ⟨by (with_reducible repeat (first | refine blk_drewN ?_ _ | refine blk_drew ?_ | refine blk_alloc ?_ _)); exact BK330.out⟩, ⟨by repeat (first | (with_reducible first | exact HB.out | apply below_alloc | apply pw_below_drewN | apply below_drew1 | refine below_set ?_ GE329.out | refine below_set ?_ GE330.out) | exact HB.out)⟩⟩
              · rw [if_neg c38] at H
                have c38b0 : decide (a1_3 < a0_3) = false := decide_eq_false c38
                clear c38
                have H' := Aside0.mk H
                clear H
                have hnb46 := NB329_330.out
                have hnc46 := NB330_329.out
                have hcz47_0 : w8.cell? ⟨gb329, 0, none⟩ = some (.int .i64 a0_0) := (blk_cell BK329.out 0).trans rfl
                have hcz47_1 : w8.cell? ⟨gb329, 1, none⟩ = some (.int .i64 a0_1) := (blk_cell BK329.out 1).trans rfl
                have hcz47_2 : w8.cell? ⟨gb329, 2, none⟩ = some (.int .i64 a0_2) := (blk_cell BK329.out 2).trans rfl
                have hcz47_3 : w8.cell? ⟨gb329, 3, none⟩ = some (.int .i64 a0_3) := (blk_cell BK329.out 3).trans rfl
                have hcz47_4 : w8.cell? ⟨gb329, 4, none⟩ = some (.int .i64 a0_4) := (blk_cell BK329.out 4).trans rfl
                have hfz47_0 := blk_frozen BK329.out 0
                have hfz47_1 := blk_frozen BK329.out 1
                have hfz47_2 := blk_frozen BK329.out 2
                have hfz47_3 := blk_frozen BK329.out 3
                have hfz47_4 := blk_frozen BK329.out 4
                go_wp2_with (first | ((with_reducible refine gate_callee (f := 28) rfl ?_); refine goesL_ (some 18) rfl rfl Try.func28 (by kernel_rfl) rfl #[.agg #[.int .i64 a0_0, .int .i64 a0_1, .int .i64 a0_2, .int .i64 a0_3, .int .i64 a0_4]] rfl (by (try simp only [List.map_toArray, List.map_cons, List.map_nil]); first | done | rfl | (simp only [List.length_drop, List.length_take]; rfl)) ?_; (with_reducible refine (chargeparkref07_Valid.calls a0_0 a0_1 a0_2 a0_3 a0_4 true _ A11.out).mono ?_); rintro e w48 ⟨rfl, hb⟩; refine ⟨_, rfl, ?_⟩; have n0_ := Aside0.mk (blk_below (g := gb329) (o := .cells #[.int .i64 a0_0, .int .i64 a0_1, .int .i64 a0_2, .int .i64 a0_3, .int .i64 a0_4] 46 (0, 0)) (by (with_reducible repeat (first | refine blk_drewN ?_ _ | refine blk_drew ?_ | refine blk_alloc ?_ _)); refine blk_far ?_ NB329_330.out _; (with_reducible repeat (first | refine blk_drewN ?_ _ | refine blk_drew ?_ | refine blk_alloc ?_ _)); refine blk_far ?_ NB329_330.out _; (with_reducible repeat (first | refine blk_drewN ?_ _ | refine blk_drew ?_ | refine blk_alloc ?_ _)); exact BK329.out) hb); have n1_ := Aside0.mk (blk_below (g := gb330) (o := .cells #[.int .i64 a0_0, .int .i64 a1_1, .int .i64 a1_2, .int .i64 a1_3, .int .i64 a0_4] 46 (0, 0)) (by (with_reducible repeat (first | refine blk_drewN ?_ _ | refine blk_drew ?_ | refine blk_alloc ?_ _)); refine blk_put (cs := #[.int .i64 a0_0, .int .i64 a1_1, .int .i64 a1_2, .int .i64 a1_3, .int .i64 a1_4]) ?_ 4 _ rfl; (with_reducible repeat (first | refine blk_drewN ?_ _ | refine blk_drew ?_ | refine blk_alloc ?_ _)); refine blk_put (cs := #[.int .i64 a1_0, .int .i64 a1_1, .int .i64 a1_2, .int .i64 a1_3, .int .i64 a1_4]) ?_ 0 _ rfl; (with_reducible repeat (first | refine blk_drewN ?_ _ | refine blk_drew ?_ | refine blk_alloc ?_ _)); exact BK330.out) hb); have n2_ := Aside0.mk (below_step (by repeat (first | (with_reducible first | exact HB.out | apply below_alloc | apply pw_below_drewN | apply below_drew1 | refine below_set ?_ GE329.out | refine below_set ?_ GE330.out) | exact HB.out)) hb); clear BK329; clear BK330; clear HB; have BK329 := n0_; have BK330 := n1_; have HB := n2_; clear n0_ n1_ n2_; (try clear hb); (try clear hb2); (try clear hk); (try clear hi); have hcz49_0 : w48.cell? ⟨gb330, 0, none⟩ = some (.int .i64 a0_0) := (blk_cell BK330.out 0).trans rfl; have hcz49_1 : w48.cell? ⟨gb330, 1, none⟩ = some (.int .i64 a1_1) := (blk_cell BK330.out 1).trans rfl; have hcz49_2 : w48.cell? ⟨gb330, 2, none⟩ = some (.int .i64 a1_2) := (blk_cell BK330.out 2).trans rfl; have hcz49_3 : w48.cell? ⟨gb330, 3, none⟩ = some (.int .i64 a1_3) := (blk_cell BK330.out 3).trans rfl; have hcz49_4 : w48.cell? ⟨gb330, 4, none⟩ = some (.int .i64 a0_4) := (blk_cell BK330.out 4).trans rfl; have hfz49_0 := blk_frozen BK330.out 0; have hfz49_1 := blk_frozen BK330.out 1; have hfz49_2 := blk_frozen BK330.out 2; have hfz49_3 := blk_frozen BK330.out 3; have hfz49_4 := blk_frozen BK330.out 4) | (go_at_call 28; (with_reducible refine (chargeparkref07_Valid.calls a0_0 a1_1 a1_2 a1_3 a0_4 true _ A13.out).mono ?_); rintro e w50 ⟨rfl, hb⟩; have n0_ := Aside0.mk (blk_below (g := gb329) (o := .cells #[.int .i64 a0_0, .int .i64 a0_1, .int .i64 a0_2, .int .i64 a0_3, .int .i64 a0_4] 46 (0, 0)) (by (with_reducible repeat (first | refine blk_drewN ?_ _ | refine blk_drew ?_ | refine blk_alloc ?_ _)); exact BK329.out) hb); have n1_ := Aside0.mk (blk_below (g := gb330) (o := .cells #[.int .i64 a0_0, .int .i64 a1_1, .int .i64 a1_2, .int .i64 a1_3, .int .i64 a0_4] 46 (0, 0)) (by (with_reducible repeat (first | refine blk_drewN ?_ _ | refine blk_drew ?_ | refine blk_alloc ?_ _)); exact BK330.out) hb); have n2_ := Aside0.mk (below_step (by repeat (first | (with_reducible first | exact HB.out | apply below_alloc | apply pw_below_drewN | apply below_drew1 | refine below_set ?_ GE329.out | refine below_set ?_ GE330.out) | exact HB.out)) hb); clear BK329; clear BK330; clear HB; have BK329 := n0_; have BK330 := n1_; have HB := n2_; clear n0_ n1_ n2_; (try clear hb); (try clear hb2); (try clear hk); (try clear hi); have hcz51_0 : w50.cell? ⟨gb329, 0, none⟩ = some (.int .i64 a0_0) := (blk_cell BK329.out 0).trans rfl; have hcz51_1 : w50.cell? ⟨gb329, 1, none⟩ = some (.int .i64 a0_1) := (blk_cell BK329.out 1).trans rfl; have hcz51_2 : w50.cell? ⟨gb329, 2, none⟩ = some (.int .i64 a0_2) := (blk_cell BK329.out 2).trans rfl; have hcz51_3 : w50.cell? ⟨gb329, 3, none⟩ = some (.int .i64 a0_3) := (blk_cell BK329.out 3).trans rfl; have hcz51_4 : w50.cell? ⟨gb329, 4, none⟩ = some (.int .i64 a0_4) := (blk_cell BK329.out 4).trans rfl; have hfz51_0 := blk_frozen BK329.out 0; have hfz51_1 := blk_frozen BK329.out 1; have hfz51_2 := blk_frozen BK329.out 2; have hfz51_3 := blk_frozen BK329.out 3; have hfz51_4 := blk_frozen BK329.out 4; have hcz52_0 : w50.cell? ⟨gb330, 0, none⟩ = some (.int .i64 a0_0) := (blk_cell BK330.out 0).trans rfl; have hcz52_1 : w50.cell? ⟨gb330, 1, none⟩ = some (.int .i64 a1_1) := (blk_cell BK330.out 1).trans rfl; have hcz52_2 : w50.cell? ⟨gb330, 2, none⟩ = some (.int .i64 a1_2) := (blk_cell BK330.out 2).trans rfl; have hcz52_3 : w50.cell? ⟨gb330, 3, none⟩ = some (.int .i64 a1_3) := (blk_cell BK330.out 3).trans rfl; have hcz52_4 : w50.cell? ⟨gb330, 4, none⟩ = some (.int .i64 a0_4) := (blk_cell BK330.out 4).trans rfl; have hfz52_0 := blk_frozen BK330.out 0; have hfz52_1 := blk_frozen BK330.out 1; have hfz52_2 := blk_frozen BK330.out 2; have hfz52_3 := blk_frozen BK330.out 3; have hfz52_4 := blk_frozen BK330.out 4))
                go_meet
                case rel => exact ⟨_, (decide (a1_2 > a0_2)), (by first | rfl | (simp; done) | (simp [*]; done)), H', ⟨by first | omega | exact Nat.le_refl _⟩, ⟨by (with_reducible repeat (first | refine blk_drewN ?_ _ | refine blk_drew ?_ | refine blk_alloc ?_ _)); exact BK329.out⟩, ⟨by (with_reducible repeat (first | refine blk_drewN ?_ _ | refine blk_drew ?_ | refine blk_alloc ?_ _)); exact BK330.out⟩, ⟨by repeat (first | (with_reducible first | exact HB.out | apply below_alloc | apply pw_below_drewN | apply below_drew1 | refine below_set ?_ GE329.out | refine below_set ?_ GE330.out) | exact HB.out)⟩⟩
      · replace c14 := Bool.eq_false_iff.mpr c14
        subst c14
        have H1 : (chargeparklaw07_CableMargins.j0 k t331 true a0_0 a0_1 a0_2 a0_3 a0_4 a0_0 a1_1 a1_2 a1_3 a0_4) = some r := by rw [if_neg (show ¬ (false = true) by decide)] at H; exact H
        clear H
        have H := H1
        clear H1
        have H' := Aside0.mk H
        clear H
        have hnb53 := NB329_330.out
        have hnc53 := NB330_329.out
        have hcz54_0 : w8.cell? ⟨gb329, 0, none⟩ = some (.int .i64 a0_0) := (blk_cell BK329.out 0).trans rfl
        have hcz54_1 : w8.cell? ⟨gb329, 1, none⟩ = some (.int .i64 a0_1) := (blk_cell BK329.out 1).trans rfl
        have hcz54_2 : w8.cell? ⟨gb329, 2, none⟩ = some (.int .i64 a0_2) := (blk_cell BK329.out 2).trans rfl
        have hcz54_3 : w8.cell? ⟨gb329, 3, none⟩ = some (.int .i64 a0_3) := (blk_cell BK329.out 3).trans rfl
        have hcz54_4 : w8.cell? ⟨gb329, 4, none⟩ = some (.int .i64 a0_4) := (blk_cell BK329.out 4).trans rfl
        have hfz54_0 := blk_frozen BK329.out 0
        have hfz54_1 := blk_frozen BK329.out 1
        have hfz54_2 := blk_frozen BK329.out 2
        have hfz54_3 := blk_frozen BK329.out 3
        have hfz54_4 := blk_frozen BK329.out 4
        go_wp2_with (first | ((with_reducible refine gate_callee (f := 28) rfl ?_); refine goesL_ (some 18) rfl rfl Try.func28 (by kernel_rfl) rfl #[.agg #[.int .i64 a0_0, .int .i64 a0_1, .int .i64 a0_2, .int .i64 a0_3, .int .i64 a0_4]] rfl (by (try simp only [List.map_toArray, List.map_cons, List.map_nil]); first | done | rfl | (simp only [List.length_drop, List.length_take]; rfl)) ?_; (with_reducible refine (chargeparkref07_Valid.calls a0_0 a0_1 a0_2 a0_3 a0_4 true _ A11.out).mono ?_); rintro e w55 ⟨rfl, hb⟩; refine ⟨_, rfl, ?_⟩; have n0_ := Aside0.mk (blk_below (g := gb329) (o := .cells #[.int .i64 a0_0, .int .i64 a0_1, .int .i64 a0_2, .int .i64 a0_3, .int .i64 a0_4] 46 (0, 0)) (by (with_reducible repeat (first | refine blk_drewN ?_ _ | refine blk_drew ?_ | refine blk_alloc ?_ _)); refine blk_far ?_ NB329_330.out _; (with_reducible repeat (first | refine blk_drewN ?_ _ | refine blk_drew ?_ | refine blk_alloc ?_ _)); refine blk_far ?_ NB329_330.out _; (with_reducible repeat (first | refine blk_drewN ?_ _ | refine blk_drew ?_ | refine blk_alloc ?_ _)); exact BK329.out) hb); have n1_ := Aside0.mk (blk_below (g := gb330) (o := .cells #[.int .i64 a0_0, .int .i64 a1_1, .int .i64 a1_2, .int .i64 a1_3, .int .i64 a0_4] 46 (0, 0)) (by (with_reducible repeat (first | refine blk_drewN ?_ _ | refine blk_drew ?_ | refine blk_alloc ?_ _)); refine blk_put (cs := #[.int .i64 a0_0, .int .i64 a1_1, .int .i64 a1_2, .int .i64 a1_3, .int .i64 a1_4]) ?_ 4 _ rfl; (with_reducible repeat (first | refine blk_drewN ?_ _ | refine blk_drew ?_ | refine blk_alloc ?_ _)); refine blk_put (cs := #[.int .i64 a1_0, .int .i64 a1_1, .int .i64 a1_2, .int .i64 a1_3, .int .i64 a1_4]) ?_ 0 _ rfl; (with_reducible repeat (first | refine blk_drewN ?_ _ | refine blk_drew ?_ | refine blk_alloc ?_ _)); exact BK330.out) hb); have n2_ := Aside0.mk (below_step (by repeat (first | (with_reducible first | exact HB.out | apply below_alloc | apply pw_below_drewN | apply below_drew1 | refine below_set ?_ GE329.out | refine below_set ?_ GE330.out) | exact HB.out)) hb); clear BK329; clear BK330; clear HB; have BK329 := n0_; have BK330 := n1_; have HB := n2_; clear n0_ n1_ n2_; (try clear hb); (try clear hb2); (try clear hk); (try clear hi); have hcz56_0 : w55.cell? ⟨gb330, 0, none⟩ = some (.int .i64 a0_0) := (blk_cell BK330.out 0).trans rfl; have hcz56_1 : w55.cell? ⟨gb330, 1, none⟩ = some (.int .i64 a1_1) := (blk_cell BK330.out 1).trans rfl; have hcz56_2 : w55.cell? ⟨gb330, 2, none⟩ = some (.int .i64 a1_2) := (blk_cell BK330.out 2).trans rfl; have hcz56_3 : w55.cell? ⟨gb330, 3, none⟩ = some (.int .i64 a1_3) := (blk_cell BK330.out 3).trans rfl; have hcz56_4 : w55.cell? ⟨gb330, 4, none⟩ = some (.int .i64 a0_4) := (blk_cell BK330.out 4).trans rfl; have hfz56_0 := blk_frozen BK330.out 0; have hfz56_1 := blk_frozen BK330.out 1; have hfz56_2 := blk_frozen BK330.out 2; have hfz56_3 := blk_frozen BK330.out 3; have hfz56_4 := blk_frozen BK330.out 4) | (go_at_call 28; (with_reducible refine (chargeparkref07_Valid.calls a0_0 a1_1 a1_2 a1_3 a0_4 false _ A13.out).mono ?_); rintro e w57 ⟨rfl, hb⟩; have n0_ := Aside0.mk (blk_below (g := gb329) (o := .cells #[.int .i64 a0_0, .int .i64 a0_1, .int .i64 a0_2, .int .i64 a0_3, .int .i64 a0_4] 46 (0, 0)) (by (with_reducible repeat (first | refine blk_drewN ?_ _ | refine blk_drew ?_ | refine blk_alloc ?_ _)); exact BK329.out) hb); have n1_ := Aside0.mk (blk_below (g := gb330) (o := .cells #[.int .i64 a0_0, .int .i64 a1_1, .int .i64 a1_2, .int .i64 a1_3, .int .i64 a0_4] 46 (0, 0)) (by (with_reducible repeat (first | refine blk_drewN ?_ _ | refine blk_drew ?_ | refine blk_alloc ?_ _)); exact BK330.out) hb); have n2_ := Aside0.mk (below_step (by repeat (first | (with_reducible first | exact HB.out | apply below_alloc | apply pw_below_drewN | apply below_drew1 | refine below_set ?_ GE329.out | refine below_set ?_ GE330.out) | exact HB.out)) hb); clear BK329; clear BK330; clear HB; have BK329 := n0_; have BK330 := n1_; have HB := n2_; clear n0_ n1_ n2_; (try clear hb); (try clear hb2); (try clear hk); (try clear hi)))
        go_meet
        case rel => exact ⟨_, (true), (by first | rfl | (simp; done) | (simp [*]; done)), H', ⟨by first | omega | exact Nat.le_refl _⟩, ⟨by (with_reducible repeat (first | refine blk_drewN ?_ _ | refine blk_drew ?_ | refine blk_alloc ?_ _)); exact BK329.out⟩, ⟨by (with_reducible repeat (first | refine blk_drewN ?_ _ | refine blk_drew ?_ | refine blk_alloc ?_ _)); exact BK330.out⟩, ⟨by repeat (first | (with_reducible first | exact HB.out | apply below_alloc | apply pw_below_drewN | apply below_drew1 | refine below_set ?_ GE329.out | refine below_set ?_ GE330.out) | exact HB.out)⟩⟩
    · replace c12 := Bool.eq_false_iff.mpr c12
      subst c12
      have H1 : (chargeparklaw07_CableMargins.j0 k t331 true a0_0 a0_1 a0_2 a0_3 a0_4 a0_0 a1_1 a1_2 a1_3 a0_4) = some r := by rw [if_neg (show ¬ (false = true) by decide)] at H; exact H
      clear H
      have H := H1
      clear H1
      have H' := Aside0.mk H
      clear H
      have hnb58 := NB329_330.out
      have hnc58 := NB330_329.out
      have hcz59_0 : w8.cell? ⟨gb329, 0, none⟩ = some (.int .i64 a0_0) := (blk_cell BK329.out 0).trans rfl
      have hcz59_1 : w8.cell? ⟨gb329, 1, none⟩ = some (.int .i64 a0_1) := (blk_cell BK329.out 1).trans rfl
      have hcz59_2 : w8.cell? ⟨gb329, 2, none⟩ = some (.int .i64 a0_2) := (blk_cell BK329.out 2).trans rfl
      have hcz59_3 : w8.cell? ⟨gb329, 3, none⟩ = some (.int .i64 a0_3) := (blk_cell BK329.out 3).trans rfl
      have hcz59_4 : w8.cell? ⟨gb329, 4, none⟩ = some (.int .i64 a0_4) := (blk_cell BK329.out 4).trans rfl
      have hfz59_0 := blk_frozen BK329.out 0
      have hfz59_1 := blk_frozen BK329.out 1
      have hfz59_2 := blk_frozen BK329.out 2
      have hfz59_3 := blk_frozen BK329.out 3
      have hfz59_4 := blk_frozen BK329.out 4
      go_wp2_with (first | ((with_reducible refine gate_callee (f := 28) rfl ?_); refine goesL_ (some 18) rfl rfl Try.func28 (by kernel_rfl) rfl #[.agg #[.int .i64 a0_0, .int .i64 a0_1, .int .i64 a0_2, .int .i64 a0_3, .int .i64 a0_4]] rfl (by (try simp only [List.map_toArray, List.map_cons, List.map_nil]); first | done | rfl | (simp only [List.length_drop, List.length_take]; rfl)) ?_; (with_reducible refine (chargeparkref07_Valid.calls a0_0 a0_1 a0_2 a0_3 a0_4 false _ A11.out).mono ?_); rintro e w60 ⟨rfl, hb⟩; refine ⟨_, rfl, ?_⟩; have n0_ := Aside0.mk (blk_below (g := gb329) (o := .cells #[.int .i64 a0_0, .int .i64 a0_1, .int .i64 a0_2, .int .i64 a0_3, .int .i64 a0_4] 46 (0, 0)) (by (with_reducible repeat (first | refine blk_drewN ?_ _ | refine blk_drew ?_ | refine blk_alloc ?_ _)); refine blk_far ?_ NB329_330.out _; (with_reducible repeat (first | refine blk_drewN ?_ _ | refine blk_drew ?_ | refine blk_alloc ?_ _)); refine blk_far ?_ NB329_330.out _; (with_reducible repeat (first | refine blk_drewN ?_ _ | refine blk_drew ?_ | refine blk_alloc ?_ _)); exact BK329.out) hb); have n1_ := Aside0.mk (blk_below (g := gb330) (o := .cells #[.int .i64 a0_0, .int .i64 a1_1, .int .i64 a1_2, .int .i64 a1_3, .int .i64 a0_4] 46 (0, 0)) (by (with_reducible repeat (first | refine blk_drewN ?_ _ | refine blk_drew ?_ | refine blk_alloc ?_ _)); refine blk_put (cs := #[.int .i64 a0_0, .int .i64 a1_1, .int .i64 a1_2, .int .i64 a1_3, .int .i64 a1_4]) ?_ 4 _ rfl; (with_reducible repeat (first | refine blk_drewN ?_ _ | refine blk_drew ?_ | refine blk_alloc ?_ _)); refine blk_put (cs := #[.int .i64 a1_0, .int .i64 a1_1, .int .i64 a1_2, .int .i64 a1_3, .int .i64 a1_4]) ?_ 0 _ rfl; (with_reducible repeat (first | refine blk_drewN ?_ _ | refine blk_drew ?_ | refine blk_alloc ?_ _)); exact BK330.out) hb); have n2_ := Aside0.mk (below_step (by repeat (first | (with_reducible first | exact HB.out | apply below_alloc | apply pw_below_drewN | apply below_drew1 | refine below_set ?_ GE329.out | refine below_set ?_ GE330.out) | exact HB.out)) hb); clear BK329; clear BK330; clear HB; have BK329 := n0_; have BK330 := n1_; have HB := n2_; clear n0_ n1_ n2_; (try clear hb); (try clear hb2); (try clear hk); (try clear hi)))
      go_meet
      case rel => exact ⟨_, (true), (by first | rfl | (simp; done) | (simp [*]; done)), H', ⟨by first | omega | exact Nat.le_refl _⟩, ⟨by (with_reducible repeat (first | refine blk_drewN ?_ _ | refine blk_drew ?_ | refine blk_alloc ?_ _)); exact BK329.out⟩, ⟨by (with_reducible repeat (first | refine blk_drewN ?_ _ | refine blk_drew ?_ | refine blk_alloc ?_ _)); exact BK330.out⟩, ⟨by repeat (first | (with_reducible first | exact HB.out | apply below_alloc | apply pw_below_drewN | apply below_drew1 | refine below_set ?_ GE329.out | refine below_set ?_ GE330.out) | exact HB.out)⟩⟩
  case rest =>
    clear HC4
    try clear c1
    try clear c2
    try clear p2
    try clear c3
    try clear c4
    try clear c5
    try clear c12
    try clear c14
    try clear c15
    try clear c15b0
    try clear c15b1
    try clear c15b2
    try clear c16
    try clear c22
    try clear c22b0
    try clear c22b1
    try clear c22b2
    try clear c23
    try clear c27
    try clear c28
    try clear c30
    try clear c30b0
    try clear c31
    try clear c38
    try clear c38b0
    try clear c39
    try clear c46
    try clear c53
    try clear c58
    try clear hcz17_0
    try clear hcz17_1
    try clear hcz17_2
    try clear hcz17_3
    try clear hcz17_4
    try clear hcz19_0
    try clear hcz19_1
    try clear hcz19_2
    try clear hcz19_3
    try clear hcz19_4
    try clear hcz21_0
    try clear hcz21_1
    try clear hcz21_2
    try clear hcz21_3
    try clear hcz21_4
    try clear hcz24_0
    try clear hcz24_1
    try clear hcz24_2
    try clear hcz24_3
    try clear hcz24_4
    try clear hcz26_0
    try clear hcz26_1
    try clear hcz26_2
    try clear hcz26_3
    try clear hcz26_4
    try clear hcz28_0
    try clear hcz28_1
    try clear hcz28_2
    try clear hcz28_3
    try clear hcz28_4
    try clear hcz29_0
    try clear hcz29_1
    try clear hcz29_2
    try clear hcz29_3
    try clear hcz29_4
    try clear hcz32_0
    try clear hcz32_1
    try clear hcz32_2
    try clear hcz32_3
    try clear hcz32_4
    try clear hcz34_0
    try clear hcz34_1
    try clear hcz34_2
    try clear hcz34_3
    try clear hcz34_4
    try clear hcz36_0
    try clear hcz36_1
    try clear hcz36_2
    try clear hcz36_3
    try clear hcz36_4
    try clear hcz37_0
    try clear hcz37_1
    try clear hcz37_2
    try clear hcz37_3
    try clear hcz37_4
    try clear hcz40_0
    try clear hcz40_1
    try clear hcz40_2
    try clear hcz40_3
    try clear hcz40_4
    try clear hcz42_0
    try clear hcz42_1
    try clear hcz42_2
    try clear hcz42_3
    try clear hcz42_4
    try clear hcz44_0
    try clear hcz44_1
    try clear hcz44_2
    try clear hcz44_3
    try clear hcz44_4
    try clear hcz45_0
    try clear hcz45_1
    try clear hcz45_2
    try clear hcz45_3
    try clear hcz45_4
    try clear hcz47_0
    try clear hcz47_1
    try clear hcz47_2
    try clear hcz47_3
    try clear hcz47_4
    try clear hcz49_0
    try clear hcz49_1
    try clear hcz49_2
    try clear hcz49_3
    try clear hcz49_4
    try clear hcz51_0
    try clear hcz51_1
    try clear hcz51_2
    try clear hcz51_3
    try clear hcz51_4
    try clear hcz52_0
    try clear hcz52_1
    try clear hcz52_2
    try clear hcz52_3
    try clear hcz52_4
    try clear hcz54_0
    try clear hcz54_1
    try clear hcz54_2
    try clear hcz54_3
    try clear hcz54_4
    try clear hcz56_0
    try clear hcz56_1
    try clear hcz56_2
    try clear hcz56_3
    try clear hcz56_4
    try clear hcz59_0
    try clear hcz59_1
    try clear hcz59_2
    try clear hcz59_3
    try clear hcz59_4
    try clear hfz17_0
    try clear hfz17_1
    try clear hfz17_2
    try clear hfz17_3
    try clear hfz17_4
    try clear hfz19_0
    try clear hfz19_1
    try clear hfz19_2
    try clear hfz19_3
    try clear hfz19_4
    try clear hfz21_0
    try clear hfz21_1
    try clear hfz21_2
    try clear hfz21_3
    try clear hfz21_4
    try clear hfz24_0
    try clear hfz24_1
    try clear hfz24_2
    try clear hfz24_3
    try clear hfz24_4
    try clear hfz26_0
    try clear hfz26_1
    try clear hfz26_2
    try clear hfz26_3
    try clear hfz26_4
    try clear hfz28_0
    try clear hfz28_1
    try clear hfz28_2
    try clear hfz28_3
    try clear hfz28_4
    try clear hfz29_0
    try clear hfz29_1
    try clear hfz29_2
    try clear hfz29_3
    try clear hfz29_4
    try clear hfz32_0
    try clear hfz32_1
    try clear hfz32_2
    try clear hfz32_3
    try clear hfz32_4
    try clear hfz34_0
    try clear hfz34_1
    try clear hfz34_2
    try clear hfz34_3
    try clear hfz34_4
    try clear hfz36_0
    try clear hfz36_1
    try clear hfz36_2
    try clear hfz36_3
    try clear hfz36_4
    try clear hfz37_0
    try clear hfz37_1
    try clear hfz37_2
    try clear hfz37_3
    try clear hfz37_4
    try clear hfz40_0
    try clear hfz40_1
    try clear hfz40_2
    try clear hfz40_3
    try clear hfz40_4
    try clear hfz42_0
    try clear hfz42_1
    try clear hfz42_2
    try clear hfz42_3
    try clear hfz42_4
    try clear hfz44_0
    try clear hfz44_1
    try clear hfz44_2
    try clear hfz44_3
    try clear hfz44_4
    try clear hfz45_0
    try clear hfz45_1
    try clear hfz45_2
    try clear hfz45_3
    try clear hfz45_4
    try clear hfz47_0
    try clear hfz47_1
    try clear hfz47_2
    try clear hfz47_3
    try clear hfz47_4
    try clear hfz49_0
    try clear hfz49_1
    try clear hfz49_2
    try clear hfz49_3
    try clear hfz49_4
    try clear hfz51_0
    try clear hfz51_1
    try clear hfz51_2
    try clear hfz51_3
    try clear hfz51_4
    try clear hfz52_0
    try clear hfz52_1
    try clear hfz52_2
    try clear hfz52_3
    try clear hfz52_4
    try clear hfz54_0
    try clear hfz54_1
    try clear hfz54_2
    try clear hfz54_3
    try clear hfz54_4
    try clear hfz56_0
    try clear hfz56_1
    try clear hfz56_2
    try clear hfz56_3
    try clear hfz56_4
    try clear hfz59_0
    try clear hfz59_1
    try clear hfz59_2
    try clear hfz59_3
    try clear hfz59_4
    obtain ⟨kq, x55_3, rfl, HA, HJ3, BK329, BK330, HB⟩ := hcut
    cases kq with
    | zero => exact absurd HA.out (by simp [chargeparklaw07_CableMargins.j0])
    | succ kj3 =>
      have H := HA.out
      clear HA
      simp only [chargeparklaw07_CableMargins.j0] at H
      by_cases c61 : x55_3 = true
      · subst c61
        have H1 : (some t331) = some r := by rw [if_pos rfl] at H; exact H
        clear H
        have H := H1
        clear H1
        obtain rfl := Option.some.inj H
        go_wp2
        go_ret
        exact ⟨by first | rfl | (simp [errW_none, errW_some] <;> rfl) | (simp [*, errW_none, errW_some] <;> rfl), by repeat (first | (with_reducible first | exact HB.out | apply below_alloc | apply pw_below_drewN | apply below_drew1 | refine below_set ?_ GE329.out | refine below_set ?_ GE330.out) | exact HB.out)⟩
      · replace c61 := Bool.eq_false_iff.mpr c61
        subst c61
        have H1 : ((cable_Permitted.f a0_0 a0_1 a0_2 a0_3 a0_4).bind fun bt334 => ((cable_Permitted.f a0_0 a1_1 a1_2 a1_3 a0_4).bind fun bt336 => (if t331 = true then (if bt334.2 = 0 then (if bt336.2 = 0 then (some (decide (bt334.1 ≤ bt336.1))) else (some false)) else (some false)) else (some false)))) = some r := by rw [if_neg (show ¬ (false = true) by decide)] at H; exact H
        clear H
        have H := H1
        clear H1
        replace H := Option.bind_eq_some_iff.mp H
        obtain ⟨⟨t334, t335⟩, A620, H⟩ := H
        replace H : ((cable_Permitted.f a0_0 a1_1 a1_2 a1_3 a0_4).bind fun bt336 => (if t331 = true then (if t335 = 0 then (if bt336.2 = 0 then (some (decide (t334 ≤ bt336.1))) else (some false)) else (some false)) else (some false))) = some r := H
        have A62 := Aside0.mk A620
        clear A620
        replace H := Option.bind_eq_some_iff.mp H
        obtain ⟨⟨t336, t337⟩, A630, H⟩ := H
        replace H : (if t331 = true then (if t335 = 0 then (if t337 = 0 then (some (decide (t334 ≤ t336))) else (some false)) else (some false)) else (some false)) = some r := H
        have A63 := Aside0.mk A630
        clear A630
        by_cases c64 : t331 = true
        · subst c64
          have H1 : (if t335 = 0 then (if t337 = 0 then (some (decide (t334 ≤ t336))) else (some false)) else (some false)) = some r := by rw [if_pos rfl] at H; exact H
          clear H
          have H := H1
          clear H1
          by_cases c65 : t335 = 0
          · rw [if_pos c65] at H
            have c65b0 : (t335 == 0) = true := beq_iff_eq.mpr c65
            have c65b1 : (t335 != 0) = false := bne_eq_false_iff_eq.mpr c65
            clear c65
            by_cases c66 : t337 = 0
            · rw [if_pos c66] at H
              have c66b0 : (t337 == 0) = true := beq_iff_eq.mpr c66
              have c66b1 : (t337 != 0) = false := bne_eq_false_iff_eq.mpr c66
              clear c66
              obtain rfl := Option.some.inj H
              have hnb67 := NB329_330.out
              have hnc67 := NB330_329.out
              have hcz68_0 : wc.cell? ⟨gb329, 0, none⟩ = some (.int .i64 a0_0) := (blk_cell BK329.out 0).trans rfl
              have hcz68_1 : wc.cell? ⟨gb329, 1, none⟩ = some (.int .i64 a0_1) := (blk_cell BK329.out 1).trans rfl
              have hcz68_2 : wc.cell? ⟨gb329, 2, none⟩ = some (.int .i64 a0_2) := (blk_cell BK329.out 2).trans rfl
              have hcz68_3 : wc.cell? ⟨gb329, 3, none⟩ = some (.int .i64 a0_3) := (blk_cell BK329.out 3).trans rfl
              have hcz68_4 : wc.cell? ⟨gb329, 4, none⟩ = some (.int .i64 a0_4) := (blk_cell BK329.out 4).trans rfl
              have hfz68_0 := blk_frozen BK329.out 0
              have hfz68_1 := blk_frozen BK329.out 1
              have hfz68_2 := blk_frozen BK329.out 2
              have hfz68_3 := blk_frozen BK329.out 3
              have hfz68_4 := blk_frozen BK329.out 4
              go_wp2_with (first | ((with_reducible refine gate_callee (f := 29) rfl ?_); refine goesL_ (some 59) rfl rfl Try.func29 (by kernel_rfl) rfl #[.agg #[.int .i64 a0_0, .int .i64 a0_1, .int .i64 a0_2, .int .i64 a0_3, .int .i64 a0_4]] rfl (by (try simp only [List.map_toArray, List.map_cons, List.map_nil]); first | done | rfl | (simp only [List.length_drop, List.length_take]; rfl)) ?_; (with_reducible refine (cable_Permitted.calls a0_0 a0_1 a0_2 a0_3 a0_4 t334 t335 _ A62.out).mono ?_); rintro e w69 ⟨rfl, hb⟩; refine ⟨_, rfl, ?_⟩; have n0_ := Aside0.mk (blk_below (g := gb329) (o := .cells #[.int .i64 a0_0, .int .i64 a0_1, .int .i64 a0_2, .int .i64 a0_3, .int .i64 a0_4] 46 (0, 0)) (by (with_reducible repeat (first | refine blk_drewN ?_ _ | refine blk_drew ?_ | refine blk_alloc ?_ _)); exact BK329.out) hb); have n1_ := Aside0.mk (blk_below (g := gb330) (o := .cells #[.int .i64 a0_0, .int .i64 a1_1, .int .i64 a1_2, .int .i64 a1_3, .int .i64 a0_4] 46 (0, 0)) (by (with_reducible repeat (first | refine blk_drewN ?_ _ | refine blk_drew ?_ | refine blk_alloc ?_ _)); exact BK330.out) hb); have n2_ := Aside0.mk (below_step (by repeat (first | (with_reducible first | exact HB.out | apply below_alloc | apply pw_below_drewN | apply below_drew1 | refine below_set ?_ GE329.out | refine below_set ?_ GE330.out) | exact HB.out)) hb); clear BK329; clear BK330; clear HB; have BK329 := n0_; have BK330 := n1_; have HB := n2_; clear n0_ n1_ n2_; (try clear hb); (try clear hb2); (try clear hk); (try clear hi); have hcz70_0 : w69.cell? ⟨gb330, 0, none⟩ = some (.int .i64 a0_0) := (blk_cell BK330.out 0).trans rfl; have hcz70_1 : w69.cell? ⟨gb330, 1, none⟩ = some (.int .i64 a1_1) := (blk_cell BK330.out 1).trans rfl; have hcz70_2 : w69.cell? ⟨gb330, 2, none⟩ = some (.int .i64 a1_2) := (blk_cell BK330.out 2).trans rfl; have hcz70_3 : w69.cell? ⟨gb330, 3, none⟩ = some (.int .i64 a1_3) := (blk_cell BK330.out 3).trans rfl; have hcz70_4 : w69.cell? ⟨gb330, 4, none⟩ = some (.int .i64 a0_4) := (blk_cell BK330.out 4).trans rfl; have hfz70_0 := blk_frozen BK330.out 0; have hfz70_1 := blk_frozen BK330.out 1; have hfz70_2 := blk_frozen BK330.out 2; have hfz70_3 := blk_frozen BK330.out 3; have hfz70_4 := blk_frozen BK330.out 4) | ((with_reducible refine gate_callee (f := 29) rfl ?_); refine goesL_ (some 64) rfl rfl Try.func29 (by kernel_rfl) rfl #[.agg #[.int .i64 a0_0, .int .i64 a1_1, .int .i64 a1_2, .int .i64 a1_3, .int .i64 a0_4]] rfl (by (try simp only [List.map_toArray, List.map_cons, List.map_nil]); first | done | rfl | (simp only [List.length_drop, List.length_take]; rfl)) ?_; (with_reducible refine (cable_Permitted.calls a0_0 a1_1 a1_2 a1_3 a0_4 t336 t337 _ A63.out).mono ?_); rintro e w71 ⟨rfl, hb⟩; refine ⟨_, rfl, ?_⟩; have n0_ := Aside0.mk (blk_below (g := gb329) (o := .cells #[.int .i64 a0_0, .int .i64 a0_1, .int .i64 a0_2, .int .i64 a0_3, .int .i64 a0_4] 46 (0, 0)) (by (with_reducible repeat (first | refine blk_drewN ?_ _ | refine blk_drew ?_ | refine blk_alloc ?_ _)); exact BK329.out) hb); have n1_ := Aside0.mk (blk_below (g := gb330) (o := .cells #[.int .i64 a0_0, .int .i64 a1_1, .int .i64 a1_2, .int .i64 a1_3, .int .i64 a0_4] 46 (0, 0)) (by (with_reducible repeat (first | refine blk_drewN ?_ _ | refine blk_drew ?_ | refine blk_alloc ?_ _)); exact BK330.out) hb); have n2_ := Aside0.mk (below_step (by repeat (first | (with_reducible first | exact HB.out | apply below_alloc | apply pw_below_drewN | apply below_drew1 | refine below_set ?_ GE329.out | refine below_set ?_ GE330.out) | exact HB.out)) hb); clear BK329; clear BK330; clear HB; have BK329 := n0_; have BK330 := n1_; have HB := n2_; clear n0_ n1_ n2_; (try clear hb); (try clear hb2); (try clear hk); (try clear hi)))
              go_ret
              exact ⟨by first | rfl | (simp [errW_none, errW_some] <;> rfl) | (simp [*, errW_none, errW_some] <;> rfl), by repeat (first | (with_reducible first | exact HB.out | apply below_alloc | apply pw_below_drewN | apply below_drew1 | refine below_set ?_ GE329.out | refine below_set ?_ GE330.out) | exact HB.out)⟩
            · rw [if_neg c66] at H
              have c66b0 : (t337 == 0) = false := beq_eq_false_iff_ne.mpr c66
              have c66b1 : (t337 != 0) = true := bne_iff_ne.mpr c66
              obtain rfl := Option.some.inj H
              have hnb72 := NB329_330.out
              have hnc72 := NB330_329.out
              have hcz73_0 : wc.cell? ⟨gb329, 0, none⟩ = some (.int .i64 a0_0) := (blk_cell BK329.out 0).trans rfl
              have hcz73_1 : wc.cell? ⟨gb329, 1, none⟩ = some (.int .i64 a0_1) := (blk_cell BK329.out 1).trans rfl
              have hcz73_2 : wc.cell? ⟨gb329, 2, none⟩ = some (.int .i64 a0_2) := (blk_cell BK329.out 2).trans rfl
              have hcz73_3 : wc.cell? ⟨gb329, 3, none⟩ = some (.int .i64 a0_3) := (blk_cell BK329.out 3).trans rfl
              have hcz73_4 : wc.cell? ⟨gb329, 4, none⟩ = some (.int .i64 a0_4) := (blk_cell BK329.out 4).trans rfl
              have hfz73_0 := blk_frozen BK329.out 0
              have hfz73_1 := blk_frozen BK329.out 1
              have hfz73_2 := blk_frozen BK329.out 2
              have hfz73_3 := blk_frozen BK329.out 3
              have hfz73_4 := blk_frozen BK329.out 4
              go_wp2_with (first | ((with_reducible refine gate_callee (f := 29) rfl ?_); refine goesL_ (some 59) rfl rfl Try.func29 (by kernel_rfl) rfl #[.agg #[.int .i64 a0_0, .int .i64 a0_1, .int .i64 a0_2, .int .i64 a0_3, .int .i64 a0_4]] rfl (by (try simp only [List.map_toArray, List.map_cons, List.map_nil]); first | done | rfl | (simp only [List.length_drop, List.length_take]; rfl)) ?_; (with_reducible refine (cable_Permitted.calls a0_0 a0_1 a0_2 a0_3 a0_4 t334 t335 _ A62.out).mono ?_); rintro e w74 ⟨rfl, hb⟩; refine ⟨_, rfl, ?_⟩; have n0_ := Aside0.mk (blk_below (g := gb329) (o := .cells #[.int .i64 a0_0, .int .i64 a0_1, .int .i64 a0_2, .int .i64 a0_3, .int .i64 a0_4] 46 (0, 0)) (by (with_reducible repeat (first | refine blk_drewN ?_ _ | refine blk_drew ?_ | refine blk_alloc ?_ _)); exact BK329.out) hb); have n1_ := Aside0.mk (blk_below (g := gb330) (o := .cells #[.int .i64 a0_0, .int .i64 a1_1, .int .i64 a1_2, .int .i64 a1_3, .int .i64 a0_4] 46 (0, 0)) (by (with_reducible repeat (first | refine blk_drewN ?_ _ | refine blk_drew ?_ | refine blk_alloc ?_ _)); exact BK330.out) hb); have n2_ := Aside0.mk (below_step (by repeat (first | (with_reducible first | exact HB.out | apply below_alloc | apply pw_below_drewN | apply below_drew1 | refine below_set ?_ GE329.out | refine below_set ?_ GE330.out) | exact HB.out)) hb); clear BK329; clear BK330; clear HB; have BK329 := n0_; have BK330 := n1_; have HB := n2_; clear n0_ n1_ n2_; (try clear hb); (try clear hb2); (try clear hk); (try clear hi); have hcz75_0 : w74.cell? ⟨gb330, 0, none⟩ = some (.int .i64 a0_0) := (blk_cell BK330.out 0).trans rfl; have hcz75_1 : w74.cell? ⟨gb330, 1, none⟩ = some (.int .i64 a1_1) := (blk_cell BK330.out 1).trans rfl; have hcz75_2 : w74.cell? ⟨gb330, 2, none⟩ = some (.int .i64 a1_2) := (blk_cell BK330.out 2).trans rfl; have hcz75_3 : w74.cell? ⟨gb330, 3, none⟩ = some (.int .i64 a1_3) := (blk_cell BK330.out 3).trans rfl; have hcz75_4 : w74.cell? ⟨gb330, 4, none⟩ = some (.int .i64 a0_4) := (blk_cell BK330.out 4).trans rfl; have hfz75_0 := blk_frozen BK330.out 0; have hfz75_1 := blk_frozen BK330.out 1; have hfz75_2 := blk_frozen BK330.out 2; have hfz75_3 := blk_frozen BK330.out 3; have hfz75_4 := blk_frozen BK330.out 4) | ((with_reducible refine gate_callee (f := 29) rfl ?_); refine goesL_ (some 64) rfl rfl Try.func29 (by kernel_rfl) rfl #[.agg #[.int .i64 a0_0, .int .i64 a1_1, .int .i64 a1_2, .int .i64 a1_3, .int .i64 a0_4]] rfl (by (try simp only [List.map_toArray, List.map_cons, List.map_nil]); first | done | rfl | (simp only [List.length_drop, List.length_take]; rfl)) ?_; (with_reducible refine (cable_Permitted.calls a0_0 a1_1 a1_2 a1_3 a0_4 t336 t337 _ A63.out).mono ?_); rintro e w76 ⟨rfl, hb⟩; refine ⟨_, rfl, ?_⟩; have n0_ := Aside0.mk (blk_below (g := gb329) (o := .cells #[.int .i64 a0_0, .int .i64 a0_1, .int .i64 a0_2, .int .i64 a0_3, .int .i64 a0_4] 46 (0, 0)) (by (with_reducible repeat (first | refine blk_drewN ?_ _ | refine blk_drew ?_ | refine blk_alloc ?_ _)); exact BK329.out) hb); have n1_ := Aside0.mk (blk_below (g := gb330) (o := .cells #[.int .i64 a0_0, .int .i64 a1_1, .int .i64 a1_2, .int .i64 a1_3, .int .i64 a0_4] 46 (0, 0)) (by (with_reducible repeat (first | refine blk_drewN ?_ _ | refine blk_drew ?_ | refine blk_alloc ?_ _)); exact BK330.out) hb); have n2_ := Aside0.mk (below_step (by repeat (first | (with_reducible first | exact HB.out | apply below_alloc | apply pw_below_drewN | apply below_drew1 | refine below_set ?_ GE329.out | refine below_set ?_ GE330.out) | exact HB.out)) hb); clear BK329; clear BK330; clear HB; have BK329 := n0_; have BK330 := n1_; have HB := n2_; clear n0_ n1_ n2_; (try clear hb); (try clear hb2); (try clear hk); (try clear hi)))
              go_ret
              exact ⟨by first | rfl | (simp [errW_none, errW_some] <;> rfl) | (simp [*, errW_none, errW_some] <;> rfl), by repeat (first | (with_reducible first | exact HB.out | apply below_alloc | apply pw_below_drewN | apply below_drew1 | refine below_set ?_ GE329.out | refine below_set ?_ GE330.out) | exact HB.out)⟩
          · rw [if_neg c65] at H
            have c65b0 : (t335 == 0) = false := beq_eq_false_iff_ne.mpr c65
            have c65b1 : (t335 != 0) = true := bne_iff_ne.mpr c65
            obtain rfl := Option.some.inj H
            have hnb77 := NB329_330.out
            have hnc77 := NB330_329.out
            have hcz78_0 : wc.cell? ⟨gb329, 0, none⟩ = some (.int .i64 a0_0) := (blk_cell BK329.out 0).trans rfl
            have hcz78_1 : wc.cell? ⟨gb329, 1, none⟩ = some (.int .i64 a0_1) := (blk_cell BK329.out 1).trans rfl
            have hcz78_2 : wc.cell? ⟨gb329, 2, none⟩ = some (.int .i64 a0_2) := (blk_cell BK329.out 2).trans rfl
            have hcz78_3 : wc.cell? ⟨gb329, 3, none⟩ = some (.int .i64 a0_3) := (blk_cell BK329.out 3).trans rfl
            have hcz78_4 : wc.cell? ⟨gb329, 4, none⟩ = some (.int .i64 a0_4) := (blk_cell BK329.out 4).trans rfl
            have hfz78_0 := blk_frozen BK329.out 0
            have hfz78_1 := blk_frozen BK329.out 1
            have hfz78_2 := blk_frozen BK329.out 2
            have hfz78_3 := blk_frozen BK329.out 3
            have hfz78_4 := blk_frozen BK329.out 4
            go_wp2_with (first | ((with_reducible refine gate_callee (f := 29) rfl ?_); refine goesL_ (some 59) rfl rfl Try.func29 (by kernel_rfl) rfl #[.agg #[.int .i64 a0_0, .int .i64 a0_1, .int .i64 a0_2, .int .i64 a0_3, .int .i64 a0_4]] rfl (by (try simp only [List.map_toArray, List.map_cons, List.map_nil]); first | done | rfl | (simp only [List.length_drop, List.length_take]; rfl)) ?_; (with_reducible refine (cable_Permitted.calls a0_0 a0_1 a0_2 a0_3 a0_4 t334 t335 _ A62.out).mono ?_); rintro e w79 ⟨rfl, hb⟩; refine ⟨_, rfl, ?_⟩; have n0_ := Aside0.mk (blk_below (g := gb329) (o := .cells #[.int .i64 a0_0, .int .i64 a0_1, .int .i64 a0_2, .int .i64 a0_3, .int .i64 a0_4] 46 (0, 0)) (by (with_reducible repeat (first | refine blk_drewN ?_ _ | refine blk_drew ?_ | refine blk_alloc ?_ _)); exact BK329.out) hb); have n1_ := Aside0.mk (blk_below (g := gb330) (o := .cells #[.int .i64 a0_0, .int .i64 a1_1, .int .i64 a1_2, .int .i64 a1_3, .int .i64 a0_4] 46 (0, 0)) (by (with_reducible repeat (first | refine blk_drewN ?_ _ | refine blk_drew ?_ | refine blk_alloc ?_ _)); exact BK330.out) hb); have n2_ := Aside0.mk (below_step (by repeat (first | (with_reducible first | exact HB.out | apply below_alloc | apply pw_below_drewN | apply below_drew1 | refine below_set ?_ GE329.out | refine below_set ?_ GE330.out) | exact HB.out)) hb); clear BK329; clear BK330; clear HB; have BK329 := n0_; have BK330 := n1_; have HB := n2_; clear n0_ n1_ n2_; (try clear hb); (try clear hb2); (try clear hk); (try clear hi); have hcz80_0 : w79.cell? ⟨gb330, 0, none⟩ = some (.int .i64 a0_0) := (blk_cell BK330.out 0).trans rfl; have hcz80_1 : w79.cell? ⟨gb330, 1, none⟩ = some (.int .i64 a1_1) := (blk_cell BK330.out 1).trans rfl; have hcz80_2 : w79.cell? ⟨gb330, 2, none⟩ = some (.int .i64 a1_2) := (blk_cell BK330.out 2).trans rfl; have hcz80_3 : w79.cell? ⟨gb330, 3, none⟩ = some (.int .i64 a1_3) := (blk_cell BK330.out 3).trans rfl; have hcz80_4 : w79.cell? ⟨gb330, 4, none⟩ = some (.int .i64 a0_4) := (blk_cell BK330.out 4).trans rfl; have hfz80_0 := blk_frozen BK330.out 0; have hfz80_1 := blk_frozen BK330.out 1; have hfz80_2 := blk_frozen BK330.out 2; have hfz80_3 := blk_frozen BK330.out 3; have hfz80_4 := blk_frozen BK330.out 4) | ((with_reducible refine gate_callee (f := 29) rfl ?_); refine goesL_ (some 64) rfl rfl Try.func29 (by kernel_rfl) rfl #[.agg #[.int .i64 a0_0, .int .i64 a1_1, .int .i64 a1_2, .int .i64 a1_3, .int .i64 a0_4]] rfl (by (try simp only [List.map_toArray, List.map_cons, List.map_nil]); first | done | rfl | (simp only [List.length_drop, List.length_take]; rfl)) ?_; (with_reducible refine (cable_Permitted.calls a0_0 a1_1 a1_2 a1_3 a0_4 t336 t337 _ A63.out).mono ?_); rintro e w81 ⟨rfl, hb⟩; refine ⟨_, rfl, ?_⟩; have n0_ := Aside0.mk (blk_below (g := gb329) (o := .cells #[.int .i64 a0_0, .int .i64 a0_1, .int .i64 a0_2, .int .i64 a0_3, .int .i64 a0_4] 46 (0, 0)) (by (with_reducible repeat (first | refine blk_drewN ?_ _ | refine blk_drew ?_ | refine blk_alloc ?_ _)); exact BK329.out) hb); have n1_ := Aside0.mk (blk_below (g := gb330) (o := .cells #[.int .i64 a0_0, .int .i64 a1_1, .int .i64 a1_2, .int .i64 a1_3, .int .i64 a0_4] 46 (0, 0)) (by (with_reducible repeat (first | refine blk_drewN ?_ _ | refine blk_drew ?_ | refine blk_alloc ?_ _)); exact BK330.out) hb); have n2_ := Aside0.mk (below_step (by repeat (first | (with_reducible first | exact HB.out | apply below_alloc | apply pw_below_drewN | apply below_drew1 | refine below_set ?_ GE329.out | refine below_set ?_ GE330.out) | exact HB.out)) hb); clear BK329; clear BK330; clear HB; have BK329 := n0_; have BK330 := n1_; have HB := n2_; clear n0_ n1_ n2_; (try clear hb); (try clear hb2); (try clear hk); (try clear hi)))
            go_ret
            exact ⟨by first | rfl | (simp [errW_none, errW_some] <;> rfl) | (simp [*, errW_none, errW_some] <;> rfl), by repeat (first | (with_reducible first | exact HB.out | apply below_alloc | apply pw_below_drewN | apply below_drew1 | refine below_set ?_ GE329.out | refine below_set ?_ GE330.out) | exact HB.out)⟩
        · replace c64 := Bool.eq_false_iff.mpr c64
          subst c64
          have H1 : (some false) = some r := by rw [if_neg (show ¬ (false = true) by decide)] at H; exact H
          clear H
          have H := H1
          clear H1
          obtain rfl := Option.some.inj H
          have hnb82 := NB329_330.out
          have hnc82 := NB330_329.out
          have hcz83_0 : wc.cell? ⟨gb329, 0, none⟩ = some (.int .i64 a0_0) := (blk_cell BK329.out 0).trans rfl
          have hcz83_1 : wc.cell? ⟨gb329, 1, none⟩ = some (.int .i64 a0_1) := (blk_cell BK329.out 1).trans rfl
          have hcz83_2 : wc.cell? ⟨gb329, 2, none⟩ = some (.int .i64 a0_2) := (blk_cell BK329.out 2).trans rfl
          have hcz83_3 : wc.cell? ⟨gb329, 3, none⟩ = some (.int .i64 a0_3) := (blk_cell BK329.out 3).trans rfl
          have hcz83_4 : wc.cell? ⟨gb329, 4, none⟩ = some (.int .i64 a0_4) := (blk_cell BK329.out 4).trans rfl
          have hfz83_0 := blk_frozen BK329.out 0
          have hfz83_1 := blk_frozen BK329.out 1
          have hfz83_2 := blk_frozen BK329.out 2
          have hfz83_3 := blk_frozen BK329.out 3
          have hfz83_4 := blk_frozen BK329.out 4
          go_wp2_with (first | ((with_reducible refine gate_callee (f := 29) rfl ?_); refine goesL_ (some 59) rfl rfl Try.func29 (by kernel_rfl) rfl #[.agg #[.int .i64 a0_0, .int .i64 a0_1, .int .i64 a0_2, .int .i64 a0_3, .int .i64 a0_4]] rfl (by (try simp only [List.map_toArray, List.map_cons, List.map_nil]); first | done | rfl | (simp only [List.length_drop, List.length_take]; rfl)) ?_; (with_reducible refine (cable_Permitted.calls a0_0 a0_1 a0_2 a0_3 a0_4 t334 t335 _ A62.out).mono ?_); rintro e w84 ⟨rfl, hb⟩; refine ⟨_, rfl, ?_⟩; have n0_ := Aside0.mk (blk_below (g := gb329) (o := .cells #[.int .i64 a0_0, .int .i64 a0_1, .int .i64 a0_2, .int .i64 a0_3, .int .i64 a0_4] 46 (0, 0)) (by (with_reducible repeat (first | refine blk_drewN ?_ _ | refine blk_drew ?_ | refine blk_alloc ?_ _)); exact BK329.out) hb); have n1_ := Aside0.mk (blk_below (g := gb330) (o := .cells #[.int .i64 a0_0, .int .i64 a1_1, .int .i64 a1_2, .int .i64 a1_3, .int .i64 a0_4] 46 (0, 0)) (by (with_reducible repeat (first | refine blk_drewN ?_ _ | refine blk_drew ?_ | refine blk_alloc ?_ _)); exact BK330.out) hb); have n2_ := Aside0.mk (below_step (by repeat (first | (with_reducible first | exact HB.out | apply below_alloc | apply pw_below_drewN | apply below_drew1 | refine below_set ?_ GE329.out | refine below_set ?_ GE330.out) | exact HB.out)) hb); clear BK329; clear BK330; clear HB; have BK329 := n0_; have BK330 := n1_; have HB := n2_; clear n0_ n1_ n2_; (try clear hb); (try clear hb2); (try clear hk); (try clear hi); have hcz85_0 : w84.cell? ⟨gb330, 0, none⟩ = some (.int .i64 a0_0) := (blk_cell BK330.out 0).trans rfl; have hcz85_1 : w84.cell? ⟨gb330, 1, none⟩ = some (.int .i64 a1_1) := (blk_cell BK330.out 1).trans rfl; have hcz85_2 : w84.cell? ⟨gb330, 2, none⟩ = some (.int .i64 a1_2) := (blk_cell BK330.out 2).trans rfl; have hcz85_3 : w84.cell? ⟨gb330, 3, none⟩ = some (.int .i64 a1_3) := (blk_cell BK330.out 3).trans rfl; have hcz85_4 : w84.cell? ⟨gb330, 4, none⟩ = some (.int .i64 a0_4) := (blk_cell BK330.out 4).trans rfl; have hfz85_0 := blk_frozen BK330.out 0; have hfz85_1 := blk_frozen BK330.out 1; have hfz85_2 := blk_frozen BK330.out 2; have hfz85_3 := blk_frozen BK330.out 3; have hfz85_4 := blk_frozen BK330.out 4) | ((with_reducible refine gate_callee (f := 29) rfl ?_); refine goesL_ (some 64) rfl rfl Try.func29 (by kernel_rfl) rfl #[.agg #[.int .i64 a0_0, .int .i64 a1_1, .int .i64 a1_2, .int .i64 a1_3, .int .i64 a0_4]] rfl (by (try simp only [List.map_toArray, List.map_cons, List.map_nil]); first | done | rfl | (simp only [List.length_drop, List.length_take]; rfl)) ?_; (with_reducible refine (cable_Permitted.calls a0_0 a1_1 a1_2 a1_3 a0_4 t336 t337 _ A63.out).mono ?_); rintro e w86 ⟨rfl, hb⟩; refine ⟨_, rfl, ?_⟩; have n0_ := Aside0.mk (blk_below (g := gb329) (o := .cells #[.int .i64 a0_0, .int .i64 a0_1, .int .i64 a0_2, .int .i64 a0_3, .int .i64 a0_4] 46 (0, 0)) (by (with_reducible repeat (first | refine blk_drewN ?_ _ | refine blk_drew ?_ | refine blk_alloc ?_ _)); exact BK329.out) hb); have n1_ := Aside0.mk (blk_below (g := gb330) (o := .cells #[.int .i64 a0_0, .int .i64 a1_1, .int .i64 a1_2, .int .i64 a1_3, .int .i64 a0_4] 46 (0, 0)) (by (with_reducible repeat (first | refine blk_drewN ?_ _ | refine blk_drew ?_ | refine blk_alloc ?_ _)); exact BK330.out) hb); have n2_ := Aside0.mk (below_step (by repeat (first | (with_reducible first | exact HB.out | apply below_alloc | apply pw_below_drewN | apply below_drew1 | refine below_set ?_ GE329.out | refine below_set ?_ GE330.out) | exact HB.out)) hb); clear BK329; clear BK330; clear HB; have BK329 := n0_; have BK330 := n1_; have HB := n2_; clear n0_ n1_ n2_; (try clear hb); (try clear hb2); (try clear hk); (try clear hi)))
          go_ret
          exact ⟨by first | rfl | (simp [errW_none, errW_some] <;> rfl) | (simp [*, errW_none, errW_some] <;> rfl), by repeat (first | (with_reducible first | exact HB.out | apply below_alloc | apply pw_below_drewN | apply below_drew1 | refine below_set ?_ GE329.out | refine below_set ?_ GE330.out) | exact HB.out)⟩

end Go.Proofs.Ytnbfjdfmpadndaa.Pr
