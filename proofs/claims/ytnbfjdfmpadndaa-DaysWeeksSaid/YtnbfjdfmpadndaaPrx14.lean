-- Printed by hprint.py (a program of this claim's session over the kit's printer).
import Derived.Test.YtnbfjdfmpadndaaPrx0
import Derived.Test.YtnbfjdfmpadndaaPrx4
import Derived.Test.YtnbfjdfmpadndaaPrx9
import Derived.Test.YtnbfjdfmpadndaaHDaysL
namespace Go.Proofs.Ytnbfjdfmpadndaa.Pr
open Go.RowKit Go.Proofs.YtnbfjdfmpadndaaW.PrintWords Go.Proofs.YtnbfjdfmpadndaaW.PrintLast Go.Proofs.YtnbfjdfmpadndaaW.PrintMore
attribute [local go_sem] max2_int min2_int max_two min_two max_three min_three max_four min_four   -- for this text's walks alone
set_option linter.unusedVariables false
set_option linter.unusedSimpArgs false

/-! ### chargeparklaw26_DaysWeeks: function 7 -/
mutual
def chargeparklaw26_DaysWeeks.l0 : Nat → Bool → Int → Int → Int → Int → Int → List (S37) → Option (Bool)
  | 0, _, _, _, _, _, _, _ => none
  | k + 1, x5, x6, x7, x8, x26, x217000, x217001 => if x26 < 7 then ((days_Type.f x217000 x217001 ([] : List Int) (wrap64 (x6 + x26))).bind fun bt219 => ((days_Type.f x217000 x217001 ([] : List Int) (wrap64 ((wrap64 (x6 + x26)) + 7))).bind fun bt221 => ((days_Type.f x217000 x217001 ([] : List Int) (wrap64 ((wrap64 (x6 + x26)) + 1))).bind fun bt223 => (if bt219.2 = 0 then (if bt221.2 = 0 then (if bt223.2 = 0 then (if bt219.1 = bt221.1 then (chargeparklaw26_DaysWeeks.j1 k x5 x6 x7 x8 bt219.1 x26 ((bt219.1 == 1) != (bt223.1 == 2)) x217000 x217001) else (chargeparklaw26_DaysWeeks.j1 k x5 x6 x7 x8 bt219.1 x26 true x217000 x217001)) else (chargeparklaw26_DaysWeeks.j1 k x5 x6 x7 x8 bt219.1 x26 true x217000 x217001)) else (chargeparklaw26_DaysWeeks.j1 k x5 x6 x7 x8 bt219.1 x26 true x217000 x217001)) else (chargeparklaw26_DaysWeeks.j1 k x5 x6 x7 x8 bt219.1 x26 true x217000 x217001))))) else (if x5 = true then (if x7 = 5 then (some (x8 == 1)) else (some false)) else (some false))
def chargeparklaw26_DaysWeeks.j1 : Nat → Bool → Int → Int → Int → Int → Int → Bool → Int → List (S37) → Option (Bool)
  | 0, _, _, _, _, _, _, _, _, _ => none
  | k + 1, x5, x6, x7, x8, x10, x26, x76, x217000, x217001 => if x76 = true then (some false) else (if x10 = 0 then (if x10 = 1 then (chargeparklaw26_DaysWeeks.l0 k x5 x6 (wrap64 (x7 + 1)) (wrap64 (x8 + 1)) (wrap64 (x26 + 1)) x217000 x217001) else (chargeparklaw26_DaysWeeks.l0 k x5 x6 (wrap64 (x7 + 1)) x8 (wrap64 (x26 + 1)) x217000 x217001)) else (if x10 = 1 then (chargeparklaw26_DaysWeeks.l0 k x5 x6 x7 (wrap64 (x8 + 1)) (wrap64 (x26 + 1)) x217000 x217001) else (chargeparklaw26_DaysWeeks.l0 k x5 x6 x7 x8 (wrap64 (x26 + 1)) x217000 x217001)))
end
def chargeparklaw26_DaysWeeks.f (k : Nat) (a0_0 : Int) (l0_1 : List (S37)) (l0_2 : List Int) (a1 : Int) : Option (Bool) := (chargeparklaw26_head.f k).bind fun t217 => ((chargeparklaw26_usable.f k a0_0 l0_1 ([] : List Int)).bind fun t218 => (if t218 = true then (chargeparklaw26_DaysWeeks.l0 k t217 (wrap64 ((Int.tmod (wrap64 (a1)) 36480) - 1)) 0 0 0 a0_0 l0_1) else (some t217)))
theorem chargeparklaw26_DaysWeeks.mono_l : ∀ k, (∀ y0 y1 y2 y3 y4 y5 y6, LeO (chargeparklaw26_DaysWeeks.l0 k y0 y1 y2 y3 y4 y5 y6) (chargeparklaw26_DaysWeeks.l0 (k + 1) y0 y1 y2 y3 y4 y5 y6)) ∧ (∀ y0 y1 y2 y3 y4 y5 y6 y7 y8, LeO (chargeparklaw26_DaysWeeks.j1 k y0 y1 y2 y3 y4 y5 y6 y7 y8) (chargeparklaw26_DaysWeeks.j1 (k + 1) y0 y1 y2 y3 y4 y5 y6 y7 y8))
  | 0 => ⟨fun _ _ _ _ _ _ _ r h => by simp [chargeparklaw26_DaysWeeks.l0] at h, fun _ _ _ _ _ _ _ _ _ r h => by simp [chargeparklaw26_DaysWeeks.j1] at h⟩
  | k + 1 => by
    obtain ⟨ih0, ih1⟩ := chargeparklaw26_DaysWeeks.mono_l k
    refine ⟨?_, ?_⟩
    · intro y0 y1 y2 y3 y4 y5 y6
      unfold chargeparklaw26_DaysWeeks.l0
      repeat' first
      | (with_reducible exact ih0 _ _ _ _ _ _ _)
      | (with_reducible exact ih1 _ _ _ _ _ _ _ _ _)
      | (with_reducible exact chargeparklaw26_head.mono _)
      | (with_reducible exact chargeparklaw26_usable.mono _ _ _ _)
      | (with_reducible exact LeO.refl _)
      | (with_reducible exact LeO.none _)
      | (with_reducible refine LeO.ite ?_ ?_)
      | (with_reducible refine LeO.bind ?_ (fun _ => ?_))
      | exact ih0 _ _ _ _ _ _ _
      | exact ih1 _ _ _ _ _ _ _ _ _
      | exact chargeparklaw26_head.mono _
      | exact chargeparklaw26_usable.mono _ _ _ _
      | exact LeO.none _
      | refine LeO.ite ?_ ?_
      | refine LeO.bind ?_ (fun _ => ?_)
    · intro y0 y1 y2 y3 y4 y5 y6 y7 y8
      unfold chargeparklaw26_DaysWeeks.j1
      repeat' first
      | (with_reducible exact ih0 _ _ _ _ _ _ _)
      | (with_reducible exact ih1 _ _ _ _ _ _ _ _ _)
      | (with_reducible exact chargeparklaw26_head.mono _)
      | (with_reducible exact chargeparklaw26_usable.mono _ _ _ _)
      | (with_reducible exact LeO.refl _)
      | (with_reducible exact LeO.none _)
      | (with_reducible refine LeO.ite ?_ ?_)
      | (with_reducible refine LeO.bind ?_ (fun _ => ?_))
      | exact ih0 _ _ _ _ _ _ _
      | exact ih1 _ _ _ _ _ _ _ _ _
      | exact chargeparklaw26_head.mono _
      | exact chargeparklaw26_usable.mono _ _ _ _
      | exact LeO.none _
      | refine LeO.ite ?_ ?_
      | refine LeO.bind ?_ (fun _ => ?_)
theorem chargeparklaw26_DaysWeeks.mono : ∀ a0 a1 a2 a3 k, LeO (chargeparklaw26_DaysWeeks.f k a0 a1 a2 a3) (chargeparklaw26_DaysWeeks.f (k + 1) a0 a1 a2 a3) := by
  intro a0 a1 a2 a3 k
  obtain ⟨ih0, ih1⟩ := chargeparklaw26_DaysWeeks.mono_l k
  unfold chargeparklaw26_DaysWeeks.f
  repeat' first
      | (with_reducible exact ih0 _ _ _ _ _ _ _)
      | (with_reducible exact ih1 _ _ _ _ _ _ _ _ _)
      | (with_reducible exact chargeparklaw26_head.mono _)
      | (with_reducible exact chargeparklaw26_usable.mono _ _ _ _)
      | (with_reducible exact LeO.refl _)
      | (with_reducible exact LeO.none _)
      | (with_reducible refine LeO.ite ?_ ?_)
      | (with_reducible refine LeO.bind ?_ (fun _ => ?_))
      | exact ih0 _ _ _ _ _ _ _
      | exact ih1 _ _ _ _ _ _ _ _ _
      | exact chargeparklaw26_head.mono _
      | exact chargeparklaw26_usable.mono _ _ _ _
      | exact LeO.none _
      | refine LeO.ite ?_ ?_
      | refine LeO.bind ?_ (fun _ => ?_)
set_option maxHeartbeats 8000000 in
set_option maxRecDepth 100000 in
theorem chargeparklaw26_DaysWeeks.calls (k : Nat) (a0_0 : Int) (A0_1 : Option Addr) (c0_1 : Nat) (l0_1 : List (S37)) (A0_2 : Option Addr) (c0_2 : Nat) (l0_2 : List Int) (a1 : Int) (r : Bool) (w : World) (hr0_1 : Kd.C k37 w A0_1 l0_1.length l0_1) (hc0_1 : l0_1.length ≤ c0_1) (hr0_2 : Kd.C (Kd.int .i64) w A0_2 l0_2.length l0_2) (hc0_2 : l0_2.length ≤ c0_2) (h : chargeparklaw26_DaysWeeks.f k a0_0 l0_1 l0_2 a1 = some r) :
    Calls Try.prog 7 #[.agg #[.int .i64 a0_0, .slice A0_1 l0_1.length c0_1, .slice A0_2 l0_2.length c0_2], .int .u16 a1] w fun e w' => e = .returned (.bool r) ∧ Below w.heap.size w w' := by
  have hu25 := Try.underlying25
  have HR0_1 := Aside0.mk hr0_1
  have HC0_1 := Aside0.mk hc0_1
  clear hr0_1 hc0_1
  have HR0_2 := Aside0.mk hr0_2
  have HC0_2 := Aside0.mk hc0_2
  clear hr0_2 hc0_2
  have HB := Aside0.mk (Below.refl w.heap.size w)
  have H : ((chargeparklaw26_head.f k).bind fun t217 => ((chargeparklaw26_usable.f k a0_0 l0_1 ([] : List Int)).bind fun t218 => (if t218 = true then (chargeparklaw26_DaysWeeks.l0 k t217 (wrap64 ((Int.tmod (wrap64 (a1)) 36480) - 1)) 0 0 0 a0_0 l0_1) else (some t217)))) = some r := h
  clear h
  replace H := Option.bind_eq_some_iff.mp H
  obtain ⟨t217, A30, H⟩ := H
  replace H : ((chargeparklaw26_usable.f k a0_0 l0_1 ([] : List Int)).bind fun t218 => (if t218 = true then (chargeparklaw26_DaysWeeks.l0 k t217 (wrap64 ((Int.tmod (wrap64 (a1)) 36480) - 1)) 0 0 0 a0_0 l0_1) else (some t217))) = some r := H
  have A3 := Aside0.mk A30
  clear A30
  replace H := Option.bind_eq_some_iff.mp H
  obtain ⟨t218, A40, H⟩ := H
  replace H : (if t218 = true then (chargeparklaw26_DaysWeeks.l0 k t217 (wrap64 ((Int.tmod (wrap64 (a1)) 36480) - 1)) 0 0 0 a0_0 l0_1) else (some t217)) = some r := H
  have A4 := Aside0.mk A40
  clear A40
  by_cases c5 : t218 = true
  · subst c5
    have H1 : (chargeparklaw26_DaysWeeks.l0 k t217 (wrap64 ((Int.tmod (wrap64 (a1)) 36480) - 1)) 0 0 0 a0_0 l0_1) = some r := by rw [if_pos rfl] at H; exact H
    clear H
    have H := H1
    clear H1
    have H' := Aside0.mk H
    clear H
    go_enter Try.func7, Try.ntmps7
    go_wp2_with (first | ((with_reducible refine gate_dst (N := 2) rfl ?_); refine box_event ?hg (N := 2) ?hd (cs := #[.int .i64 a0_0, .slice A0_1 l0_1.length c0_1, .slice A0_2 l0_2.length c0_2]) (t := 25) ?hr ?_; (case hd => rfl); (case hg => rfl); (case hr => first | (go_simp; done) | (go_simp; rfl)); intro gb216 hg w6 hbox hb; have n0_ := Aside0.mk (below_step (by repeat (first | (with_reducible first | exact HB.out | apply below_alloc | apply pw_below_drewN | apply below_drew1) | exact HB.out)) hb); have n1_ := Aside0.mk (hbox); have n2_ := Aside0.mk ((by rw [hg]; exact (below_size (by repeat (first | (with_reducible first | exact HB.out | apply below_alloc | apply pw_below_drewN | apply below_drew1) | exact HB.out))) : w.heap.size ≤ gb216)); have n3_ := Aside0.mk ((by rw [hg]; exact (below_size (by repeat (first | (with_reducible first | exact HB.out | apply below_alloc | apply pw_below_drewN | apply below_drew1) | exact HB.out))) : w.heap.size ≤ gb216)); clear HB; have HB := n0_; have BK216 := n1_; have GW216 := n2_; have GE216 := n3_; clear n0_ n1_ n2_ n3_; clear hb hbox hg) | ((with_reducible refine gate_callee (f := 15) rfl ?_); refine goesL_ (some 16) rfl rfl Try.func15 (by kernel_rfl) rfl #[] rfl (by (try simp only [List.map_toArray, List.map_cons, List.map_nil]); first | done | rfl | (simp only [List.length_drop, List.length_take]; rfl)) ?_; (with_reducible refine (chargeparklaw26_head.calls k  t217 _ A3.out).mono ?_); rintro e w7 ⟨rfl, hb⟩; refine ⟨_, rfl, ?_⟩; have n0_ := Aside0.mk (blk_below (g := gb216) (o := .cells #[.int .i64 a0_0, .slice A0_1 l0_1.length c0_1, .slice A0_2 l0_2.length c0_2] 25 (0, 0)) (by (with_reducible repeat (first | refine blk_drewN ?_ _ | refine blk_drew ?_ | refine blk_alloc ?_ _)); exact BK216.out) hb); have n1_ := Aside0.mk (below_step (by repeat (first | (with_reducible first | exact HB.out | apply below_alloc | apply pw_below_drewN | apply below_drew1 | refine below_set ?_ GE216.out) | exact HB.out)) hb); clear BK216; clear HB; have BK216 := n0_; have HB := n1_; clear n0_ n1_; (try clear hb); (try clear hb2); (try clear hk); (try clear hi); have hcz8_0 : w7.cell? ⟨gb216, 0, none⟩ = some (.int .i64 a0_0) := (blk_cell BK216.out 0).trans rfl; have hcz8_1 : w7.cell? ⟨gb216, 1, none⟩ = some (.slice A0_1 l0_1.length c0_1) := (blk_cell BK216.out 1).trans rfl; have hcz8_2 : w7.cell? ⟨gb216, 2, none⟩ = some (.slice A0_2 l0_2.length c0_2) := (blk_cell BK216.out 2).trans rfl; have hfz8_0 := blk_frozen BK216.out 0; have hfz8_1 := blk_frozen BK216.out 1; have hfz8_2 := blk_frozen BK216.out 2) | ((with_reducible refine gate_callee (f := 23) rfl ?_); refine goesL_ (some 23) rfl rfl Try.func23 (by kernel_rfl) rfl #[.agg #[.int .i64 a0_0, .slice A0_1 l0_1.length c0_1, .slice none 0 0]] rfl (by (try simp only [List.map_toArray, List.map_cons, List.map_nil]); first | done | rfl | (simp only [List.length_drop, List.length_take]; rfl)) ?_; (refine (chargeparklaw26_usable.calls k a0_0 _ _ l0_1 _ _ ([] : List Int) true _ ?side1 ?side2 ?side3 ?side4 A4.out).mono ?_); (case side1 => exact Kd.C_below HR0_1.out (by repeat (first | (with_reducible first | exact HB.out | apply below_alloc | apply pw_below_drewN | apply below_drew1 | refine below_set ?_ GE216.out) | exact HB.out))); (case side2 => exact HC0_1.out); (case side3 => exact Kd.C_nil _ _); (case side4 => exact Nat.le_refl _); rintro e w9 ⟨rfl, hb⟩; refine ⟨_, rfl, ?_⟩; have n0_ := Aside0.mk (blk_below (g := gb216) (o := .cells #[.int .i64 a0_0, .slice A0_1 l0_1.length c0_1, .slice none 0 0] 25 (0, 0)) (by (with_reducible repeat (first | refine blk_drewN ?_ _ | refine blk_drew ?_ | refine blk_alloc ?_ _)); refine blk_put (cs := #[.int .i64 a0_0, .slice A0_1 l0_1.length c0_1, .slice A0_2 l0_2.length c0_2]) ?_ 2 _ rfl; (with_reducible repeat (first | refine blk_drewN ?_ _ | refine blk_drew ?_ | refine blk_alloc ?_ _)); exact BK216.out) hb); have n1_ := Aside0.mk (below_step (by repeat (first | (with_reducible first | exact HB.out | apply below_alloc | apply pw_below_drewN | apply below_drew1 | refine below_set ?_ GE216.out) | exact HB.out)) hb); clear BK216; clear HB; have BK216 := n0_; have HB := n1_; clear n0_ n1_; (try clear hb); (try clear hb2); (try clear hk); (try clear hi)))
    go_loopg [7, 8, 26] k (fun kq v7 v8 v26 w' => ∃ (x7_1 : Int) (x8_1 : Int) (x26_1 : Int), v7 = .int .i64 x7_1 ∧ v8 = .int .i64 x8_1 ∧ v26 = .int .i64 x26_1 ∧ Aside0 (chargeparklaw26_DaysWeeks.l0 kq t217 (wrap64 ((Int.tmod (wrap64 (a1)) 36480) - 1)) x7_1 x8_1 x26_1 a0_0 l0_1 = some r) ∧ Aside0 (kq ≤ k) ∧ Aside0 (w'.heap[gb216]? = some (.cells #[.int .i64 a0_0, (.slice A0_1 l0_1.length c0_1), (.slice none 0 0)] 25 (0, 0))) ∧ Aside0 (Below w.heap.size w w'))
    case atStart => exact ⟨(0), (0), (0), (by first | rfl | (simp; done) | (simp [*]; done)), (by first | rfl | (simp; done) | (simp [*]; done)), (by first | rfl | (simp; done) | (simp [*]; done)), H', ⟨Nat.le_refl _⟩, ⟨by (with_reducible repeat (first | refine blk_drewN ?_ _ | refine blk_drew ?_ | refine blk_alloc ?_ _)); exact BK216.out⟩, ⟨by repeat (first | (with_reducible first | exact HB.out | apply below_alloc | apply pw_below_drewN | apply below_drew1 | refine below_set ?_ GE216.out) | exact HB.out)⟩⟩
    case round =>
      clear H'
      try clear c1
      try clear c2
      try clear p2
      try clear c5
      try clear p6
      try clear c7
      try clear hcz8_0
      try clear hcz8_1
      try clear hcz8_2
      try clear hfz8_0
      try clear hfz8_1
      try clear hfz8_2
      obtain ⟨x7_1, x8_1, x26_1, rfl, rfl, rfl, HA, HK1, BK216, HB⟩ := hrel
      cases gk with
      | zero => exact absurd HA.out (by simp [chargeparklaw26_DaysWeeks.l0])
      | succ k1 =>
        have H := HA.out
        clear HA
        simp only [chargeparklaw26_DaysWeeks.l0] at H
        by_cases c10 : x26_1 < 7
        · rw [if_pos c10] at H
          have c10b0 : decide (x26_1 < 7) = true := decide_eq_true c10
          clear c10
          replace H := Option.bind_eq_some_iff.mp H
          obtain ⟨⟨t219, t220⟩, A110, H⟩ := H
          replace H : ((days_Type.f a0_0 l0_1 ([] : List Int) (wrap64 ((wrap64 ((wrap64 ((Int.tmod (wrap64 (a1)) 36480) - 1)) + x26_1)) + 7))).bind fun bt221 => ((days_Type.f a0_0 l0_1 ([] : List Int) (wrap64 ((wrap64 ((wrap64 ((Int.tmod (wrap64 (a1)) 36480) - 1)) + x26_1)) + 1))).bind fun bt223 => (if t220 = 0 then (if bt221.2 = 0 then (if bt223.2 = 0 then (if t219 = bt221.1 then (chargeparklaw26_DaysWeeks.j1 k1 t217 (wrap64 ((Int.tmod (wrap64 (a1)) 36480) - 1)) x7_1 x8_1 t219 x26_1 ((t219 == 1) != (bt223.1 == 2)) a0_0 l0_1) else (chargeparklaw26_DaysWeeks.j1 k1 t217 (wrap64 ((Int.tmod (wrap64 (a1)) 36480) - 1)) x7_1 x8_1 t219 x26_1 true a0_0 l0_1)) else (chargeparklaw26_DaysWeeks.j1 k1 t217 (wrap64 ((Int.tmod (wrap64 (a1)) 36480) - 1)) x7_1 x8_1 t219 x26_1 true a0_0 l0_1)) else (chargeparklaw26_DaysWeeks.j1 k1 t217 (wrap64 ((Int.tmod (wrap64 (a1)) 36480) - 1)) x7_1 x8_1 t219 x26_1 true a0_0 l0_1)) else (chargeparklaw26_DaysWeeks.j1 k1 t217 (wrap64 ((Int.tmod (wrap64 (a1)) 36480) - 1)) x7_1 x8_1 t219 x26_1 true a0_0 l0_1)))) = some r := H
          have A11 := Aside0.mk A110
          clear A110
          replace H := Option.bind_eq_some_iff.mp H
          obtain ⟨⟨t221, t222⟩, A120, H⟩ := H
          replace H : ((days_Type.f a0_0 l0_1 ([] : List Int) (wrap64 ((wrap64 ((wrap64 ((Int.tmod (wrap64 (a1)) 36480) - 1)) + x26_1)) + 1))).bind fun bt223 => (if t220 = 0 then (if t222 = 0 then (if bt223.2 = 0 then (if t219 = t221 then (chargeparklaw26_DaysWeeks.j1 k1 t217 (wrap64 ((Int.tmod (wrap64 (a1)) 36480) - 1)) x7_1 x8_1 t219 x26_1 ((t219 == 1) != (bt223.1 == 2)) a0_0 l0_1) else (chargeparklaw26_DaysWeeks.j1 k1 t217 (wrap64 ((Int.tmod (wrap64 (a1)) 36480) - 1)) x7_1 x8_1 t219 x26_1 true a0_0 l0_1)) else (chargeparklaw26_DaysWeeks.j1 k1 t217 (wrap64 ((Int.tmod (wrap64 (a1)) 36480) - 1)) x7_1 x8_1 t219 x26_1 true a0_0 l0_1)) else (chargeparklaw26_DaysWeeks.j1 k1 t217 (wrap64 ((Int.tmod (wrap64 (a1)) 36480) - 1)) x7_1 x8_1 t219 x26_1 true a0_0 l0_1)) else (chargeparklaw26_DaysWeeks.j1 k1 t217 (wrap64 ((Int.tmod (wrap64 (a1)) 36480) - 1)) x7_1 x8_1 t219 x26_1 true a0_0 l0_1))) = some r := H
          have A12 := Aside0.mk A120
          clear A120
          replace H := Option.bind_eq_some_iff.mp H
          obtain ⟨⟨t223, t224⟩, A130, H⟩ := H
          replace H : (if t220 = 0 then (if t222 = 0 then (if t224 = 0 then (if t219 = t221 then (chargeparklaw26_DaysWeeks.j1 k1 t217 (wrap64 ((Int.tmod (wrap64 (a1)) 36480) - 1)) x7_1 x8_1 t219 x26_1 ((t219 == 1) != (t223 == 2)) a0_0 l0_1) else (chargeparklaw26_DaysWeeks.j1 k1 t217 (wrap64 ((Int.tmod (wrap64 (a1)) 36480) - 1)) x7_1 x8_1 t219 x26_1 true a0_0 l0_1)) else (chargeparklaw26_DaysWeeks.j1 k1 t217 (wrap64 ((Int.tmod (wrap64 (a1)) 36480) - 1)) x7_1 x8_1 t219 x26_1 true a0_0 l0_1)) else (chargeparklaw26_DaysWeeks.j1 k1 t217 (wrap64 ((Int.tmod (wrap64 (a1)) 36480) - 1)) x7_1 x8_1 t219 x26_1 true a0_0 l0_1)) else (chargeparklaw26_DaysWeeks.j1 k1 t217 (wrap64 ((Int.tmod (wrap64 (a1)) 36480) - 1)) x7_1 x8_1 t219 x26_1 true a0_0 l0_1)) = some r := H
          have A13 := Aside0.mk A130
          clear A130
          have HC14 := Aside0.mk H
          clear H
          have hcz15_0 : wr.cell? ⟨gb216, 0, none⟩ = some (.int .i64 a0_0) := (blk_cell BK216.out 0).trans rfl
          have hcz15_1 : wr.cell? ⟨gb216, 1, none⟩ = some (.slice A0_1 l0_1.length c0_1) := (blk_cell BK216.out 1).trans rfl
          have hcz15_2 : wr.cell? ⟨gb216, 2, none⟩ = some (.slice none 0 0) := (blk_cell BK216.out 2).trans rfl
          have hfz15_0 := blk_frozen BK216.out 0
          have hfz15_1 := blk_frozen BK216.out 1
          have hfz15_2 := blk_frozen BK216.out 2
          go_upto_region 13 with (first | ((with_reducible refine gate_callee (f := 19) rfl ?_); refine goesL_ (some 34) rfl rfl Try.func19 (by kernel_rfl) rfl #[.agg #[.int .i64 a0_0, .slice A0_1 l0_1.length c0_1, .slice none 0 0], .int .i64 (wrap64 ((wrap64 ((Int.tmod (wrap64 (a1)) 36480) - 1)) + x26_1))] rfl (by (try simp only [List.map_toArray, List.map_cons, List.map_nil]); first | done | rfl | (simp only [List.length_drop, List.length_take]; rfl)) ?_; (refine (days_Type.calls a0_0 _ _ l0_1 _ _ ([] : List Int) (wrap64 ((wrap64 ((Int.tmod (wrap64 (a1)) 36480) - 1)) + x26_1)) t219 t220 _ ?side1 ?side2 ?side3 ?side4 A11.out).mono ?_); (case side1 => repeat (first | exact (Kd.C_below HR0_1.out HB.out) | (with_reducible refine Kd.C_alloc ?_ _) | (with_reducible refine Kd.C_drewN ?_ _) | (with_reducible refine Kd.C_drew ?_))); (case side2 => exact HC0_1.out); (case side3 => exact Kd.C_nil _ _); (case side4 => exact Nat.le_refl _); rintro e w16 ⟨rfl, hb⟩; refine ⟨_, rfl, ?_⟩; have n0_ := Aside0.mk (blk_below (g := gb216) (o := .cells #[.int .i64 a0_0, .slice A0_1 l0_1.length c0_1, .slice none 0 0] 25 (0, 0)) (by (with_reducible repeat (first | refine blk_drewN ?_ _ | refine blk_drew ?_ | refine blk_alloc ?_ _)); exact BK216.out) hb); have n1_ := Aside0.mk (below_step (by repeat (first | (with_reducible first | exact HB.out | apply below_alloc | apply pw_below_drewN | apply below_drew1 | refine below_set ?_ GE216.out) | exact HB.out)) hb); clear BK216; clear HB; have BK216 := n0_; have HB := n1_; clear n0_ n1_; (try clear hb); (try clear hb2); (try clear hk); (try clear hi); have hcz17_0 : w16.cell? ⟨gb216, 0, none⟩ = some (.int .i64 a0_0) := (blk_cell BK216.out 0).trans rfl; have hcz17_1 : w16.cell? ⟨gb216, 1, none⟩ = some (.slice A0_1 l0_1.length c0_1) := (blk_cell BK216.out 1).trans rfl; have hcz17_2 : w16.cell? ⟨gb216, 2, none⟩ = some (.slice none 0 0) := (blk_cell BK216.out 2).trans rfl; have hfz17_0 := blk_frozen BK216.out 0; have hfz17_1 := blk_frozen BK216.out 1; have hfz17_2 := blk_frozen BK216.out 2) | ((with_reducible refine gate_callee (f := 19) rfl ?_); refine goesL_ (some 43) rfl rfl Try.func19 (by kernel_rfl) rfl #[.agg #[.int .i64 a0_0, .slice A0_1 l0_1.length c0_1, .slice none 0 0], .int .i64 (wrap64 ((wrap64 ((wrap64 ((Int.tmod (wrap64 (a1)) 36480) - 1)) + x26_1)) + 7))] rfl (by (try simp only [List.map_toArray, List.map_cons, List.map_nil]); first | done | rfl | (simp only [List.length_drop, List.length_take]; rfl)) ?_; (refine (days_Type.calls a0_0 _ _ l0_1 _ _ ([] : List Int) (wrap64 ((wrap64 ((wrap64 ((Int.tmod (wrap64 (a1)) 36480) - 1)) + x26_1)) + 7)) t221 t222 _ ?side1 ?side2 ?side3 ?side4 A12.out).mono ?_); (case side1 => repeat (first | exact (Kd.C_below HR0_1.out HB.out) | (with_reducible refine Kd.C_alloc ?_ _) | (with_reducible refine Kd.C_drewN ?_ _) | (with_reducible refine Kd.C_drew ?_))); (case side2 => exact HC0_1.out); (case side3 => exact Kd.C_nil _ _); (case side4 => exact Nat.le_refl _); rintro e w18 ⟨rfl, hb⟩; refine ⟨_, rfl, ?_⟩; have n0_ := Aside0.mk (blk_below (g := gb216) (o := .cells #[.int .i64 a0_0, .slice A0_1 l0_1.length c0_1, .slice none 0 0] 25 (0, 0)) (by (with_reducible repeat (first | refine blk_drewN ?_ _ | refine blk_drew ?_ | refine blk_alloc ?_ _)); exact BK216.out) hb); have n1_ := Aside0.mk (below_step (by repeat (first | (with_reducible first | exact HB.out | apply below_alloc | apply pw_below_drewN | apply below_drew1 | refine below_set ?_ GE216.out) | exact HB.out)) hb); clear BK216; clear HB; have BK216 := n0_; have HB := n1_; clear n0_ n1_; (try clear hb); (try clear hb2); (try clear hk); (try clear hi); have hcz19_0 : w18.cell? ⟨gb216, 0, none⟩ = some (.int .i64 a0_0) := (blk_cell BK216.out 0).trans rfl; have hcz19_1 : w18.cell? ⟨gb216, 1, none⟩ = some (.slice A0_1 l0_1.length c0_1) := (blk_cell BK216.out 1).trans rfl; have hcz19_2 : w18.cell? ⟨gb216, 2, none⟩ = some (.slice none 0 0) := (blk_cell BK216.out 2).trans rfl; have hfz19_0 := blk_frozen BK216.out 0; have hfz19_1 := blk_frozen BK216.out 1; have hfz19_2 := blk_frozen BK216.out 2) | ((with_reducible refine gate_callee (f := 19) rfl ?_); refine goesL_ (some 52) rfl rfl Try.func19 (by kernel_rfl) rfl #[.agg #[.int .i64 a0_0, .slice A0_1 l0_1.length c0_1, .slice none 0 0], .int .i64 (wrap64 ((wrap64 ((wrap64 ((Int.tmod (wrap64 (a1)) 36480) - 1)) + x26_1)) + 1))] rfl (by (try simp only [List.map_toArray, List.map_cons, List.map_nil]); first | done | rfl | (simp only [List.length_drop, List.length_take]; rfl)) ?_; (refine (days_Type.calls a0_0 _ _ l0_1 _ _ ([] : List Int) (wrap64 ((wrap64 ((wrap64 ((Int.tmod (wrap64 (a1)) 36480) - 1)) + x26_1)) + 1)) t223 t224 _ ?side1 ?side2 ?side3 ?side4 A13.out).mono ?_); (case side1 => repeat (first | exact (Kd.C_below HR0_1.out HB.out) | (with_reducible refine Kd.C_alloc ?_ _) | (with_reducible refine Kd.C_drewN ?_ _) | (with_reducible refine Kd.C_drew ?_))); (case side2 => exact HC0_1.out); (case side3 => exact Kd.C_nil _ _); (case side4 => exact Nat.le_refl _); rintro e w20 ⟨rfl, hb⟩; refine ⟨_, rfl, ?_⟩; have n0_ := Aside0.mk (blk_below (g := gb216) (o := .cells #[.int .i64 a0_0, .slice A0_1 l0_1.length c0_1, .slice none 0 0] 25 (0, 0)) (by (with_reducible repeat (first | refine blk_drewN ?_ _ | refine blk_drew ?_ | refine blk_alloc ?_ _)); exact BK216.out) hb); have n1_ := Aside0.mk (below_step (by repeat (first | (with_reducible first | exact HB.out | apply below_alloc | apply pw_below_drewN | apply below_drew1 | refine below_set ?_ GE216.out) | exact HB.out)) hb); clear BK216; clear HB; have BK216 := n0_; have HB := n1_; clear n0_ n1_; (try clear hb); (try clear hb2); (try clear hk); (try clear hi)))
          (try simp only [Act.put, List.setIfInBounds_toArray, List.set_cons_zero, List.set_cons_succ])
          go_cut [76] (fun v76 wc => ∃ (kq : Nat) (x76_13 : Bool), v76 = .bool x76_13 ∧ Aside0 (chargeparklaw26_DaysWeeks.j1 kq t217 (wrap64 ((Int.tmod (wrap64 (a1)) 36480) - 1)) x7_1 x8_1 t219 x26_1 x76_13 a0_0 l0_1 = some r) ∧ Aside0 (kq ≤ k1) ∧ Aside0 (wc.heap[gb216]? = some (.cells #[.int .i64 a0_0, (.slice A0_1 l0_1.length c0_1), (.slice none 0 0)] 25 (0, 0))) ∧ Aside0 (Below w.heap.size w wc))
          case first =>
            have H := HC14.out
            clear HC14
            by_cases c21 : t220 = 0
            · rw [if_pos c21] at H
              have c21b0 : (t220 == 0) = true := beq_iff_eq.mpr c21
              have c21b1 : (t220 != 0) = false := bne_eq_false_iff_eq.mpr c21
              clear c21
              (first | rw [c21b0] | (simp only [i64_w, i32_w]; rw [c21b0]) | skip)
              by_cases c22 : t222 = 0
              · rw [if_pos c22] at H
                have c22b0 : (t222 == 0) = true := beq_iff_eq.mpr c22
                have c22b1 : (t222 != 0) = false := bne_eq_false_iff_eq.mpr c22
                clear c22
                by_cases c23 : t224 = 0
                · rw [if_pos c23] at H
                  have c23b0 : (t224 == 0) = true := beq_iff_eq.mpr c23
                  have c23b1 : (t224 != 0) = false := bne_eq_false_iff_eq.mpr c23
                  clear c23
                  by_cases c24 : t219 = t221
                  · rw [if_pos c24] at H
                    have c24b0 : (t219 == t221) = true := beq_iff_eq.mpr c24
                    have c24b1 : (t219 != t221) = false := bne_eq_false_iff_eq.mpr c24
                    clear c24
                    have H' := Aside0.mk H
                    clear H
                    go_wp2
                    go_meet
                    case rel => exact ⟨_, (((t219 == 1) != (t223 == 2))), (by first | rfl | (simp; done) | (simp [*]; done)), H', ⟨by have := HK1.out; first | omega | exact Nat.le_refl _⟩, ⟨by (with_reducible repeat (first | refine blk_drewN ?_ _ | refine blk_drew ?_ | refine blk_alloc ?_ _)); exact BK216.out⟩, ⟨by repeat (first | (with_reducible first | exact HB.out | apply below_alloc | apply pw_below_drewN | apply below_drew1 | refine below_set ?_ GE216.out) | exact HB.out)⟩⟩
                  · rw [if_neg c24] at H
                    have c24b0 : (t219 == t221) = false := beq_eq_false_iff_ne.mpr c24
                    have c24b1 : (t219 != t221) = true := bne_iff_ne.mpr c24
                    have H' := Aside0.mk H
                    clear H
                    go_wp2
                    go_meet
                    case rel => exact ⟨_, (true), (by first | rfl | (simp; done) | (simp [*]; done)), H', ⟨by have := HK1.out; first | omega | exact Nat.le_refl _⟩, ⟨by (with_reducible repeat (first | refine blk_drewN ?_ _ | refine blk_drew ?_ | refine blk_alloc ?_ _)); exact BK216.out⟩, ⟨by repeat (first | (with_reducible first | exact HB.out | apply below_alloc | apply pw_below_drewN | apply below_drew1 | refine below_set ?_ GE216.out) | exact HB.out)⟩⟩
                · rw [if_neg c23] at H
                  have c23b0 : (t224 == 0) = false := beq_eq_false_iff_ne.mpr c23
                  have c23b1 : (t224 != 0) = true := bne_iff_ne.mpr c23
                  have H' := Aside0.mk H
                  clear H
                  go_wp2
                  go_meet
                  case rel => exact ⟨_, (true), (by first | rfl | (simp; done) | (simp [*]; done)), H', ⟨by have := HK1.out; first | omega | exact Nat.le_refl _⟩, ⟨by (with_reducible repeat (first | refine blk_drewN ?_ _ | refine blk_drew ?_ | refine blk_alloc ?_ _)); exact BK216.out⟩, ⟨by repeat (first | (with_reducible first | exact HB.out | apply below_alloc | apply pw_below_drewN | apply below_drew1 | refine below_set ?_ GE216.out) | exact HB.out)⟩⟩
              · rw [if_neg c22] at H
                have c22b0 : (t222 == 0) = false := beq_eq_false_iff_ne.mpr c22
                have c22b1 : (t222 != 0) = true := bne_iff_ne.mpr c22
                have H' := Aside0.mk H
                clear H
                go_wp2
                go_meet
                case rel => exact ⟨_, (true), (by first | rfl | (simp; done) | (simp [*]; done)), H', ⟨by have := HK1.out; first | omega | exact Nat.le_refl _⟩, ⟨by (with_reducible repeat (first | refine blk_drewN ?_ _ | refine blk_drew ?_ | refine blk_alloc ?_ _)); exact BK216.out⟩, ⟨by repeat (first | (with_reducible first | exact HB.out | apply below_alloc | apply pw_below_drewN | apply below_drew1 | refine below_set ?_ GE216.out) | exact HB.out)⟩⟩
            · rw [if_neg c21] at H
              have c21b0 : (t220 == 0) = false := beq_eq_false_iff_ne.mpr c21
              have c21b1 : (t220 != 0) = true := bne_iff_ne.mpr c21
              (first | rw [c21b0] | (simp only [i64_w, i32_w]; rw [c21b0]) | skip)
              have H' := Aside0.mk H
              clear H
              go_wp2
              go_meet
              case rel => exact ⟨_, (true), (by first | rfl | (simp; done) | (simp [*]; done)), H', ⟨by have := HK1.out; first | omega | exact Nat.le_refl _⟩, ⟨by (with_reducible repeat (first | refine blk_drewN ?_ _ | refine blk_drew ?_ | refine blk_alloc ?_ _)); exact BK216.out⟩, ⟨by repeat (first | (with_reducible first | exact HB.out | apply below_alloc | apply pw_below_drewN | apply below_drew1 | refine below_set ?_ GE216.out) | exact HB.out)⟩⟩
          case rest =>
            clear HC14
            try clear c1
            try clear c2
            try clear p2
            try clear c5
            try clear p6
            try clear c7
            try clear c10
            try clear c10b0
            try clear c15
            try clear c19
            try clear c21
            try clear c21b0
            try clear c21b1
            try clear c22
            try clear c22b0
            try clear c22b1
            try clear c23
            try clear c23b0
            try clear c23b1
            try clear c24
            try clear c24b0
            try clear c24b1
            try clear hcz15_0
            try clear hcz15_1
            try clear hcz15_2
            try clear hcz17_0
            try clear hcz17_1
            try clear hcz17_2
            try clear hcz19_0
            try clear hcz19_1
            try clear hcz19_2
            try clear hcz8_0
            try clear hcz8_1
            try clear hcz8_2
            try clear hfz15_0
            try clear hfz15_1
            try clear hfz15_2
            try clear hfz17_0
            try clear hfz17_1
            try clear hfz17_2
            try clear hfz19_0
            try clear hfz19_1
            try clear hfz19_2
            try clear hfz8_0
            try clear hfz8_1
            try clear hfz8_2
            try clear p2
            try clear p6
            obtain ⟨kq, x76_13, rfl, HA, HJ13, BK216, HB⟩ := hcut
            cases kq with
            | zero => exact absurd HA.out (by simp [chargeparklaw26_DaysWeeks.j1])
            | succ kj13 =>
              have H := HA.out
              clear HA
              simp only [chargeparklaw26_DaysWeeks.j1] at H
              by_cases c25 : x76_13 = true
              · subst c25
                have H1 : (some false) = some r := by rw [if_pos rfl] at H; exact H
                clear H
                have H := H1
                clear H1
                obtain rfl := Option.some.inj H
                go_wp2
                go_ret
                exact ⟨by first | rfl | (simp [errW_none, errW_some] <;> rfl) | (simp [*, errW_none, errW_some] <;> rfl), by repeat (first | (with_reducible first | exact HB.out | apply below_alloc | apply pw_below_drewN | apply below_drew1 | refine below_set ?_ GE216.out) | exact HB.out)⟩
              · replace c25 := Bool.eq_false_iff.mpr c25
                subst c25
                have H1 : (if t219 = 0 then (if t219 = 1 then (chargeparklaw26_DaysWeeks.l0 kj13 t217 (wrap64 ((Int.tmod (wrap64 (a1)) 36480) - 1)) (wrap64 (x7_1 + 1)) (wrap64 (x8_1 + 1)) (wrap64 (x26_1 + 1)) a0_0 l0_1) else (chargeparklaw26_DaysWeeks.l0 kj13 t217 (wrap64 ((Int.tmod (wrap64 (a1)) 36480) - 1)) (wrap64 (x7_1 + 1)) x8_1 (wrap64 (x26_1 + 1)) a0_0 l0_1)) else (if t219 = 1 then (chargeparklaw26_DaysWeeks.l0 kj13 t217 (wrap64 ((Int.tmod (wrap64 (a1)) 36480) - 1)) x7_1 (wrap64 (x8_1 + 1)) (wrap64 (x26_1 + 1)) a0_0 l0_1) else (chargeparklaw26_DaysWeeks.l0 kj13 t217 (wrap64 ((Int.tmod (wrap64 (a1)) 36480) - 1)) x7_1 x8_1 (wrap64 (x26_1 + 1)) a0_0 l0_1))) = some r := by rw [if_neg (show ¬ (false = true) by decide)] at H; exact H
                clear H
                have H := H1
                clear H1
                by_cases c26 : t219 = 0
                · rw [if_pos c26] at H
                  have c26b0 : (t219 == 0) = true := beq_iff_eq.mpr c26
                  have c26b1 : (t219 != 0) = false := bne_eq_false_iff_eq.mpr c26
                  clear c26
                  by_cases c27 : t219 = 1
                  · rw [if_pos c27] at H
                    have c27b0 : (t219 == 1) = true := beq_iff_eq.mpr c27
                    have c27b1 : (t219 != 1) = false := bne_eq_false_iff_eq.mpr c27
                    clear c27
                    have H' := Aside0.mk H
                    clear H
                    go_wp2
                    go_roundg kj13
                    case measure => have := HK1.out; have := HJ13.out; omega
                    case rel => exact ⟨(wrap64 (x7_1 + 1)), (wrap64 (x8_1 + 1)), (wrap64 (x26_1 + 1)), (by first | rfl | (simp; done) | (simp [*]; done)), (by first | rfl | (simp; done) | (simp [*]; done)), (by first | rfl | (simp; done) | (simp [*]; done)), H', ⟨by have := HK1.out; have := HJ13.out; omega⟩, ⟨by (with_reducible repeat (first | refine blk_drewN ?_ _ | refine blk_drew ?_ | refine blk_alloc ?_ _)); exact BK216.out⟩, ⟨by repeat (first | (with_reducible first | exact HB.out | apply below_alloc | apply pw_below_drewN | apply below_drew1 | refine below_set ?_ GE216.out) | exact HB.out)⟩⟩
                  · rw [if_neg c27] at H
                    have c27b0 : (t219 == 1) = false := beq_eq_false_iff_ne.mpr c27
                    have c27b1 : (t219 != 1) = true := bne_iff_ne.mpr c27
                    have H' := Aside0.mk H
                    clear H
                    go_wp2
                    go_roundg kj13
                    case measure => have := HK1.out; have := HJ13.out; omega
                    case rel => exact ⟨(wrap64 (x7_1 + 1)), (x8_1), (wrap64 (x26_1 + 1)), (by first | rfl | (simp; done) | (simp [*]; done)), (by first | rfl | (simp; done) | (simp [*]; done)), (by first | rfl | (simp; done) | (simp [*]; done)), H', ⟨by have := HK1.out; have := HJ13.out; omega⟩, ⟨by (with_reducible repeat (first | refine blk_drewN ?_ _ | refine blk_drew ?_ | refine blk_alloc ?_ _)); exact BK216.out⟩, ⟨by repeat (first | (with_reducible first | exact HB.out | apply below_alloc | apply pw_below_drewN | apply below_drew1 | refine below_set ?_ GE216.out) | exact HB.out)⟩⟩
                · rw [if_neg c26] at H
                  have c26b0 : (t219 == 0) = false := beq_eq_false_iff_ne.mpr c26
                  have c26b1 : (t219 != 0) = true := bne_iff_ne.mpr c26
                  by_cases c28 : t219 = 1
                  · rw [if_pos c28] at H
                    have c28b0 : (t219 == 1) = true := beq_iff_eq.mpr c28
                    have c28b1 : (t219 != 1) = false := bne_eq_false_iff_eq.mpr c28
                    clear c28
                    have H' := Aside0.mk H
                    clear H
                    go_wp2
                    go_roundg kj13
                    case measure => have := HK1.out; have := HJ13.out; omega
                    case rel => exact ⟨(x7_1), (wrap64 (x8_1 + 1)), (wrap64 (x26_1 + 1)), (by first | rfl | (simp; done) | (simp [*]; done)), (by first | rfl | (simp; done) | (simp [*]; done)), (by first | rfl | (simp; done) | (simp [*]; done)), H', ⟨by have := HK1.out; have := HJ13.out; omega⟩, ⟨by (with_reducible repeat (first | refine blk_drewN ?_ _ | refine blk_drew ?_ | refine blk_alloc ?_ _)); exact BK216.out⟩, ⟨by repeat (first | (with_reducible first | exact HB.out | apply below_alloc | apply pw_below_drewN | apply below_drew1 | refine below_set ?_ GE216.out) | exact HB.out)⟩⟩
                  · rw [if_neg c28] at H
                    have c28b0 : (t219 == 1) = false := beq_eq_false_iff_ne.mpr c28
                    have c28b1 : (t219 != 1) = true := bne_iff_ne.mpr c28
                    have H' := Aside0.mk H
                    clear H
                    go_wp2
                    go_roundg kj13
                    case measure => have := HK1.out; have := HJ13.out; omega
                    case rel => exact ⟨(x7_1), (x8_1), (wrap64 (x26_1 + 1)), (by first | rfl | (simp; done) | (simp [*]; done)), (by first | rfl | (simp; done) | (simp [*]; done)), (by first | rfl | (simp; done) | (simp [*]; done)), H', ⟨by have := HK1.out; have := HJ13.out; omega⟩, ⟨by (with_reducible repeat (first | refine blk_drewN ?_ _ | refine blk_drew ?_ | refine blk_alloc ?_ _)); exact BK216.out⟩, ⟨by repeat (first | (with_reducible first | exact HB.out | apply below_alloc | apply pw_below_drewN | apply below_drew1 | refine below_set ?_ GE216.out) | exact HB.out)⟩⟩
        · rw [if_neg c10] at H
          have c10b0 : decide (x26_1 < 7) = false := decide_eq_false c10
          clear c10
          by_cases c29 : t217 = true
          · subst c29
            have H1 : (if x7_1 = 5 then (some (x8_1 == 1)) else (some false)) = some r := by rw [if_pos rfl] at H; exact H
            clear H
            have H := H1
            clear H1
            by_cases c30 : x7_1 = 5
            · rw [if_pos c30] at H
              have c30b0 : (x7_1 == 5) = true := beq_iff_eq.mpr c30
              have c30b1 : (x7_1 != 5) = false := bne_eq_false_iff_eq.mpr c30
              clear c30
              obtain rfl := Option.some.inj H
              go_wp2
              go_ret
              exact ⟨by first | rfl | (simp [errW_none, errW_some] <;> rfl) | (simp [*, errW_none, errW_some] <;> rfl), by repeat (first | (with_reducible first | exact HB.out | apply below_alloc | apply pw_below_drewN | apply below_drew1 | refine below_set ?_ GE216.out) | exact HB.out)⟩
            · rw [if_neg c30] at H
              have c30b0 : (x7_1 == 5) = false := beq_eq_false_iff_ne.mpr c30
              have c30b1 : (x7_1 != 5) = true := bne_iff_ne.mpr c30
              obtain rfl := Option.some.inj H
              go_wp2
              go_ret
              exact ⟨by first | rfl | (simp [errW_none, errW_some] <;> rfl) | (simp [*, errW_none, errW_some] <;> rfl), by repeat (first | (with_reducible first | exact HB.out | apply below_alloc | apply pw_below_drewN | apply below_drew1 | refine below_set ?_ GE216.out) | exact HB.out)⟩
          · replace c29 := Bool.eq_false_iff.mpr c29
            subst c29
            have H1 : (some false) = some r := by rw [if_neg (show ¬ (false = true) by decide)] at H; exact H
            clear H
            have H := H1
            clear H1
            obtain rfl := Option.some.inj H
            go_wp2
            go_ret
            exact ⟨by first | rfl | (simp [errW_none, errW_some] <;> rfl) | (simp [*, errW_none, errW_some] <;> rfl), by repeat (first | (with_reducible first | exact HB.out | apply below_alloc | apply pw_below_drewN | apply below_drew1 | refine below_set ?_ GE216.out) | exact HB.out)⟩
  · replace c5 := Bool.eq_false_iff.mpr c5
    subst c5
    have H1 : (some t217) = some r := by rw [if_neg (show ¬ (false = true) by decide)] at H; exact H
    clear H
    have H := H1
    clear H1
    obtain rfl := Option.some.inj H
    go_enter Try.func7, Try.ntmps7
    go_wp2_with (first | ((with_reducible refine gate_dst (N := 2) rfl ?_); refine box_event ?hg (N := 2) ?hd (cs := #[.int .i64 a0_0, .slice A0_1 l0_1.length c0_1, .slice A0_2 l0_2.length c0_2]) (t := 25) ?hr ?_; (case hd => rfl); (case hg => rfl); (case hr => first | (go_simp; done) | (go_simp; rfl)); intro gb216 hg w31 hbox hb; have n0_ := Aside0.mk (below_step (by repeat (first | (with_reducible first | exact HB.out | apply below_alloc | apply pw_below_drewN | apply below_drew1) | exact HB.out)) hb); have n1_ := Aside0.mk (hbox); have n2_ := Aside0.mk ((by rw [hg]; exact (below_size (by repeat (first | (with_reducible first | exact HB.out | apply below_alloc | apply pw_below_drewN | apply below_drew1) | exact HB.out))) : w.heap.size ≤ gb216)); have n3_ := Aside0.mk ((by rw [hg]; exact (below_size (by repeat (first | (with_reducible first | exact HB.out | apply below_alloc | apply pw_below_drewN | apply below_drew1) | exact HB.out))) : w.heap.size ≤ gb216)); clear HB; have HB := n0_; have BK216 := n1_; have GW216 := n2_; have GE216 := n3_; clear n0_ n1_ n2_ n3_; clear hb hbox hg) | ((with_reducible refine gate_callee (f := 15) rfl ?_); refine goesL_ (some 16) rfl rfl Try.func15 (by kernel_rfl) rfl #[] rfl (by (try simp only [List.map_toArray, List.map_cons, List.map_nil]); first | done | rfl | (simp only [List.length_drop, List.length_take]; rfl)) ?_; (with_reducible refine (chargeparklaw26_head.calls k  t217 _ A3.out).mono ?_); rintro e w32 ⟨rfl, hb⟩; refine ⟨_, rfl, ?_⟩; have n0_ := Aside0.mk (blk_below (g := gb216) (o := .cells #[.int .i64 a0_0, .slice A0_1 l0_1.length c0_1, .slice A0_2 l0_2.length c0_2] 25 (0, 0)) (by (with_reducible repeat (first | refine blk_drewN ?_ _ | refine blk_drew ?_ | refine blk_alloc ?_ _)); exact BK216.out) hb); have n1_ := Aside0.mk (below_step (by repeat (first | (with_reducible first | exact HB.out | apply below_alloc | apply pw_below_drewN | apply below_drew1 | refine below_set ?_ GE216.out) | exact HB.out)) hb); clear BK216; clear HB; have BK216 := n0_; have HB := n1_; clear n0_ n1_; (try clear hb); (try clear hb2); (try clear hk); (try clear hi); have hcz33_0 : w32.cell? ⟨gb216, 0, none⟩ = some (.int .i64 a0_0) := (blk_cell BK216.out 0).trans rfl; have hcz33_1 : w32.cell? ⟨gb216, 1, none⟩ = some (.slice A0_1 l0_1.length c0_1) := (blk_cell BK216.out 1).trans rfl; have hcz33_2 : w32.cell? ⟨gb216, 2, none⟩ = some (.slice A0_2 l0_2.length c0_2) := (blk_cell BK216.out 2).trans rfl; have hfz33_0 := blk_frozen BK216.out 0; have hfz33_1 := blk_frozen BK216.out 1; have hfz33_2 := blk_frozen BK216.out 2) | ((with_reducible refine gate_callee (f := 23) rfl ?_); refine goesL_ (some 23) rfl rfl Try.func23 (by kernel_rfl) rfl #[.agg #[.int .i64 a0_0, .slice A0_1 l0_1.length c0_1, .slice none 0 0]] rfl (by (try simp only [List.map_toArray, List.map_cons, List.map_nil]); first | done | rfl | (simp only [List.length_drop, List.length_take]; rfl)) ?_; (refine (chargeparklaw26_usable.calls k a0_0 _ _ l0_1 _ _ ([] : List Int) false _ ?side1 ?side2 ?side3 ?side4 A4.out).mono ?_); (case side1 => exact Kd.C_below HR0_1.out (by repeat (first | (with_reducible first | exact HB.out | apply below_alloc | apply pw_below_drewN | apply below_drew1 | refine below_set ?_ GE216.out) | exact HB.out))); (case side2 => exact HC0_1.out); (case side3 => exact Kd.C_nil _ _); (case side4 => exact Nat.le_refl _); rintro e w34 ⟨rfl, hb⟩; refine ⟨_, rfl, ?_⟩; have n0_ := Aside0.mk (blk_below (g := gb216) (o := .cells #[.int .i64 a0_0, .slice A0_1 l0_1.length c0_1, .slice none 0 0] 25 (0, 0)) (by (with_reducible repeat (first | refine blk_drewN ?_ _ | refine blk_drew ?_ | refine blk_alloc ?_ _)); refine blk_put (cs := #[.int .i64 a0_0, .slice A0_1 l0_1.length c0_1, .slice A0_2 l0_2.length c0_2]) ?_ 2 _ rfl; (with_reducible repeat (first | refine blk_drewN ?_ _ | refine blk_drew ?_ | refine blk_alloc ?_ _)); exact BK216.out) hb); have n1_ := Aside0.mk (below_step (by repeat (first | (with_reducible first | exact HB.out | apply below_alloc | apply pw_below_drewN | apply below_drew1 | refine below_set ?_ GE216.out) | exact HB.out)) hb); clear BK216; clear HB; have BK216 := n0_; have HB := n1_; clear n0_ n1_; (try clear hb); (try clear hb2); (try clear hk); (try clear hi)))
    go_ret
    exact ⟨by first | rfl | (simp [errW_none, errW_some] <;> rfl) | (simp [*, errW_none, errW_some] <;> rfl), by repeat (first | (with_reducible first | exact HB.out | apply below_alloc | apply pw_below_drewN | apply below_drew1 | refine below_set ?_ GE216.out) | exact HB.out)⟩

end Go.Proofs.Ytnbfjdfmpadndaa.Pr
