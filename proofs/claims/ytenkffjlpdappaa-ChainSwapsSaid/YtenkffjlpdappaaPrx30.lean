-- Printed by hprint.py (a program of this claim's session over the kit's printer).
import Derived.Test.YtenkffjlpdappaaPrx0
import Derived.Test.YtenkffjlpdappaaPrx22
import Derived.Test.YtenkffjlpdappaaHChainE
namespace Go.Proofs.Ytenkffjlpdappaa.Pr
open Go.RowKit Go.Proofs.YtenkffjlpdappaaW.PrintWords Go.Proofs.YtenkffjlpdappaaW.PrintLast
set_option linter.unusedVariables false
set_option linter.unusedSimpArgs false

/-! ### chargeparklaw40_ChainSwaps: function 16 -/
mutual
def chargeparklaw40_ChainSwaps.j0 : Nat → List (S44) → Int → Int → Int → Int → Bool → Bool → Option (Bool)
 | 0, _, _, _, _, _, _, _ => none
 | k + 1, x0, x1, x2, x3, x4, x11, x37 => if x37 = true then (some x11) else (if (x0.length : Int) = 0 then (none) else (if 0 ≤ (Int.tmod (wrap64 (x1)) (x0.length : Int)) then (if (Int.tmod (wrap64 (x1)) (x0.length : Int)) < (x0.length : Int) then ((some (([] : List (S44)) : List (S44))).bind fun y542 => (if y542.length + x0.length < 3518437208883 then ((some (y542 ++ x0 : List (S44))).bind fun y545 => (chargeparklaw40_ChainSwaps.l0 k x0 x2 x11 (wrap64 (1 + (Int.tmod (wrap64 (x3)) (x0.length : Int)))) (wrap64 (1 + (Int.tmod (wrap64 (x4)) (x0.length : Int)))) ((rd_T44 x0 (Int.tmod (wrap64 (x1)) (x0.length : Int))).f0) y545 (y545.length : Int) 0)) else (none))) else (none)) else (none)))
def chargeparklaw40_ChainSwaps.l0 : Nat → List (S44) → Int → Bool → Int → Int → Int → List (S44) → Int → Int → Option (Bool)
 | 0, _, _, _, _, _, _, _, _, _ => none
 | k + 1, x0, x2, x11, x12, x13, x14, x15, x64, x65 => if x65 < x64 then (if 0 ≤ x65 then (if x65 < (x15.length : Int) then (if ((rd_T44 x15 x65).f0) = x14 then (if ((rd_T44 x15 x65).f3) > (wrap64 (1000000000 - x2)) then (some x11) else (chargeparklaw40_ChainSwaps.l0 k x0 x2 x11 x12 x13 x14 (x15.set (x65 : Int).toNat (⟨(rd_T44 x15 x65).f0, (rd_T44 x15 x65).f1, (rd_T44 x15 x65).f2, wrap64 (((rd_T44 x15 x65).f3) + x2), (rd_T44 x15 x65).f4⟩ : S44)) x64 (wrap64 (x65 + 1)))) else (chargeparklaw40_ChainSwaps.l0 k x0 x2 x11 x12 x13 x14 x15 x64 (wrap64 (x65 + 1)))) else (none)) else (none)) else ((chain_Energy.f x0 (mn x12 x13) (mx x12 x13)).bind fun bt548 => ((chain_Energy.f x15 (mn x12 x13) (mx x12 x13)).bind fun bt550 => (if x11 = true then (if bt548.2 = 0 then (if bt550.2 = 0 then (some (bt548.1 == bt550.1)) else (some false)) else (some true)) else (some false))))
end
def chargeparklaw40_ChainSwaps.f (k : Nat) (l0 : List (S44)) (a1 : Int) (a2 : Int) (a3 : Int) (a4 : Int) : Option (Bool) := (chargeparklaw40_head.f).bind fun t540 => (if (l0.length : Int) = 0 then (chargeparklaw40_ChainSwaps.j0 k l0 a1 a2 a3 a4 t540 true) else (if (l0.length : Int) > 64 then (chargeparklaw40_ChainSwaps.j0 k l0 a1 a2 a3 a4 t540 true) else (if a2 < 0 then (chargeparklaw40_ChainSwaps.j0 k l0 a1 a2 a3 a4 t540 true) else (chargeparklaw40_ChainSwaps.j0 k l0 a1 a2 a3 a4 t540 (decide (a2 > 1000000))))))
theorem chargeparklaw40_ChainSwaps.mono_l : ∀ k, (∀ y0 y1 y2 y3 y4 y5 y6, LeO (chargeparklaw40_ChainSwaps.j0 k y0 y1 y2 y3 y4 y5 y6) (chargeparklaw40_ChainSwaps.j0 (k + 1) y0 y1 y2 y3 y4 y5 y6)) ∧ (∀ y0 y1 y2 y3 y4 y5 y6 y7 y8, LeO (chargeparklaw40_ChainSwaps.l0 k y0 y1 y2 y3 y4 y5 y6 y7 y8) (chargeparklaw40_ChainSwaps.l0 (k + 1) y0 y1 y2 y3 y4 y5 y6 y7 y8))
 | 0 => ⟨fun _ _ _ _ _ _ _ r h => by simp [chargeparklaw40_ChainSwaps.j0] at h, fun _ _ _ _ _ _ _ _ _ r h => by simp [chargeparklaw40_ChainSwaps.l0] at h⟩
 | k + 1 => by
  obtain ⟨ih0, ih1⟩ := chargeparklaw40_ChainSwaps.mono_l k
  refine ⟨?_, ?_⟩
  ·intro y0 y1 y2 y3 y4 y5 y6
   unfold chargeparklaw40_ChainSwaps.j0
   repeat' first
   | (with_reducible exact ih0 _ _ _ _ _ _ _)
   | (with_reducible exact ih1 _ _ _ _ _ _ _ _ _)
   | (with_reducible exact LeO.refl _)
   | (with_reducible exact LeO.none _)
   | (with_reducible refine LeO.ite ?_ ?_)
   | (with_reducible refine LeO.bind ?_ (fun _ => ?_))
   | exact ih0 _ _ _ _ _ _ _
   | exact ih1 _ _ _ _ _ _ _ _ _
   | exact LeO.none _
   | refine LeO.ite ?_ ?_
   | refine LeO.bind ?_ (fun _ => ?_)
  ·intro y0 y1 y2 y3 y4 y5 y6 y7 y8
   unfold chargeparklaw40_ChainSwaps.l0
   repeat' first
   | (with_reducible exact ih0 _ _ _ _ _ _ _)
   | (with_reducible exact ih1 _ _ _ _ _ _ _ _ _)
   | (with_reducible exact LeO.refl _)
   | (with_reducible exact LeO.none _)
   | (with_reducible refine LeO.ite ?_ ?_)
   | (with_reducible refine LeO.bind ?_ (fun _ => ?_))
   | exact ih0 _ _ _ _ _ _ _
   | exact ih1 _ _ _ _ _ _ _ _ _
   | exact LeO.none _
   | refine LeO.ite ?_ ?_
   | refine LeO.bind ?_ (fun _ => ?_)
theorem chargeparklaw40_ChainSwaps.mono : ∀ a0 a1 a2 a3 a4 k, LeO (chargeparklaw40_ChainSwaps.f k a0 a1 a2 a3 a4) (chargeparklaw40_ChainSwaps.f (k + 1) a0 a1 a2 a3 a4) := by
 intro a0 a1 a2 a3 a4 k
 obtain ⟨ih0, ih1⟩ := chargeparklaw40_ChainSwaps.mono_l k
 unfold chargeparklaw40_ChainSwaps.f
 repeat' first
   | (with_reducible exact ih0 _ _ _ _ _ _ _)
   | (with_reducible exact ih1 _ _ _ _ _ _ _ _ _)
   | (with_reducible exact LeO.refl _)
   | (with_reducible exact LeO.none _)
   | (with_reducible refine LeO.ite ?_ ?_)
   | (with_reducible refine LeO.bind ?_ (fun _ => ?_))
   | exact ih0 _ _ _ _ _ _ _
   | exact ih1 _ _ _ _ _ _ _ _ _
   | exact LeO.none _
   | refine LeO.ite ?_ ?_
   | refine LeO.bind ?_ (fun _ => ?_)
set_option maxHeartbeats 8000000 in
set_option maxRecDepth 100000 in
theorem chargeparklaw40_ChainSwaps.calls (k : Nat) (A0 : Option Addr) (c0 : Nat) (l0 : List (S44)) (a1 : Int) (a2 : Int) (a3 : Int) (a4 : Int) (r : Bool) (w : World) (hr0 : Kd.C k44 w A0 l0.length l0) (hc0 : l0.length ≤ c0) (hT_ : Aside0 (r = true)) (h : chargeparklaw40_ChainSwaps.f k l0 a1 a2 a3 a4 = some r) :
  Calls Try.prog 16 #[.slice A0 l0.length c0, .int .u8 a1, .int .i64 a2, .int .u8 a3, .int .u8 a4] w fun e w' => e = .returned (.bool r) ∧ Below w.heap.size w w' := by
 have HR0 := Aside0.mk hr0
 have HC0 := Aside0.mk hc0
 clear hr0 hc0
 have HB := Aside0.mk (Below.refl w.heap.size w)
 have H : ((chargeparklaw40_head.f).bind fun t540 => (if (l0.length : Int) = 0 then (chargeparklaw40_ChainSwaps.j0 k l0 a1 a2 a3 a4 t540 true) else (if (l0.length : Int) > 64 then (chargeparklaw40_ChainSwaps.j0 k l0 a1 a2 a3 a4 t540 true) else (if a2 < 0 then (chargeparklaw40_ChainSwaps.j0 k l0 a1 a2 a3 a4 t540 true) else (chargeparklaw40_ChainSwaps.j0 k l0 a1 a2 a3 a4 t540 (decide (a2 > 1000000))))))) = some r := h
 clear h
 replace H := Option.bind_eq_some_iff.mp H
 obtain ⟨t540, A60, H⟩ := H
 replace H : (if (l0.length : Int) = 0 then (chargeparklaw40_ChainSwaps.j0 k l0 a1 a2 a3 a4 t540 true) else (if (l0.length : Int) > 64 then (chargeparklaw40_ChainSwaps.j0 k l0 a1 a2 a3 a4 t540 true) else (if a2 < 0 then (chargeparklaw40_ChainSwaps.j0 k l0 a1 a2 a3 a4 t540 true) else (chargeparklaw40_ChainSwaps.j0 k l0 a1 a2 a3 a4 t540 (decide (a2 > 1000000)))))) = some r := H
 have A6 := Aside0.mk A60
 clear A60
 have HC7 := Aside0.mk H
 clear H
 go_enter Try.func16, Try.ntmps16
 go_upto_region 2 with (first | (go_at_call 28; (with_reducible refine (chargeparklaw40_head.calls  t540 _ A6.out).mono ?_); rintro e w8 ⟨rfl, hb⟩; have n0_ := Aside0.mk (below_step (by repeat (first | (with_reducible first | exact HB.out | apply below_alloc | apply pw_below_drewN | apply below_drew1) | exact HB.out)) hb); clear HB; have HB := n0_; clear n0_; (try clear hb); (try clear hb2); (try clear hk); (try clear hi)))
 repeat (go_quiet (first | (go_at_call 28; (with_reducible refine (chargeparklaw40_head.calls  t540 _ A6.out).mono ?_); rintro e w8 ⟨rfl, hb⟩; have n0_ := Aside0.mk (below_step (by repeat (first | (with_reducible first | exact HB.out | apply below_alloc | apply pw_below_drewN | apply below_drew1) | exact HB.out)) hb); clear HB; have HB := n0_; clear n0_; (try clear hb); (try clear hb2); (try clear hk); (try clear hi))); go_upto_region 2 with (first | (go_at_call 28; (with_reducible refine (chargeparklaw40_head.calls  t540 _ A6.out).mono ?_); rintro e w8 ⟨rfl, hb⟩; have n0_ := Aside0.mk (below_step (by repeat (first | (with_reducible first | exact HB.out | apply below_alloc | apply pw_below_drewN | apply below_drew1) | exact HB.out)) hb); clear HB; have HB := n0_; clear n0_; (try clear hb); (try clear hb2); (try clear hk); (try clear hi))))
 (try simp only [Act.put, List.setIfInBounds_toArray, List.set_cons_zero, List.set_cons_succ])
 go_cut [37] (fun v37 wc => ∃ (kq : Nat) (x37_6 : Bool), v37 = .bool x37_6 ∧ Aside0 (chargeparklaw40_ChainSwaps.j0 kq l0 a1 a2 a3 a4 t540 x37_6 = some r) ∧ Aside0 (kq ≤ k) ∧ Aside0 (Below w.heap.size w wc))
 case first =>
  have H := HC7.out
  clear HC7
  by_cases c9 : (l0.length : Int) = 0
  ·rw [if_pos c9] at H
   have c9b0 : ((l0.length : Int) == 0) = true := beq_iff_eq.mpr c9
   have c9b1 : ((l0.length : Int) != 0) = false := bne_eq_false_iff_eq.mpr c9
   clear c9
   (first | rw [c9b0] | (simp only [i64_w, i32_w]; rw [c9b0]) | skip)
   have H' := Aside0.mk H
   clear H
   go_wp2
   repeat (go_quiet (fail); try go_wp2)
   go_meet
   case rel => exact ⟨_, (true), (by first | rfl | (simp; done) | (simp [*]; done) | kernel_rfl), H', ⟨by first | omega | exact Nat.le_refl _⟩, ⟨by repeat (first | (with_reducible first | exact HB.out | apply below_alloc | apply pw_below_drewN | apply below_drew1) | exact HB.out)⟩⟩
  ·rw [if_neg c9] at H
   have c9b0 : ((l0.length : Int) == 0) = false := beq_eq_false_iff_ne.mpr c9
   have c9b1 : ((l0.length : Int) != 0) = true := bne_iff_ne.mpr c9
   have c9b2 : ¬ (l0 = []) := fun h_ => c9 (by rw [h_]; rfl)
   (first | rw [c9b0] | (simp only [i64_w, i32_w]; rw [c9b0]) | skip)
   by_cases c10 : (l0.length : Int) > 64
   ·rw [if_pos c10] at H
    have c10b0 : decide (64 < (l0.length : Int)) = true := decide_eq_true c10
    have c10b1 : decide (64 < l0.length) = true := decide_eq_true (by omega)
    clear c10
    have H' := Aside0.mk H
    clear H
    go_wp2
    repeat (go_quiet (fail); try go_wp2)
    go_meet
    case rel => exact ⟨_, (true), (by first | rfl | (simp; done) | (simp [*]; done) | kernel_rfl), H', ⟨by first | omega | exact Nat.le_refl _⟩, ⟨by repeat (first | (with_reducible first | exact HB.out | apply below_alloc | apply pw_below_drewN | apply below_drew1) | exact HB.out)⟩⟩
   ·rw [if_neg c10] at H
    have c10b0 : decide (64 < (l0.length : Int)) = false := decide_eq_false c10
    have c10b1 : decide (64 < l0.length) = false := decide_eq_false (by omega)
    clear c10
    by_cases c11 : a2 < 0
    ·rw [if_pos c11] at H
     have c11b0 : decide (a2 < 0) = true := decide_eq_true c11
     clear c11
     have H' := Aside0.mk H
     clear H
     go_wp2
     repeat (go_quiet (fail); try go_wp2)
     go_meet
     case rel => exact ⟨_, (true), (by first | rfl | (simp; done) | (simp [*]; done) | kernel_rfl), H', ⟨by first | omega | exact Nat.le_refl _⟩, ⟨by repeat (first | (with_reducible first | exact HB.out | apply below_alloc | apply pw_below_drewN | apply below_drew1) | exact HB.out)⟩⟩
    ·rw [if_neg c11] at H
     have c11b0 : decide (a2 < 0) = false := decide_eq_false c11
     clear c11
     have H' := Aside0.mk H
     clear H
     go_wp2
     repeat (go_quiet (fail); try go_wp2)
     go_meet
     case rel => exact ⟨_, (decide (a2 > 1000000)), (by first | rfl | (simp; done) | (simp [*]; done) | kernel_rfl), H', ⟨by first | omega | exact Nat.le_refl _⟩, ⟨by repeat (first | (with_reducible first | exact HB.out | apply below_alloc | apply pw_below_drewN | apply below_drew1) | exact HB.out)⟩⟩
 case rest =>
  clear HC7
  try clear c1
  try clear p2
  try clear c9
  try clear c9b0
  try clear c9b1
  try clear c9b2
  try clear c10
  try clear c10b0
  try clear c10b1
  try clear c11
  try clear c11b0
  obtain ⟨kq, x37_6, rfl, HA, HJ6, HB⟩ := hcut
  cases kq with
  | zero => exact absurd HA.out (by simp [chargeparklaw40_ChainSwaps.j0])
  | succ kj6 =>
   have H := HA.out
   clear HA
   simp only [chargeparklaw40_ChainSwaps.j0] at H
   by_cases c12 : x37_6 = true
   ·subst c12
    have H1 : (some t540) = some r := by rw [if_pos rfl] at H; exact H
    clear H
    have H := H1
    clear H1
    obtain rfl := Option.some.inj H
    go_wp2
    repeat (go_quiet (fail); try go_wp2)
    go_ret
    exact ⟨by first | rfl | (simp [errW_none, errW_some] <;> rfl) | (simp [*, errW_none, errW_some] <;> rfl), by repeat (first | (with_reducible first | exact HB.out | apply below_alloc | apply pw_below_drewN | apply below_drew1) | exact HB.out)⟩
   ·replace c12 := Bool.eq_false_iff.mpr c12
    subst c12
    have H1 : (if (l0.length : Int) = 0 then (none) else (if 0 ≤ (Int.tmod (wrap64 (a1)) (l0.length : Int)) then (if (Int.tmod (wrap64 (a1)) (l0.length : Int)) < (l0.length : Int) then ((some (([] : List (S44)) : List (S44))).bind fun y542 => (if y542.length + l0.length < 3518437208883 then ((some (y542 ++ l0 : List (S44))).bind fun y545 => (chargeparklaw40_ChainSwaps.l0 kj6 l0 a2 t540 (wrap64 (1 + (Int.tmod (wrap64 (a3)) (l0.length : Int)))) (wrap64 (1 + (Int.tmod (wrap64 (a4)) (l0.length : Int)))) ((rd_T44 l0 (Int.tmod (wrap64 (a1)) (l0.length : Int))).f0) y545 (y545.length : Int) 0)) else (none))) else (none)) else (none))) = some r := by rw [if_neg (show ¬ (false = true) by decide)] at H; exact H
    clear H
    have H := H1
    clear H1
    by_cases c13 : (l0.length : Int) = 0
    ·rw [if_pos c13] at H
     exact absurd H (by simp)
    ·rw [if_neg c13] at H
     have c13b0 : ((l0.length : Int) == 0) = false := beq_eq_false_iff_ne.mpr c13
     have c13b1 : ((l0.length : Int) != 0) = true := bne_iff_ne.mpr c13
     have c13b2 : ¬ (l0 = []) := fun h_ => c13 (by rw [h_]; rfl)
     obtain ⟨ji14, hji14⟩ : ∃ j_ : Int, (Int.tmod (wrap64 (a1)) (l0.length : Int)) = j_ := ⟨_, rfl⟩
     replace H : (if 0 ≤ (ji14) then (if (ji14) < (l0.length : Int) then ((some (([] : List (S44)) : List (S44))).bind fun y542 => (if y542.length + l0.length < 3518437208883 then ((some (y542 ++ l0 : List (S44))).bind fun y545 => (chargeparklaw40_ChainSwaps.l0 kj6 l0 a2 t540 (wrap64 (1 + (Int.tmod (wrap64 (a3)) (l0.length : Int)))) (wrap64 (1 + (Int.tmod (wrap64 (a4)) (l0.length : Int)))) ((rd_T44 l0 (ji14)).f0) y545 (y545.length : Int) 0)) else (none))) else (none)) else (none)) = some r := by first | (rw [hji14] at H; exact H) | (simp only [hji14] at H ⊢; exact H)
     by_cases c15 : 0 ≤ (ji14)
     ·rw [if_pos c15] at H
      have c15b0 : decide (0 ≤ (ji14)) = true := decide_eq_true c15
      clear c15
      by_cases c16 : (ji14) < (l0.length : Int)
      ·rw [if_pos c16] at H
       have c16b0 : decide ((ji14) < (l0.length : Int)) = true := decide_eq_true c16
       clear c16
       obtain ⟨y542, hy542⟩ : ∃ y_ : List (S44), y_ = (([] : List (S44))) := ⟨_, rfl⟩
       replace H : (if y542.length + l0.length < 3518437208883 then ((some (y542 ++ l0 : List (S44))).bind fun y545 => (chargeparklaw40_ChainSwaps.l0 kj6 l0 a2 t540 (wrap64 (1 + (Int.tmod (wrap64 (a3)) (l0.length : Int)))) (wrap64 (1 + (Int.tmod (wrap64 (a4)) (l0.length : Int)))) ((rd_T44 l0 (ji14)).f0) y545 (y545.length : Int) 0)) else (none)) = some r := by first | (rw [hy542]; with_reducible exact H) | (have H2_ := (Option.bind_some _ _).symm.trans H; rw [hy542]; with_reducible exact H2_) | (have H2_ := (Option.bind_some _ _).symm.trans H; with_reducible exact H2_) | with_reducible exact H | (rw [hy542]; exact H) | exact H
       have Ny542 := Aside0.mk hy542
       clear hy542
       by_cases c17 : y542.length + l0.length < 3518437208883
       ·rw [if_pos c17] at H
        have LMc17 := Aside0.mk c17
        clear c17
        obtain ⟨y545, hy545⟩ : ∃ y_ : List (S44), y_ = (y542 ++ l0) := ⟨_, rfl⟩
        replace H : (chargeparklaw40_ChainSwaps.l0 kj6 l0 a2 t540 (wrap64 (1 + (Int.tmod (wrap64 (a3)) (l0.length : Int)))) (wrap64 (1 + (Int.tmod (wrap64 (a4)) (l0.length : Int)))) ((rd_T44 l0 (ji14)).f0) y545 (y545.length : Int) 0) = some r := by first | (rw [hy545]; with_reducible exact H) | (have H2_ := (Option.bind_some _ _).symm.trans H; rw [hy545]; with_reducible exact H2_) | (have H2_ := (Option.bind_some _ _).symm.trans H; with_reducible exact H2_) | with_reducible exact H | (rw [hy545]; exact H) | exact H
        have Ny545 := Aside0.mk hy545
        clear hy545
        have H' := Aside0.mk H
        clear H
        have p541 : 0 ≤ ((ji14) : Int) := of_decide_eq_true (by first | (with_reducible assumption) | assumption)
        have q541 : (ji14) < (l0.length : Int) := of_decide_eq_true (by first | (with_reducible assumption) | assumption)
        obtain ⟨ad541, e541, hx541_0, hx541_1, hx541_2, hx541_3, hx541_4⟩ := at_T44 HR0.out (ji14) p541 q541
        cases e541
        replace hx541_0 := (HB.out.cell (World.block_lt_of_cell? w _ hx541_0)).trans hx541_0
        replace hx541_1 := (HB.out.cell (World.block_lt_of_cell? w _ hx541_1)).trans hx541_1
        replace hx541_2 := (HB.out.cell (World.block_lt_of_cell? w _ hx541_2)).trans hx541_2
        replace hx541_3 := (HB.out.cell (World.block_lt_of_cell? w _ hx541_3)).trans hx541_3
        replace hx541_4 := (HB.out.cell (World.block_lt_of_cell? w _ hx541_4)).trans hx541_4
        replace p541 := eq_true p541
        replace q541 := eq_true q541
        go_wp2_with (first | ((with_reducible refine gate_dst (N := 60) rfl ?_); refine Kd.R_lit k44 _ 44 ?hg (N := 60) ?hd (xs := ([] : List (S44))) (inner := []) (ok := fun _ => True) (okp := fun _ => True) ?hr ?hp (fun _ hk => hk) trivial (Below.refl _ _) (Nat.le_refl _) (by simp) ?_; (case hd => rfl); (case hg => rfl); (case hr => first | (go_simp; done) | (go_simp; rfl)); (case hp => exact (Reps.none _ _)); intro v543 w18 ho19 hb hg_ hnew_; clear hg_ hnew_; (first | rw [← Ny542.out] at ho19 | (simp only [Int.reduceToNat] at ho19; rw [← Ny542.out] at ho19)); have n0_ := Aside0.mk (Kd.R_lower ho19 (below_size (by repeat (first | (with_reducible first | exact HB.out | apply below_alloc | apply pw_below_drewN | apply below_drew1) | exact HB.out)))); have n1_ := Aside0.mk (below_step (by repeat (first | (with_reducible first | exact HB.out | apply below_alloc | apply pw_below_drewN | apply below_drew1) | exact HB.out)) hb); clear HB; have HO544 := n0_; have HB := n1_; clear n0_ n1_; clear hb ho19) | ((with_reducible refine gate_builtin (b := .append) (xs := #[.tmp 60, .tmp 61]) rfl ?_); at_builtin; refine Kd.R_append_rows k44 (w0 := w) w.heap.size rfl (.tmp 60) (.tmp 61) 26 44 (.agg #[(.int .i64 0), (.int .i64 0), (.int .i64 0), (.int .i64 0), (.int .u64 0)]) 40 rfl Try.underlying26 info44 rfl (by decide) (by omega) v543 y542 l0 _ _ _ (fun _ => True) (fun _ => False) rfl rfl ?aO ?aR (fun _ _ h => h) (fun _ h => h.elim) ?aF ?aB ?aS ?aL ?_; (case aR => repeat (first | exact (Kd.C_below HR0.out HB.out) | (with_reducible refine Kd.C_alloc ?_ _) | (with_reducible refine Kd.C_drewN ?_ _) | (with_reducible refine Kd.C_drew ?_))); (case aB => exact (by repeat (first | (with_reducible first | exact HB.out | apply below_alloc | apply pw_below_drewN | apply below_drew1) | exact HB.out))); (case aF => exact (fun _ _ => trivial)); (case aO => exact (by (with_reducible repeat (first | apply Kd.R_alloc | apply Kd.R_drewN | apply Kd.R_drew)); exact HO544.out)); (case aS => exact (below_size (by repeat (first | (with_reducible first | exact HB.out | apply below_alloc | apply pw_below_drewN | apply below_drew1) | exact HB.out)))); (case aL => have := LMc17.out; omega); intro v546 w20 ho hb hg hat; rw [← Ny545.out] at ho; have n0_ := Aside0.mk (hb); have n1_ := Aside0.mk (ho); clear HB; clear HO544; have HB := n0_; have HO547 := n1_; clear n0_ n1_; clear ho hb hg hat; obtain ⟨Ao21, co21, eo21⟩ := Kd.R_slice HO547.out; subst eo21))
        repeat (go_quiet (first | ((with_reducible refine gate_dst (N := 60) rfl ?_); refine Kd.R_lit k44 _ 44 ?hg (N := 60) ?hd (xs := ([] : List (S44))) (inner := []) (ok := fun _ => True) (okp := fun _ => True) ?hr ?hp (fun _ hk => hk) trivial (Below.refl _ _) (Nat.le_refl _) (by simp) ?_; (case hd => rfl); (case hg => rfl); (case hr => first | (go_simp; done) | (go_simp; rfl)); (case hp => exact (Reps.none _ _)); intro v543 w18 ho19 hb hg_ hnew_; clear hg_ hnew_; (first | rw [← Ny542.out] at ho19 | (simp only [Int.reduceToNat] at ho19; rw [← Ny542.out] at ho19)); have n0_ := Aside0.mk (Kd.R_lower ho19 (below_size (by repeat (first | (with_reducible first | exact HB.out | apply below_alloc | apply pw_below_drewN | apply below_drew1) | exact HB.out)))); have n1_ := Aside0.mk (below_step (by repeat (first | (with_reducible first | exact HB.out | apply below_alloc | apply pw_below_drewN | apply below_drew1) | exact HB.out)) hb); clear HB; have HO544 := n0_; have HB := n1_; clear n0_ n1_; clear hb ho19) | ((with_reducible refine gate_builtin (b := .append) (xs := #[.tmp 60, .tmp 61]) rfl ?_); at_builtin; refine Kd.R_append_rows k44 (w0 := w) w.heap.size rfl (.tmp 60) (.tmp 61) 26 44 (.agg #[(.int .i64 0), (.int .i64 0), (.int .i64 0), (.int .i64 0), (.int .u64 0)]) 40 rfl Try.underlying26 info44 rfl (by decide) (by omega) v543 y542 l0 _ _ _ (fun _ => True) (fun _ => False) rfl rfl ?aO ?aR (fun _ _ h => h) (fun _ h => h.elim) ?aF ?aB ?aS ?aL ?_; (case aR => repeat (first | exact (Kd.C_below HR0.out HB.out) | (with_reducible refine Kd.C_alloc ?_ _) | (with_reducible refine Kd.C_drewN ?_ _) | (with_reducible refine Kd.C_drew ?_))); (case aB => exact (by repeat (first | (with_reducible first | exact HB.out | apply below_alloc | apply pw_below_drewN | apply below_drew1) | exact HB.out))); (case aF => exact (fun _ _ => trivial)); (case aO => exact (by (with_reducible repeat (first | apply Kd.R_alloc | apply Kd.R_drewN | apply Kd.R_drew)); exact HO544.out)); (case aS => exact (below_size (by repeat (first | (with_reducible first | exact HB.out | apply below_alloc | apply pw_below_drewN | apply below_drew1) | exact HB.out)))); (case aL => have := LMc17.out; omega); intro v546 w20 ho hb hg hat; rw [← Ny545.out] at ho; have n0_ := Aside0.mk (hb); have n1_ := Aside0.mk (ho); clear HB; clear HO544; have HB := n0_; have HO547 := n1_; clear n0_ n1_; clear ho hb hg hat; obtain ⟨Ao21, co21, eo21⟩ := Kd.R_slice HO547.out; subst eo21)); try go_wp2_with (first | ((with_reducible refine gate_dst (N := 60) rfl ?_); refine Kd.R_lit k44 _ 44 ?hg (N := 60) ?hd (xs := ([] : List (S44))) (inner := []) (ok := fun _ => True) (okp := fun _ => True) ?hr ?hp (fun _ hk => hk) trivial (Below.refl _ _) (Nat.le_refl _) (by simp) ?_; (case hd => rfl); (case hg => rfl); (case hr => first | (go_simp; done) | (go_simp; rfl)); (case hp => exact (Reps.none _ _)); intro v543 w18 ho19 hb hg_ hnew_; clear hg_ hnew_; (first | rw [← Ny542.out] at ho19 | (simp only [Int.reduceToNat] at ho19; rw [← Ny542.out] at ho19)); have n0_ := Aside0.mk (Kd.R_lower ho19 (below_size (by repeat (first | (with_reducible first | exact HB.out | apply below_alloc | apply pw_below_drewN | apply below_drew1) | exact HB.out)))); have n1_ := Aside0.mk (below_step (by repeat (first | (with_reducible first | exact HB.out | apply below_alloc | apply pw_below_drewN | apply below_drew1) | exact HB.out)) hb); clear HB; have HO544 := n0_; have HB := n1_; clear n0_ n1_; clear hb ho19) | ((with_reducible refine gate_builtin (b := .append) (xs := #[.tmp 60, .tmp 61]) rfl ?_); at_builtin; refine Kd.R_append_rows k44 (w0 := w) w.heap.size rfl (.tmp 60) (.tmp 61) 26 44 (.agg #[(.int .i64 0), (.int .i64 0), (.int .i64 0), (.int .i64 0), (.int .u64 0)]) 40 rfl Try.underlying26 info44 rfl (by decide) (by omega) v543 y542 l0 _ _ _ (fun _ => True) (fun _ => False) rfl rfl ?aO ?aR (fun _ _ h => h) (fun _ h => h.elim) ?aF ?aB ?aS ?aL ?_; (case aR => repeat (first | exact (Kd.C_below HR0.out HB.out) | (with_reducible refine Kd.C_alloc ?_ _) | (with_reducible refine Kd.C_drewN ?_ _) | (with_reducible refine Kd.C_drew ?_))); (case aB => exact (by repeat (first | (with_reducible first | exact HB.out | apply below_alloc | apply pw_below_drewN | apply below_drew1) | exact HB.out))); (case aF => exact (fun _ _ => trivial)); (case aO => exact (by (with_reducible repeat (first | apply Kd.R_alloc | apply Kd.R_drewN | apply Kd.R_drew)); exact HO544.out)); (case aS => exact (below_size (by repeat (first | (with_reducible first | exact HB.out | apply below_alloc | apply pw_below_drewN | apply below_drew1) | exact HB.out)))); (case aL => have := LMc17.out; omega); intro v546 w20 ho hb hg hat; rw [← Ny545.out] at ho; have n0_ := Aside0.mk (hb); have n1_ := Aside0.mk (ho); clear HB; clear HO544; have HB := n0_; have HO547 := n1_; clear n0_ n1_; clear ho hb hg hat; obtain ⟨Ao21, co21, eo21⟩ := Kd.R_slice HO547.out; subst eo21)))
        go_loopg [65] kj6 (fun kq v65 w' => ∃ (x15_2 : List (S44)) (x65_2 : Int), v65 = .int .i64 x65_2 ∧ Aside0 (chargeparklaw40_ChainSwaps.l0 kq l0 a2 t540 (wrap64 (1 + (Int.tmod (wrap64 (a3)) (l0.length : Int)))) (wrap64 (1 + (Int.tmod (wrap64 (a4)) (l0.length : Int)))) ((rd_T44 l0 (ji14)).f0) x15_2 (y545.length : Int) x65_2 = some r) ∧ Aside0 (kq ≤ kj6) ∧ Aside0 (Kd.R k44 44 w' w.heap.size (fun _ => True) (.slice Ao21 y545.length co21) x15_2) ∧ Aside0 (Below w.heap.size w w'))
        case atStart => exact ⟨(y545), (0), (by first | rfl | (simp; done) | (simp [*]; done) | kernel_rfl), H', ⟨Nat.le_refl _⟩, ⟨by (with_reducible repeat (first | apply Kd.R_alloc | apply Kd.R_drewN | apply Kd.R_drew)); exact HO547.out⟩, ⟨by repeat (first | (with_reducible first | exact HB.out | apply below_alloc | apply pw_below_drewN | apply below_drew1) | exact HB.out)⟩⟩
        case round =>
         clear H'
         try clear c1
         try clear p2
         try clear p5
         try clear q5
         try clear hx5
         try clear p6
         try clear c9
         try clear c9b0
         try clear c9b1
         try clear c9b2
         try clear c10
         try clear c10b0
         try clear c10b1
         try clear c11
         try clear c11b0
         try clear c12
         try clear c13
         try clear c13b0
         try clear c13b1
         try clear c13b2
         try clear c15
         try clear c15b0
         try clear c16
         try clear c16b0
         try clear c17
         try clear hx541_0
         try clear hx541_1
         try clear hx541_2
         try clear hx541_3
         try clear hx541_4
         try clear p2
         try clear p541
         try clear q541
         obtain ⟨x15_2, x65_2, rfl, HA, HK2, HO_15, HB⟩ := hrel
         have hl15_2 := (Kd.R_reads' HO_15.out).1
         rw [hl15_2] at HO_15
         (try simp only [hl15_2])
         cases gk with
         | zero => exact absurd HA.out (by simp [chargeparklaw40_ChainSwaps.l0])
         | succ k2 =>
          have H := HA.out
          clear HA
          simp only [chargeparklaw40_ChainSwaps.l0] at H
          by_cases c22 : x65_2 < (y545.length : Int)
          ·rw [if_pos c22] at H
           have c22b0 : decide (x65_2 < (y545.length : Int)) = true := decide_eq_true c22
           clear c22
           by_cases c23 : 0 ≤ x65_2
           ·rw [if_pos c23] at H
            have c23b0 : decide (0 ≤ x65_2) = true := decide_eq_true c23
            clear c23
            by_cases c24 : x65_2 < (x15_2.length : Int)
            ·rw [if_pos c24] at H
             have c24b0 : decide (x65_2 < (x15_2.length : Int)) = true := decide_eq_true c24
             clear c24
             by_cases c25 : ((rd_T44 x15_2 x65_2).f0) = ((rd_T44 l0 (ji14)).f0)
             ·rw [if_pos c25] at H
              have c25b0 : (((rd_T44 x15_2 x65_2).f0) == ((rd_T44 l0 (ji14)).f0)) = true := beq_iff_eq.mpr c25
              have c25b1 : (((rd_T44 x15_2 x65_2).f0) != ((rd_T44 l0 (ji14)).f0)) = false := bne_eq_false_iff_eq.mpr c25
              clear c25
              by_cases c26 : ((rd_T44 x15_2 x65_2).f3) > (wrap64 (1000000000 - a2))
              ·rw [if_pos c26] at H
               have c26b0 : decide ((wrap64 (1000000000 - a2)) < ((rd_T44 x15_2 x65_2).f3)) = true := decide_eq_true c26
               clear c26
               obtain rfl := Option.some.inj H
               have p552 : 0 ≤ (x65_2 : Int) := of_decide_eq_true (by first | (with_reducible assumption) | assumption)
               have q552 : x65_2 < (x15_2.length : Int) := of_decide_eq_true (by first | (with_reducible assumption) | assumption)
               obtain ⟨ad552, e552, hx552_0, hx552_1, hx552_2, hx552_3, hx552_4⟩ := at_T44 (Kd.R_reads' HO_15.out).2.2 x65_2 p552 q552
               cases e552
               replace p552 := eq_true p552
               replace q552 := eq_true q552
               have p553 : 0 ≤ (x65_2 : Int) := of_decide_eq_true (by first | (with_reducible assumption) | assumption)
               have q553 : x65_2 < (x15_2.length : Int) := of_decide_eq_true (by first | (with_reducible assumption) | assumption)
               obtain ⟨ad553, e553, hx553_0, hx553_1, hx553_2, hx553_3, hx553_4⟩ := at_T44 (Kd.R_reads' HO_15.out).2.2 x65_2 p553 q553
               obtain rfl : ad552 = ad553 := (by injection e553)
               replace p553 := eq_true p553
               replace q553 := eq_true q553
               go_wp2
               repeat (go_quiet (fail); try go_wp2)
               go_ret
               exact ⟨by first | rfl | (simp [errW_none, errW_some] <;> rfl) | (simp only [← hji14]; first | rfl | (simp [errW_none, errW_some] <;> rfl)) | (simp [*, errW_none, errW_some] <;> rfl), by repeat (first | (with_reducible first | exact HB.out | apply below_alloc | apply pw_below_drewN | apply below_drew1) | exact HB.out)⟩
              ·rw [if_neg c26] at H
               have c26b0 : decide ((wrap64 (1000000000 - a2)) < ((rd_T44 x15_2 x65_2).f3)) = false := decide_eq_false c26
               clear c26
               obtain ⟨y555, hy555⟩ : ∃ y_ : List (S44), y_ = (x15_2.set (x65_2 : Int).toNat (⟨(rd_T44 x15_2 x65_2).f0, (rd_T44 x15_2 x65_2).f1, (rd_T44 x15_2 x65_2).f2, wrap64 (((rd_T44 x15_2 x65_2).f3) + a2), (rd_T44 x15_2 x65_2).f4⟩ : S44)) := ⟨_, rfl⟩
               replace H : (chargeparklaw40_ChainSwaps.l0 k2 l0 a2 t540 (wrap64 (1 + (Int.tmod (wrap64 (a3)) (l0.length : Int)))) (wrap64 (1 + (Int.tmod (wrap64 (a4)) (l0.length : Int)))) ((rd_T44 l0 (ji14)).f0) y555 (y545.length : Int) (wrap64 (x65_2 + 1))) = some r := by first | (rw [hy555]; with_reducible exact H) | (have H2_ := (Option.bind_some _ _).symm.trans H; rw [hy555]; with_reducible exact H2_) | (have H2_ := (Option.bind_some _ _).symm.trans H; with_reducible exact H2_) | with_reducible exact H | (rw [hy555]; exact H) | exact H
               have Ny555 := Aside0.mk hy555
               clear hy555
               have H' := Aside0.mk H
               clear H
               have p552 : 0 ≤ (x65_2 : Int) := of_decide_eq_true (by first | (with_reducible assumption) | assumption)
               have q552 : x65_2 < (x15_2.length : Int) := of_decide_eq_true (by first | (with_reducible assumption) | assumption)
               obtain ⟨ad552, e552, hx552_0, hx552_1, hx552_2, hx552_3, hx552_4⟩ := at_T44 (Kd.R_reads' HO_15.out).2.2 x65_2 p552 q552
               cases e552
               replace p552 := eq_true p552
               replace q552 := eq_true q552
               have p553 : 0 ≤ (x65_2 : Int) := of_decide_eq_true (by first | (with_reducible assumption) | assumption)
               have q553 : x65_2 < (x15_2.length : Int) := of_decide_eq_true (by first | (with_reducible assumption) | assumption)
               obtain ⟨ad553, e553, hx553_0, hx553_1, hx553_2, hx553_3, hx553_4⟩ := at_T44 (Kd.R_reads' HO_15.out).2.2 x65_2 p553 q553
               obtain rfl : ad552 = ad553 := (by injection e553)
               replace p553 := eq_true p553
               replace q553 := eq_true q553
               have p554 : 0 ≤ (x65_2 : Int) := of_decide_eq_true (by first | (with_reducible assumption) | assumption)
               have q554 : x65_2 < (x15_2.length : Int) := of_decide_eq_true (by first | (with_reducible assumption) | assumption)
               obtain ⟨ad554, e554, hx554_0, hx554_1, hx554_2, hx554_3, hx554_4⟩ := at_T44 (Kd.R_reads' HO_15.out).2.2 x65_2 p554 q554
               obtain rfl : ad552 = ad554 := (by injection e554)
               replace p554 := eq_true p554
               replace q554 := eq_true q554
               have p27 : 0 ≤ (x65_2 : Int) := of_decide_eq_true (by first | (with_reducible assumption) | assumption)
               have q27 : (x65_2 : Int) < ((x15_2.length : Int) : Int) := of_decide_eq_true (by first | (with_reducible assumption) | assumption)
               obtain ⟨go27, co27, eo27, gb27, gl27, cl27, HG27⟩ := Kd.R_form HO_15.out (by omega)
               (first | cases eo27 | (injection eo27 with ea_ en_ ec_; (first | subst ea_ | (injection ea_ with ea_; subst ea_)); subst ec_; clear en_))
               have GB27 := Aside0.mk gb27
               have GG27 := Aside0.mk HG27
               clear gb27 gl27 HG27
               (first | simp only [add_plain] at hx552_0 | skip)
               (first | simp only [add_plain] at hx552_1 | skip)
               (first | simp only [add_plain] at hx552_2 | skip)
               (first | simp only [add_plain] at hx552_3 | skip)
               (first | simp only [add_plain] at hx552_4 | skip)
               (first | simp only [add_plain] at hx553_0 | skip)
               (first | simp only [add_plain] at hx553_1 | skip)
               (first | simp only [add_plain] at hx553_2 | skip)
               (first | simp only [add_plain] at hx553_3 | skip)
               (first | simp only [add_plain] at hx553_4 | skip)
               (first | simp only [add_plain] at hx554_0 | skip)
               (first | simp only [add_plain] at hx554_1 | skip)
               (first | simp only [add_plain] at hx554_2 | skip)
               (first | simp only [add_plain] at hx554_3 | skip)
               (first | simp only [add_plain] at hx554_4 | skip)
               obtain ⟨ce27, hcl27, hM27, hcc27, hfr27⟩ := Kd.R_elem HO_15.out z44 (x65_2 : Int) p27 q27
               obtain rfl := k44_openM hM27
               have hx27_0 : wr.cell? ⟨go27, (x65_2 : Int).toNat * 5, none⟩ = some (.int .i64 ((rd_T44 x15_2 x65_2).f0)) := hcc27 0 _ rfl
               have hx27_1 : wr.cell? ⟨go27, (x65_2 : Int).toNat * 5 + 1, none⟩ = some (.int .i64 ((rd_T44 x15_2 x65_2).f1)) := hcc27 1 _ rfl
               have hx27_2 : wr.cell? ⟨go27, (x65_2 : Int).toNat * 5 + 2, none⟩ = some (.int .i64 ((rd_T44 x15_2 x65_2).f2)) := hcc27 2 _ rfl
               have hx27_3 : wr.cell? ⟨go27, (x65_2 : Int).toNat * 5 + 3, none⟩ = some (.int .i64 ((rd_T44 x15_2 x65_2).f3)) := hcc27 3 _ rfl
               have hx27_4 : wr.cell? ⟨go27, (x65_2 : Int).toNat * 5 + 4, none⟩ = some (.int .u64 ((rd_T44 x15_2 x65_2).f4)) := hcc27 4 _ rfl
               have hf27_0 : wr.frozen? ⟨go27, (x65_2 : Int).toNat * 5, none⟩ = false := hfr27 0
               have hf27_1 : wr.frozen? ⟨go27, (x65_2 : Int).toNat * 5 + 1, none⟩ = false := hfr27 1
               have hf27_2 : wr.frozen? ⟨go27, (x65_2 : Int).toNat * 5 + 2, none⟩ = false := hfr27 2
               have hf27_3 : wr.frozen? ⟨go27, (x65_2 : Int).toNat * 5 + 3, none⟩ = false := hfr27 3
               have hf27_4 : wr.frozen? ⟨go27, (x65_2 : Int).toNat * 5 + 4, none⟩ = false := hfr27 4
               clear hcl27 hcc27 hfr27 hM27
               replace p27 := eq_true p27
               replace q27 := eq_true q27
               have HX28 := Aside0.mk (show Kd.R k44 44 wr w.heap.size (fun _ => True) (.slice (some ⟨go27, 0, none⟩) x15_2.length co21) x15_2 from (by (with_reducible repeat (first | apply Kd.R_alloc | apply Kd.R_drewN | apply Kd.R_drew)); exact HO_15.out))
               obtain ⟨ce28, hcl28, hM28, hcc28, hfr28⟩ := Kd.R_elem HX28.out z44 (x65_2 : Int) (of_decide_eq_true (by first | (with_reducible assumption) | assumption)) (by have h_ : (x65_2 : Int) < ((x15_2.length : Int) : Int) := of_decide_eq_true (by first | (with_reducible assumption) | assumption); first | exact h_ | (have e_ := (Kd.R_reads' HO_15.out).1; omega) | simpa using h_)
               obtain rfl := k44_openM hM28
               have HP28 := Kd.R_seg HX28.out (x65_2 : Int) (of_decide_eq_true (by first | (with_reducible assumption) | assumption)) (by have h_ : (x65_2 : Int) < ((x15_2.length : Int) : Int) := of_decide_eq_true (by first | (with_reducible assumption) | assumption); first | exact h_ | (have e_ := (Kd.R_reads' HO_15.out).1; omega) | simpa using h_) (seg := [.int .i64 (wrap64 (((rd_T44 x15_2 x65_2).f3) + a2))]) (j := 3) hcl28 hcc28 (show 4 ≤ 5 from by decide) (x' := (⟨(rd_T44 x15_2 x65_2).f0, (rd_T44 x15_2 x65_2).f1, (rd_T44 x15_2 x65_2).f2, wrap64 (((rd_T44 x15_2 x65_2).f3) + a2), (rd_T44 x15_2 x65_2).f4⟩ : S44)) (k44_mkM _ _ _ (⟨(rd_T44 x15_2 x65_2).f0, (rd_T44 x15_2 x65_2).f1, (rd_T44 x15_2 x65_2).f2, wrap64 (((rd_T44 x15_2 x65_2).f3) + a2), (rd_T44 x15_2 x65_2).f4⟩ : S44) ) (fun _ hk => hk)
               have hx28_3 := hcc28 3 _ rfl
               (try simp only [show (k44).sz = 5 from rfl, Nat.mul_one, Nat.add_zero] at hx28_3)
               have hf28_3 := hfr28 3
               (try simp only [show (k44).sz = 5 from rfl, Nat.mul_one, Nat.add_zero] at hf28_3)
               clear hcl28 hcc28 hfr28 hM28
               go_wp2_with (first | ((with_reducible refine gate_store (t := 3) (p := 92) rfl ?_); (try (rw [drewN_self wr]; generalize hq_ : World.drewN wr _ = wr; have n0_ := Aside0.mk (Kd.R_at hq_ HO_15.out); have n1_ := Aside0.mk (below_at hq_ HB.out); clear hq_ HO_15 HB; have HO_15 := n0_; have HB := n1_; clear n0_ n1_; (try (have HX28 := Aside0.mk (show Kd.R k44 44 wr w.heap.size (fun _ => True) (.slice (some ⟨go27, 0, none⟩) x15_2.length co21) x15_2 from (by (with_reducible repeat (first | apply Kd.R_alloc | apply Kd.R_drewN | apply Kd.R_drew)); exact HO_15.out)))); (try (obtain ⟨ce28, hcl28, hM28, hcc28, hfr28⟩ := Kd.R_elem HX28.out z44 (x65_2 : Int) (of_decide_eq_true (by first | (with_reducible assumption) | assumption)) (by have h_ : (x65_2 : Int) < ((x15_2.length : Int) : Int) := of_decide_eq_true (by first | (with_reducible assumption) | assumption); first | exact h_ | (have e_ := (Kd.R_reads' HO_15.out).1; omega) | simpa using h_))); (try (obtain rfl := k44_openM hM28)); (try (have HP28 := Kd.R_seg HX28.out (x65_2 : Int) (of_decide_eq_true (by first | (with_reducible assumption) | assumption)) (by have h_ : (x65_2 : Int) < ((x15_2.length : Int) : Int) := of_decide_eq_true (by first | (with_reducible assumption) | assumption); first | exact h_ | (have e_ := (Kd.R_reads' HO_15.out).1; omega) | simpa using h_) (seg := [.int .i64 (wrap64 (((rd_T44 x15_2 x65_2).f3) + a2))]) (j := 3) hcl28 hcc28 (show 4 ≤ 5 from by decide) (x' := (⟨(rd_T44 x15_2 x65_2).f0, (rd_T44 x15_2 x65_2).f1, (rd_T44 x15_2 x65_2).f2, wrap64 (((rd_T44 x15_2 x65_2).f3) + a2), (rd_T44 x15_2 x65_2).f4⟩ : S44)) (k44_mkM _ _ _ (⟨(rd_T44 x15_2 x65_2).f0, (rd_T44 x15_2 x65_2).f1, (rd_T44 x15_2 x65_2).f2, wrap64 (((rd_T44 x15_2 x65_2).f3) + a2), (rd_T44 x15_2 x65_2).f4⟩ : S44) ) (fun _ hk => hk))); (try (have hx28_3 := hcc28 3 _ rfl)); (try (try simp only [show (k44).sz = 5 from rfl, Nat.mul_one, Nat.add_zero] at hx28_3)); (try (have hf28_3 := hfr28 3)); (try (try simp only [show (k44).sz = 5 from rfl, Nat.mul_one, Nat.add_zero] at hf28_3)); (try (clear hcl28 hcc28 hfr28 hM28)))); refine store_event (t := 3) (p := 92) (v := ?vo_w29) (w1 := (wr.setCell ⟨go27, (x65_2 : Int).toNat * 5 + 3, none⟩ (.int .i64 (wrap64 (((rd_T44 x15_2 x65_2).f3) + a2))))) ?hg ?ho ?hn ?hr ?_; (case ho => rfl); (case hg => rfl); (case hn => rfl); (case hr => first | (go_simp; done) | (go_simp; rfl)); intro w29 hw; have hg : wr.grownBy w29 (some go27) := (by rw [hw]; exact HP28.2); have hp_ : Kd.R k44 44 w29 w.heap.size (fun _ => True) (.slice (some ⟨go27, 0, none⟩) x15_2.length co21) y555 := (by rw [hw, Ny555.out]; exact HP28.1); clear HP28; have n0_ := Aside0.mk (hp_); have n1_ := Aside0.mk ((by rw [hw]; exact below_set (HB.out) GB27.out : Below w.heap.size w w29)); clear HO_15; clear HB; have HO_15 := n0_; have HB := n1_; clear n0_ n1_; clear hg hw hp_))
               repeat (go_quiet (first | ((with_reducible refine gate_store (t := 3) (p := 92) rfl ?_); (try (rw [drewN_self wr]; generalize hq_ : World.drewN wr _ = wr; have n0_ := Aside0.mk (Kd.R_at hq_ HO_15.out); have n1_ := Aside0.mk (below_at hq_ HB.out); clear hq_ HO_15 HB; have HO_15 := n0_; have HB := n1_; clear n0_ n1_; (try (have HX28 := Aside0.mk (show Kd.R k44 44 wr w.heap.size (fun _ => True) (.slice (some ⟨go27, 0, none⟩) x15_2.length co21) x15_2 from (by (with_reducible repeat (first | apply Kd.R_alloc | apply Kd.R_drewN | apply Kd.R_drew)); exact HO_15.out)))); (try (obtain ⟨ce28, hcl28, hM28, hcc28, hfr28⟩ := Kd.R_elem HX28.out z44 (x65_2 : Int) (of_decide_eq_true (by first | (with_reducible assumption) | assumption)) (by have h_ : (x65_2 : Int) < ((x15_2.length : Int) : Int) := of_decide_eq_true (by first | (with_reducible assumption) | assumption); first | exact h_ | (have e_ := (Kd.R_reads' HO_15.out).1; omega) | simpa using h_))); (try (obtain rfl := k44_openM hM28)); (try (have HP28 := Kd.R_seg HX28.out (x65_2 : Int) (of_decide_eq_true (by first | (with_reducible assumption) | assumption)) (by have h_ : (x65_2 : Int) < ((x15_2.length : Int) : Int) := of_decide_eq_true (by first | (with_reducible assumption) | assumption); first | exact h_ | (have e_ := (Kd.R_reads' HO_15.out).1; omega) | simpa using h_) (seg := [.int .i64 (wrap64 (((rd_T44 x15_2 x65_2).f3) + a2))]) (j := 3) hcl28 hcc28 (show 4 ≤ 5 from by decide) (x' := (⟨(rd_T44 x15_2 x65_2).f0, (rd_T44 x15_2 x65_2).f1, (rd_T44 x15_2 x65_2).f2, wrap64 (((rd_T44 x15_2 x65_2).f3) + a2), (rd_T44 x15_2 x65_2).f4⟩ : S44)) (k44_mkM _ _ _ (⟨(rd_T44 x15_2 x65_2).f0, (rd_T44 x15_2 x65_2).f1, (rd_T44 x15_2 x65_2).f2, wrap64 (((rd_T44 x15_2 x65_2).f3) + a2), (rd_T44 x15_2 x65_2).f4⟩ : S44) ) (fun _ hk => hk))); (try (have hx28_3 := hcc28 3 _ rfl)); (try (try simp only [show (k44).sz = 5 from rfl, Nat.mul_one, Nat.add_zero] at hx28_3)); (try (have hf28_3 := hfr28 3)); (try (try simp only [show (k44).sz = 5 from rfl, Nat.mul_one, Nat.add_zero] at hf28_3)); (try (clear hcl28 hcc28 hfr28 hM28)))); refine store_event (t := 3) (p := 92) (v := ?vo_w29) (w1 := (wr.setCell ⟨go27, (x65_2 : Int).toNat * 5 + 3, none⟩ (.int .i64 (wrap64 (((rd_T44 x15_2 x65_2).f3) + a2))))) ?hg ?ho ?hn ?hr ?_; (case ho => rfl); (case hg => rfl); (case hn => rfl); (case hr => first | (go_simp; done) | (go_simp; rfl)); intro w29 hw; have hg : wr.grownBy w29 (some go27) := (by rw [hw]; exact HP28.2); have hp_ : Kd.R k44 44 w29 w.heap.size (fun _ => True) (.slice (some ⟨go27, 0, none⟩) x15_2.length co21) y555 := (by rw [hw, Ny555.out]; exact HP28.1); clear HP28; have n0_ := Aside0.mk (hp_); have n1_ := Aside0.mk ((by rw [hw]; exact below_set (HB.out) GB27.out : Below w.heap.size w w29)); clear HO_15; clear HB; have HO_15 := n0_; have HB := n1_; clear n0_ n1_; clear hg hw hp_)); try go_wp2_with (first | ((with_reducible refine gate_store (t := 3) (p := 92) rfl ?_); (try (rw [drewN_self wr]; generalize hq_ : World.drewN wr _ = wr; have n0_ := Aside0.mk (Kd.R_at hq_ HO_15.out); have n1_ := Aside0.mk (below_at hq_ HB.out); clear hq_ HO_15 HB; have HO_15 := n0_; have HB := n1_; clear n0_ n1_; (try (have HX28 := Aside0.mk (show Kd.R k44 44 wr w.heap.size (fun _ => True) (.slice (some ⟨go27, 0, none⟩) x15_2.length co21) x15_2 from (by (with_reducible repeat (first | apply Kd.R_alloc | apply Kd.R_drewN | apply Kd.R_drew)); exact HO_15.out)))); (try (obtain ⟨ce28, hcl28, hM28, hcc28, hfr28⟩ := Kd.R_elem HX28.out z44 (x65_2 : Int) (of_decide_eq_true (by first | (with_reducible assumption) | assumption)) (by have h_ : (x65_2 : Int) < ((x15_2.length : Int) : Int) := of_decide_eq_true (by first | (with_reducible assumption) | assumption); first | exact h_ | (have e_ := (Kd.R_reads' HO_15.out).1; omega) | simpa using h_))); (try (obtain rfl := k44_openM hM28)); (try (have HP28 := Kd.R_seg HX28.out (x65_2 : Int) (of_decide_eq_true (by first | (with_reducible assumption) | assumption)) (by have h_ : (x65_2 : Int) < ((x15_2.length : Int) : Int) := of_decide_eq_true (by first | (with_reducible assumption) | assumption); first | exact h_ | (have e_ := (Kd.R_reads' HO_15.out).1; omega) | simpa using h_) (seg := [.int .i64 (wrap64 (((rd_T44 x15_2 x65_2).f3) + a2))]) (j := 3) hcl28 hcc28 (show 4 ≤ 5 from by decide) (x' := (⟨(rd_T44 x15_2 x65_2).f0, (rd_T44 x15_2 x65_2).f1, (rd_T44 x15_2 x65_2).f2, wrap64 (((rd_T44 x15_2 x65_2).f3) + a2), (rd_T44 x15_2 x65_2).f4⟩ : S44)) (k44_mkM _ _ _ (⟨(rd_T44 x15_2 x65_2).f0, (rd_T44 x15_2 x65_2).f1, (rd_T44 x15_2 x65_2).f2, wrap64 (((rd_T44 x15_2 x65_2).f3) + a2), (rd_T44 x15_2 x65_2).f4⟩ : S44) ) (fun _ hk => hk))); (try (have hx28_3 := hcc28 3 _ rfl)); (try (try simp only [show (k44).sz = 5 from rfl, Nat.mul_one, Nat.add_zero] at hx28_3)); (try (have hf28_3 := hfr28 3)); (try (try simp only [show (k44).sz = 5 from rfl, Nat.mul_one, Nat.add_zero] at hf28_3)); (try (clear hcl28 hcc28 hfr28 hM28)))); refine store_event (t := 3) (p := 92) (v := ?vo_w29) (w1 := (wr.setCell ⟨go27, (x65_2 : Int).toNat * 5 + 3, none⟩ (.int .i64 (wrap64 (((rd_T44 x15_2 x65_2).f3) + a2))))) ?hg ?ho ?hn ?hr ?_; (case ho => rfl); (case hg => rfl); (case hn => rfl); (case hr => first | (go_simp; done) | (go_simp; rfl)); intro w29 hw; have hg : wr.grownBy w29 (some go27) := (by rw [hw]; exact HP28.2); have hp_ : Kd.R k44 44 w29 w.heap.size (fun _ => True) (.slice (some ⟨go27, 0, none⟩) x15_2.length co21) y555 := (by rw [hw, Ny555.out]; exact HP28.1); clear HP28; have n0_ := Aside0.mk (hp_); have n1_ := Aside0.mk ((by rw [hw]; exact below_set (HB.out) GB27.out : Below w.heap.size w w29)); clear HO_15; clear HB; have HO_15 := n0_; have HB := n1_; clear n0_ n1_; clear hg hw hp_)))
               (try simp only [← hl15_2])
               go_roundg k2
               case measure => have := HJ6.out; have := HK2.out; omega
               case rel => exact ⟨(y555), (wrap64 (x65_2 + 1)), (by first | rfl | (simp; done) | (simp [*]; done) | kernel_rfl), H', ⟨by have := HJ6.out; have := HK2.out; omega⟩, ⟨by (try simp only [hl15_2]); (with_reducible repeat (first | apply Kd.R_alloc | apply Kd.R_drewN | apply Kd.R_drew)); exact HO_15.out⟩, ⟨by repeat (first | (with_reducible first | exact HB.out | apply below_alloc | apply pw_below_drewN | apply below_drew1) | exact HB.out)⟩⟩
             ·rw [if_neg c25] at H
              have c25b0 : (((rd_T44 x15_2 x65_2).f0) == ((rd_T44 l0 (ji14)).f0)) = false := beq_eq_false_iff_ne.mpr c25
              have c25b1 : (((rd_T44 x15_2 x65_2).f0) != ((rd_T44 l0 (ji14)).f0)) = true := bne_iff_ne.mpr c25
              have H' := Aside0.mk H
              clear H
              have p552 : 0 ≤ (x65_2 : Int) := of_decide_eq_true (by first | (with_reducible assumption) | assumption)
              have q552 : x65_2 < (x15_2.length : Int) := of_decide_eq_true (by first | (with_reducible assumption) | assumption)
              obtain ⟨ad552, e552, hx552_0, hx552_1, hx552_2, hx552_3, hx552_4⟩ := at_T44 (Kd.R_reads' HO_15.out).2.2 x65_2 p552 q552
              cases e552
              replace p552 := eq_true p552
              replace q552 := eq_true q552
              go_wp2
              repeat (go_quiet (fail); try go_wp2)
              (try simp only [← hl15_2])
              go_roundg k2
              case measure => have := HJ6.out; have := HK2.out; omega
              case rel => exact ⟨(x15_2), (wrap64 (x65_2 + 1)), (by first | rfl | (simp; done) | (simp [*]; done) | kernel_rfl), H', ⟨by have := HJ6.out; have := HK2.out; omega⟩, ⟨by (try simp only [hl15_2]); (with_reducible repeat (first | apply Kd.R_alloc | apply Kd.R_drewN | apply Kd.R_drew)); exact HO_15.out⟩, ⟨by repeat (first | (with_reducible first | exact HB.out | apply below_alloc | apply pw_below_drewN | apply below_drew1) | exact HB.out)⟩⟩
            ·rw [if_neg c24] at H
             exact absurd H (by simp)
           ·rw [if_neg c23] at H
            exact absurd H (by simp)
          ·rw [if_neg c22] at H
           have c22b0 : decide (x65_2 < (y545.length : Int)) = false := decide_eq_false c22
           have c22b9 : decide (x65_2 < (x15_2.length : Int)) = false := by first | (rw [hl15_2]; exact c22b0) | (rw [← hl15_2]; exact c22b0)
           clear c22
           obtain ⟨ji30, hji30⟩ : ∃ j_ : Int, (mn (wrap64 (1 + (Int.tmod (wrap64 (a3)) (l0.length : Int)))) (wrap64 (1 + (Int.tmod (wrap64 (a4)) (l0.length : Int))))) = j_ := ⟨_, rfl⟩
           replace H : ((chain_Energy.f l0 (ji30) (mx (wrap64 (1 + (Int.tmod (wrap64 (a3)) (l0.length : Int)))) (wrap64 (1 + (Int.tmod (wrap64 (a4)) (l0.length : Int)))))).bind fun bt548 => ((chain_Energy.f x15_2 (ji30) (mx (wrap64 (1 + (Int.tmod (wrap64 (a3)) (l0.length : Int)))) (wrap64 (1 + (Int.tmod (wrap64 (a4)) (l0.length : Int)))))).bind fun bt550 => (if t540 = true then (if bt548.2 = 0 then (if bt550.2 = 0 then (some (bt548.1 == bt550.1)) else (some false)) else (some true)) else (some false)))) = some r := by first | (rw [hji30] at H; exact H) | (simp only [hji30] at H ⊢; exact H)
           have hji30_ : (if (wrap64 (1 + (Int.tmod (wrap64 (a4)) (l0.length : Int)))) < (wrap64 (1 + (Int.tmod (wrap64 (a3)) (l0.length : Int)))) then (wrap64 (1 + (Int.tmod (wrap64 (a4)) (l0.length : Int)))) else (wrap64 (1 + (Int.tmod (wrap64 (a3)) (l0.length : Int))))) = ji30 := hji30
           obtain ⟨ji31, hji31⟩ : ∃ j_ : Int, (mx (wrap64 (1 + (Int.tmod (wrap64 (a3)) (l0.length : Int)))) (wrap64 (1 + (Int.tmod (wrap64 (a4)) (l0.length : Int))))) = j_ := ⟨_, rfl⟩
           replace H : ((chain_Energy.f l0 (ji30) (ji31)).bind fun bt548 => ((chain_Energy.f x15_2 (ji30) (ji31)).bind fun bt550 => (if t540 = true then (if bt548.2 = 0 then (if bt550.2 = 0 then (some (bt548.1 == bt550.1)) else (some false)) else (some true)) else (some false)))) = some r := by first | (rw [hji31] at H; exact H) | (simp only [hji31] at H ⊢; exact H)
           have hji31_ : (if (wrap64 (1 + (Int.tmod (wrap64 (a3)) (l0.length : Int)))) < (wrap64 (1 + (Int.tmod (wrap64 (a4)) (l0.length : Int)))) then (wrap64 (1 + (Int.tmod (wrap64 (a4)) (l0.length : Int)))) else (wrap64 (1 + (Int.tmod (wrap64 (a3)) (l0.length : Int))))) = ji31 := hji31
           replace H := Option.bind_eq_some_iff.mp H
           obtain ⟨⟨t548, t549⟩, A320, H⟩ := H
           replace H : ((chain_Energy.f x15_2 (ji30) (ji31)).bind fun bt550 => (if t540 = true then (if t549 = 0 then (if bt550.2 = 0 then (some (t548 == bt550.1)) else (some false)) else (some true)) else (some false))) = some r := H
           have A32 := Aside0.mk A320
           clear A320
           replace H := Option.bind_eq_some_iff.mp H
           obtain ⟨⟨t550, t551⟩, A330, H⟩ := H
           replace H : (if t540 = true then (if t549 = 0 then (if t551 = 0 then (some (t548 == t550)) else (some false)) else (some true)) else (some false)) = some r := H
           have A33 := Aside0.mk A330
           clear A330
           by_cases c34 : t540 = true
           ·subst c34
            have H1 : (if t549 = 0 then (if t551 = 0 then (some (t548 == t550)) else (some false)) else (some true)) = some r := by rw [if_pos rfl] at H; exact H
            clear H
            have H := H1
            clear H1
            by_cases c35 : t549 = 0
            ·rw [if_pos c35] at H
             have c35b0 : (t549 == 0) = true := beq_iff_eq.mpr c35
             have c35b1 : (t549 != 0) = false := bne_eq_false_iff_eq.mpr c35
             clear c35
             by_cases c36 : t551 = 0
             ·rw [if_pos c36] at H
              have c36b0 : (t551 == 0) = true := beq_iff_eq.mpr c36
              have c36b1 : (t551 != 0) = false := bne_eq_false_iff_eq.mpr c36
              clear c36
              obtain rfl := Option.some.inj H
              go_wp2_with (first | (go_at_call 24; (with_reducible refine (chain_Energy.calls _ _ l0 ji30 ji31 t548 t549 _ ?side1 ?side2 A32.out).mono ?_); (case side1 => repeat (first | exact (Kd.C_below HR0.out HB.out) | (with_reducible refine Kd.C_alloc ?_ _) | (with_reducible refine Kd.C_drewN ?_ _) | (with_reducible refine Kd.C_drew ?_))); (case side2 => exact HC0.out); rintro e w37 ⟨rfl, hb⟩; have n0_ := Aside0.mk (Kd.R_below (by (with_reducible repeat (first | apply Kd.R_alloc | apply Kd.R_drewN | apply Kd.R_drew)); exact HO_15.out) hb); have n1_ := Aside0.mk (below_step (by repeat (first | (with_reducible first | exact HB.out | apply below_alloc | apply pw_below_drewN | apply below_drew1) | exact HB.out)) hb); clear HO_15; clear HB; have HO_15 := n0_; have HB := n1_; clear n0_ n1_; (try clear hb); (try clear hb2); (try clear hk); (try clear hi)) | (go_at_call 24; (with_reducible refine (chain_Energy.calls _ _ x15_2 ji30 ji31 t550 t551 _ ?side1 ?side2 A33.out).mono ?_); (case side1 => repeat (first | exact (Kd.R_reads' HO_15.out).2.2 | (with_reducible refine Kd.C_alloc ?_ _) | (with_reducible refine Kd.C_drewN ?_ _) | (with_reducible refine Kd.C_drew ?_))); (case side2 => exact (Kd.R_reads' HO_15.out).2.1); rintro e w38 ⟨rfl, hb⟩; have n0_ := Aside0.mk (Kd.R_below (by (with_reducible repeat (first | apply Kd.R_alloc | apply Kd.R_drewN | apply Kd.R_drew)); exact HO_15.out) hb); have n1_ := Aside0.mk (below_step (by repeat (first | (with_reducible first | exact HB.out | apply below_alloc | apply pw_below_drewN | apply below_drew1) | exact HB.out)) hb); clear HO_15; clear HB; have HO_15 := n0_; have HB := n1_; clear n0_ n1_; (try clear hb); (try clear hb2); (try clear hk); (try clear hi)))
              repeat (go_quiet (first | (go_at_call 24; (with_reducible refine (chain_Energy.calls _ _ l0 ji30 ji31 t548 t549 _ ?side1 ?side2 A32.out).mono ?_); (case side1 => repeat (first | exact (Kd.C_below HR0.out HB.out) | (with_reducible refine Kd.C_alloc ?_ _) | (with_reducible refine Kd.C_drewN ?_ _) | (with_reducible refine Kd.C_drew ?_))); (case side2 => exact HC0.out); rintro e w37 ⟨rfl, hb⟩; have n0_ := Aside0.mk (Kd.R_below (by (with_reducible repeat (first | apply Kd.R_alloc | apply Kd.R_drewN | apply Kd.R_drew)); exact HO_15.out) hb); have n1_ := Aside0.mk (below_step (by repeat (first | (with_reducible first | exact HB.out | apply below_alloc | apply pw_below_drewN | apply below_drew1) | exact HB.out)) hb); clear HO_15; clear HB; have HO_15 := n0_; have HB := n1_; clear n0_ n1_; (try clear hb); (try clear hb2); (try clear hk); (try clear hi)) | (go_at_call 24; (with_reducible refine (chain_Energy.calls _ _ x15_2 ji30 ji31 t550 t551 _ ?side1 ?side2 A33.out).mono ?_); (case side1 => repeat (first | exact (Kd.R_reads' HO_15.out).2.2 | (with_reducible refine Kd.C_alloc ?_ _) | (with_reducible refine Kd.C_drewN ?_ _) | (with_reducible refine Kd.C_drew ?_))); (case side2 => exact (Kd.R_reads' HO_15.out).2.1); rintro e w38 ⟨rfl, hb⟩; have n0_ := Aside0.mk (Kd.R_below (by (with_reducible repeat (first | apply Kd.R_alloc | apply Kd.R_drewN | apply Kd.R_drew)); exact HO_15.out) hb); have n1_ := Aside0.mk (below_step (by repeat (first | (with_reducible first | exact HB.out | apply below_alloc | apply pw_below_drewN | apply below_drew1) | exact HB.out)) hb); clear HO_15; clear HB; have HO_15 := n0_; have HB := n1_; clear n0_ n1_; (try clear hb); (try clear hb2); (try clear hk); (try clear hi))); try go_wp2_with (first | (go_at_call 24; (with_reducible refine (chain_Energy.calls _ _ l0 ji30 ji31 t548 t549 _ ?side1 ?side2 A32.out).mono ?_); (case side1 => repeat (first | exact (Kd.C_below HR0.out HB.out) | (with_reducible refine Kd.C_alloc ?_ _) | (with_reducible refine Kd.C_drewN ?_ _) | (with_reducible refine Kd.C_drew ?_))); (case side2 => exact HC0.out); rintro e w37 ⟨rfl, hb⟩; have n0_ := Aside0.mk (Kd.R_below (by (with_reducible repeat (first | apply Kd.R_alloc | apply Kd.R_drewN | apply Kd.R_drew)); exact HO_15.out) hb); have n1_ := Aside0.mk (below_step (by repeat (first | (with_reducible first | exact HB.out | apply below_alloc | apply pw_below_drewN | apply below_drew1) | exact HB.out)) hb); clear HO_15; clear HB; have HO_15 := n0_; have HB := n1_; clear n0_ n1_; (try clear hb); (try clear hb2); (try clear hk); (try clear hi)) | (go_at_call 24; (with_reducible refine (chain_Energy.calls _ _ x15_2 ji30 ji31 t550 t551 _ ?side1 ?side2 A33.out).mono ?_); (case side1 => repeat (first | exact (Kd.R_reads' HO_15.out).2.2 | (with_reducible refine Kd.C_alloc ?_ _) | (with_reducible refine Kd.C_drewN ?_ _) | (with_reducible refine Kd.C_drew ?_))); (case side2 => exact (Kd.R_reads' HO_15.out).2.1); rintro e w38 ⟨rfl, hb⟩; have n0_ := Aside0.mk (Kd.R_below (by (with_reducible repeat (first | apply Kd.R_alloc | apply Kd.R_drewN | apply Kd.R_drew)); exact HO_15.out) hb); have n1_ := Aside0.mk (below_step (by repeat (first | (with_reducible first | exact HB.out | apply below_alloc | apply pw_below_drewN | apply below_drew1) | exact HB.out)) hb); clear HO_15; clear HB; have HO_15 := n0_; have HB := n1_; clear n0_ n1_; (try clear hb); (try clear hb2); (try clear hk); (try clear hi))))
              go_ret
              exact ⟨by first | rfl | (simp [errW_none, errW_some] <;> rfl) | (simp only [← hji14, ← hji30, ← hji31]; first | rfl | (simp [errW_none, errW_some] <;> rfl)) | (simp [*, errW_none, errW_some] <;> rfl), by repeat (first | (with_reducible first | exact HB.out | apply below_alloc | apply pw_below_drewN | apply below_drew1) | exact HB.out)⟩
             ·rw [if_neg c36] at H
              have c36b0 : (t551 == 0) = false := beq_eq_false_iff_ne.mpr c36
              have c36b1 : (t551 != 0) = true := bne_iff_ne.mpr c36
              exact absurd ((Option.some.inj H).trans hT_.out) (by decide)
            ·rw [if_neg c35] at H
             have c35b0 : (t549 == 0) = false := beq_eq_false_iff_ne.mpr c35
             have c35b1 : (t549 != 0) = true := bne_iff_ne.mpr c35
             obtain rfl := Option.some.inj H
             go_wp2_with (first | (go_at_call 24; (with_reducible refine (chain_Energy.calls _ _ l0 ji30 ji31 t548 t549 _ ?side1 ?side2 A32.out).mono ?_); (case side1 => repeat (first | exact (Kd.C_below HR0.out HB.out) | (with_reducible refine Kd.C_alloc ?_ _) | (with_reducible refine Kd.C_drewN ?_ _) | (with_reducible refine Kd.C_drew ?_))); (case side2 => exact HC0.out); rintro e w39 ⟨rfl, hb⟩; have n0_ := Aside0.mk (Kd.R_below (by (with_reducible repeat (first | apply Kd.R_alloc | apply Kd.R_drewN | apply Kd.R_drew)); exact HO_15.out) hb); have n1_ := Aside0.mk (below_step (by repeat (first | (with_reducible first | exact HB.out | apply below_alloc | apply pw_below_drewN | apply below_drew1) | exact HB.out)) hb); clear HO_15; clear HB; have HO_15 := n0_; have HB := n1_; clear n0_ n1_; (try clear hb); (try clear hb2); (try clear hk); (try clear hi)) | (go_at_call 24; (with_reducible refine (chain_Energy.calls _ _ x15_2 ji30 ji31 t550 t551 _ ?side1 ?side2 A33.out).mono ?_); (case side1 => repeat (first | exact (Kd.R_reads' HO_15.out).2.2 | (with_reducible refine Kd.C_alloc ?_ _) | (with_reducible refine Kd.C_drewN ?_ _) | (with_reducible refine Kd.C_drew ?_))); (case side2 => exact (Kd.R_reads' HO_15.out).2.1); rintro e w40 ⟨rfl, hb⟩; have n0_ := Aside0.mk (Kd.R_below (by (with_reducible repeat (first | apply Kd.R_alloc | apply Kd.R_drewN | apply Kd.R_drew)); exact HO_15.out) hb); have n1_ := Aside0.mk (below_step (by repeat (first | (with_reducible first | exact HB.out | apply below_alloc | apply pw_below_drewN | apply below_drew1) | exact HB.out)) hb); clear HO_15; clear HB; have HO_15 := n0_; have HB := n1_; clear n0_ n1_; (try clear hb); (try clear hb2); (try clear hk); (try clear hi)))
             repeat (go_quiet (first | (go_at_call 24; (with_reducible refine (chain_Energy.calls _ _ l0 ji30 ji31 t548 t549 _ ?side1 ?side2 A32.out).mono ?_); (case side1 => repeat (first | exact (Kd.C_below HR0.out HB.out) | (with_reducible refine Kd.C_alloc ?_ _) | (with_reducible refine Kd.C_drewN ?_ _) | (with_reducible refine Kd.C_drew ?_))); (case side2 => exact HC0.out); rintro e w39 ⟨rfl, hb⟩; have n0_ := Aside0.mk (Kd.R_below (by (with_reducible repeat (first | apply Kd.R_alloc | apply Kd.R_drewN | apply Kd.R_drew)); exact HO_15.out) hb); have n1_ := Aside0.mk (below_step (by repeat (first | (with_reducible first | exact HB.out | apply below_alloc | apply pw_below_drewN | apply below_drew1) | exact HB.out)) hb); clear HO_15; clear HB; have HO_15 := n0_; have HB := n1_; clear n0_ n1_; (try clear hb); (try clear hb2); (try clear hk); (try clear hi)) | (go_at_call 24; (with_reducible refine (chain_Energy.calls _ _ x15_2 ji30 ji31 t550 t551 _ ?side1 ?side2 A33.out).mono ?_); (case side1 => repeat (first | exact (Kd.R_reads' HO_15.out).2.2 | (with_reducible refine Kd.C_alloc ?_ _) | (with_reducible refine Kd.C_drewN ?_ _) | (with_reducible refine Kd.C_drew ?_))); (case side2 => exact (Kd.R_reads' HO_15.out).2.1); rintro e w40 ⟨rfl, hb⟩; have n0_ := Aside0.mk (Kd.R_below (by (with_reducible repeat (first | apply Kd.R_alloc | apply Kd.R_drewN | apply Kd.R_drew)); exact HO_15.out) hb); have n1_ := Aside0.mk (below_step (by repeat (first | (with_reducible first | exact HB.out | apply below_alloc | apply pw_below_drewN | apply below_drew1) | exact HB.out)) hb); clear HO_15; clear HB; have HO_15 := n0_; have HB := n1_; clear n0_ n1_; (try clear hb); (try clear hb2); (try clear hk); (try clear hi))); try go_wp2_with (first | (go_at_call 24; (with_reducible refine (chain_Energy.calls _ _ l0 ji30 ji31 t548 t549 _ ?side1 ?side2 A32.out).mono ?_); (case side1 => repeat (first | exact (Kd.C_below HR0.out HB.out) | (with_reducible refine Kd.C_alloc ?_ _) | (with_reducible refine Kd.C_drewN ?_ _) | (with_reducible refine Kd.C_drew ?_))); (case side2 => exact HC0.out); rintro e w39 ⟨rfl, hb⟩; have n0_ := Aside0.mk (Kd.R_below (by (with_reducible repeat (first | apply Kd.R_alloc | apply Kd.R_drewN | apply Kd.R_drew)); exact HO_15.out) hb); have n1_ := Aside0.mk (below_step (by repeat (first | (with_reducible first | exact HB.out | apply below_alloc | apply pw_below_drewN | apply below_drew1) | exact HB.out)) hb); clear HO_15; clear HB; have HO_15 := n0_; have HB := n1_; clear n0_ n1_; (try clear hb); (try clear hb2); (try clear hk); (try clear hi)) | (go_at_call 24; (with_reducible refine (chain_Energy.calls _ _ x15_2 ji30 ji31 t550 t551 _ ?side1 ?side2 A33.out).mono ?_); (case side1 => repeat (first | exact (Kd.R_reads' HO_15.out).2.2 | (with_reducible refine Kd.C_alloc ?_ _) | (with_reducible refine Kd.C_drewN ?_ _) | (with_reducible refine Kd.C_drew ?_))); (case side2 => exact (Kd.R_reads' HO_15.out).2.1); rintro e w40 ⟨rfl, hb⟩; have n0_ := Aside0.mk (Kd.R_below (by (with_reducible repeat (first | apply Kd.R_alloc | apply Kd.R_drewN | apply Kd.R_drew)); exact HO_15.out) hb); have n1_ := Aside0.mk (below_step (by repeat (first | (with_reducible first | exact HB.out | apply below_alloc | apply pw_below_drewN | apply below_drew1) | exact HB.out)) hb); clear HO_15; clear HB; have HO_15 := n0_; have HB := n1_; clear n0_ n1_; (try clear hb); (try clear hb2); (try clear hk); (try clear hi))))
             go_ret
             exact ⟨by first | rfl | (simp [errW_none, errW_some] <;> rfl) | (simp only [← hji14, ← hji30, ← hji31]; first | rfl | (simp [errW_none, errW_some] <;> rfl)) | (simp [*, errW_none, errW_some] <;> rfl), by repeat (first | (with_reducible first | exact HB.out | apply below_alloc | apply pw_below_drewN | apply below_drew1) | exact HB.out)⟩
           ·replace c34 := Bool.eq_false_iff.mpr c34
            subst c34
            have H1 : (some false) = some r := by rw [if_neg (show ¬ (false = true) by decide)] at H; exact H
            clear H
            have H := H1
            clear H1
            exact absurd ((Option.some.inj H).trans hT_.out) (by decide)
       ·rw [if_neg c17] at H
        exact absurd H (by simp)
      ·rw [if_neg c16] at H
       exact absurd H (by simp)
     ·rw [if_neg c15] at H
      exact absurd H (by simp)

end Go.Proofs.Ytenkffjlpdappaa.Pr
