-- Printed by hprint.py (a program of this claim's session over the kit's printer).
import Derived.Test.YtenkffjlpdappaaPrx0
import Derived.Test.YtenkffjlpdappaaPrx11
import Derived.Test.YtenkffjlpdappaaHChainC
import Derived.Test.YtenkffjlpdappaaHChange40
namespace Go.Proofs.Ytenkffjlpdappaa.Pr
open Go.RowKit Go.Proofs.YtenkffjlpdappaaW.PrintWords Go.Proofs.YtenkffjlpdappaaW.PrintLast Go.Proofs.YtenkffjlpdappaaW.PrintMore
attribute [local go_sem] max2_int min2_int max_two min_two max_three min_three max_four min_four   -- for this text's walks alone
set_option linter.unusedVariables false
set_option linter.unusedSimpArgs false

/-! ### chargeparklaw40_ChainOneItem: function 11 -/
def chargeparklaw40_ChainOneItem.j0 : Nat → Int → List (S44) → Int → Int → Int → Int → Bool → Bool → Option (Bool)
  | 0, _, _, _, _, _, _, _, _ => none
  | k + 1, x0, x1, x2, x3, x4, x5, x13, x34 => if x34 = true then (some x13) else (if (x1.length : Int) = 0 then (none) else ((some (([] : List (S44)) : List (S44))).bind fun y328 => (if y328.length + x1.length < 3518437208883 then ((some (y328 ++ x1 : List (S44))).bind fun y331 => (if 0 ≤ (Int.tmod (wrap64 (x2)) (x1.length : Int)) then (if (Int.tmod (wrap64 (x2)) (x1.length : Int)) < (y331.length : Int) then ((chargeparklaw40_changed.f ((rd_T44 y331 (Int.tmod (wrap64 (x2)) (x1.length : Int))).f0) ((rd_T44 y331 (Int.tmod (wrap64 (x2)) (x1.length : Int))).f1) ((rd_T44 y331 (Int.tmod (wrap64 (x2)) (x1.length : Int))).f2) ((rd_T44 y331 (Int.tmod (wrap64 (x2)) (x1.length : Int))).f3) ((rd_T44 y331 (Int.tmod (wrap64 (x2)) (x1.length : Int))).f4) x3 x4 x5).bind fun bt335 => (if x13 = true then ((chain_Check.f x0 (y331.set ((Int.tmod (wrap64 (x2)) (x1.length : Int)) : Int).toNat (⟨bt335.1, bt335.2.1, bt335.2.2.1, bt335.2.2.2.1, bt335.2.2.2.2⟩ : S44))).bind fun t341 => (some (t341 == (Int.tmod (wrap64 (x2)) (x1.length : Int))))) else (some false))) else (none)) else (none))) else (none))))
def chargeparklaw40_ChainOneItem.f (k : Nat) (a0 : Int) (l1 : List (S44)) (a2 : Int) (a3 : Int) (a4 : Int) (a5 : Int) : Option (Bool) := (chargeparklaw40_head.f).bind fun t326 => (if (l1.length : Int) = 0 then (chargeparklaw40_ChainOneItem.j0 k a0 l1 a2 a3 a4 a5 t326 true) else (if (l1.length : Int) > 64 then (chargeparklaw40_ChainOneItem.j0 k a0 l1 a2 a3 a4 a5 t326 true) else (if a5 = 0 then (chargeparklaw40_ChainOneItem.j0 k a0 l1 a2 a3 a4 a5 t326 true) else ((chain_Check.f a0 l1).bind fun t327 => (chargeparklaw40_ChainOneItem.j0 k a0 l1 a2 a3 a4 a5 t326 (t327 != (-1)))))))
theorem chargeparklaw40_ChainOneItem.mono_l : ∀ k, (∀ y0 y1 y2 y3 y4 y5 y6 y7, LeO (chargeparklaw40_ChainOneItem.j0 k y0 y1 y2 y3 y4 y5 y6 y7) (chargeparklaw40_ChainOneItem.j0 (k + 1) y0 y1 y2 y3 y4 y5 y6 y7))
  | 0 => fun _ _ _ _ _ _ _ _ r h => by simp [chargeparklaw40_ChainOneItem.j0] at h
  | k + 1 => by
    have ih0 := chargeparklaw40_ChainOneItem.mono_l k
    · intro y0 y1 y2 y3 y4 y5 y6 y7
      unfold chargeparklaw40_ChainOneItem.j0
      repeat' first
      | (with_reducible exact ih0 _ _ _ _ _ _ _ _)
      | (with_reducible exact LeO.refl _)
      | (with_reducible exact LeO.none _)
      | (with_reducible refine LeO.ite ?_ ?_)
      | (with_reducible refine LeO.bind ?_ (fun _ => ?_))
      | exact ih0 _ _ _ _ _ _ _ _
      | exact LeO.none _
      | refine LeO.ite ?_ ?_
      | refine LeO.bind ?_ (fun _ => ?_)
theorem chargeparklaw40_ChainOneItem.mono : ∀ a0 a1 a2 a3 a4 a5 k, LeO (chargeparklaw40_ChainOneItem.f k a0 a1 a2 a3 a4 a5) (chargeparklaw40_ChainOneItem.f (k + 1) a0 a1 a2 a3 a4 a5) := by
  intro a0 a1 a2 a3 a4 a5 k
  have ih0 := chargeparklaw40_ChainOneItem.mono_l k
  unfold chargeparklaw40_ChainOneItem.f
  repeat' first
      | (with_reducible exact ih0 _ _ _ _ _ _ _ _)
      | (with_reducible exact LeO.refl _)
      | (with_reducible exact LeO.none _)
      | (with_reducible refine LeO.ite ?_ ?_)
      | (with_reducible refine LeO.bind ?_ (fun _ => ?_))
      | exact ih0 _ _ _ _ _ _ _ _
      | exact LeO.none _
      | refine LeO.ite ?_ ?_
      | refine LeO.bind ?_ (fun _ => ?_)
set_option maxHeartbeats 8000000 in
set_option maxRecDepth 100000 in
theorem chargeparklaw40_ChainOneItem.calls (k : Nat) (a0 : Int) (A1 : Option Addr) (c1 : Nat) (l1 : List (S44)) (a2 : Int) (a3 : Int) (a4 : Int) (a5 : Int) (r : Bool) (w : World) (hr1 : Kd.C k44 w A1 l1.length l1) (hc1 : l1.length ≤ c1) (h : chargeparklaw40_ChainOneItem.f k a0 l1 a2 a3 a4 a5 = some r) :
    Calls Try.prog 11 #[.int .u64 a0, .slice A1 l1.length c1, .int .u8 a2, .int .u8 a3, .int .u8 a4, .int .u8 a5] w fun e w' => e = .returned (.bool r) ∧ Below w.heap.size w w' := by
  have hu44 := Try.underlying44
  have HR1 := Aside0.mk hr1
  have HC1 := Aside0.mk hc1
  clear hr1 hc1
  have HB := Aside0.mk (Below.refl w.heap.size w)
  have H : ((chargeparklaw40_head.f).bind fun t326 => (if (l1.length : Int) = 0 then (chargeparklaw40_ChainOneItem.j0 k a0 l1 a2 a3 a4 a5 t326 true) else (if (l1.length : Int) > 64 then (chargeparklaw40_ChainOneItem.j0 k a0 l1 a2 a3 a4 a5 t326 true) else (if a5 = 0 then (chargeparklaw40_ChainOneItem.j0 k a0 l1 a2 a3 a4 a5 t326 true) else ((chain_Check.f a0 l1).bind fun t327 => (chargeparklaw40_ChainOneItem.j0 k a0 l1 a2 a3 a4 a5 t326 (t327 != (-1)))))))) = some r := h
  clear h
  replace H := Option.bind_eq_some_iff.mp H
  obtain ⟨t326, A70, H⟩ := H
  replace H : (if (l1.length : Int) = 0 then (chargeparklaw40_ChainOneItem.j0 k a0 l1 a2 a3 a4 a5 t326 true) else (if (l1.length : Int) > 64 then (chargeparklaw40_ChainOneItem.j0 k a0 l1 a2 a3 a4 a5 t326 true) else (if a5 = 0 then (chargeparklaw40_ChainOneItem.j0 k a0 l1 a2 a3 a4 a5 t326 true) else ((chain_Check.f a0 l1).bind fun t327 => (chargeparklaw40_ChainOneItem.j0 k a0 l1 a2 a3 a4 a5 t326 (t327 != (-1))))))) = some r := H
  have A7 := Aside0.mk A70
  clear A70
  have HC8 := Aside0.mk H
  clear H
  go_enter Try.func11, Try.ntmps11
  go_upto_region 2 with (first | ((with_reducible refine gate_callee (f := 28) rfl ?_); refine goesL_ (some 16) rfl rfl Try.func28 (by kernel_rfl) rfl #[] rfl (by (try simp only [List.map_toArray, List.map_cons, List.map_nil]); first | done | rfl | (simp only [List.length_drop, List.length_take]; rfl)) ?_; (with_reducible refine (chargeparklaw40_head.calls  t326 _ A7.out).mono ?_); rintro e w9 ⟨rfl, hb⟩; refine ⟨_, rfl, ?_⟩; have n0_ := Aside0.mk (below_step (by repeat (first | (with_reducible first | exact HB.out | apply below_alloc | apply pw_below_drewN | apply below_drew1) | exact HB.out)) hb); clear HB; have HB := n0_; clear n0_; (try clear hb); (try clear hb2); (try clear hk); (try clear hi)))
  (try simp only [Act.put, List.setIfInBounds_toArray, List.set_cons_zero, List.set_cons_succ])
  go_cut [34] (fun v34 wc => ∃ (kq : Nat) (x34_7 : Bool), v34 = .bool x34_7 ∧ Aside0 (chargeparklaw40_ChainOneItem.j0 kq a0 l1 a2 a3 a4 a5 t326 x34_7 = some r) ∧ Aside0 (kq ≤ k) ∧ Aside0 (Below w.heap.size w wc))
  case first =>
    have H := HC8.out
    clear HC8
    by_cases c10 : (l1.length : Int) = 0
    · rw [if_pos c10] at H
      have c10b0 : ((l1.length : Int) == 0) = true := beq_iff_eq.mpr c10
      have c10b1 : ((l1.length : Int) != 0) = false := bne_eq_false_iff_eq.mpr c10
      clear c10
      (first | rw [c10b0] | (simp only [i64_w, i32_w]; rw [c10b0]) | skip)
      have H' := Aside0.mk H
      clear H
      go_wp2
      go_meet
      case rel => exact ⟨_, (true), (by first | rfl | (simp; done) | (simp [*]; done) | kernel_rfl), H', ⟨by first | omega | exact Nat.le_refl _⟩, ⟨by repeat (first | (with_reducible first | exact HB.out | apply below_alloc | apply pw_below_drewN | apply below_drew1) | exact HB.out)⟩⟩
    · rw [if_neg c10] at H
      have c10b0 : ((l1.length : Int) == 0) = false := beq_eq_false_iff_ne.mpr c10
      have c10b1 : ((l1.length : Int) != 0) = true := bne_iff_ne.mpr c10
      have c10b2 : ¬ (l1 = []) := fun h_ => c10 (by rw [h_]; rfl)
      (first | rw [c10b0] | (simp only [i64_w, i32_w]; rw [c10b0]) | skip)
      by_cases c11 : (l1.length : Int) > 64
      · rw [if_pos c11] at H
        have c11b0 : decide (64 < (l1.length : Int)) = true := decide_eq_true c11
        have c11b1 : decide (64 < l1.length) = true := decide_eq_true (by omega)
        clear c11
        have H' := Aside0.mk H
        clear H
        go_wp2
        go_meet
        case rel => exact ⟨_, (true), (by first | rfl | (simp; done) | (simp [*]; done) | kernel_rfl), H', ⟨by first | omega | exact Nat.le_refl _⟩, ⟨by repeat (first | (with_reducible first | exact HB.out | apply below_alloc | apply pw_below_drewN | apply below_drew1) | exact HB.out)⟩⟩
      · rw [if_neg c11] at H
        have c11b0 : decide (64 < (l1.length : Int)) = false := decide_eq_false c11
        have c11b1 : decide (64 < l1.length) = false := decide_eq_false (by omega)
        clear c11
        by_cases c12 : a5 = 0
        · rw [if_pos c12] at H
          have c12b0 : (a5 == 0) = true := beq_iff_eq.mpr c12
          have c12b1 : (a5 != 0) = false := bne_eq_false_iff_eq.mpr c12
          clear c12
          have H' := Aside0.mk H
          clear H
          go_wp2
          go_meet
          case rel => exact ⟨_, (true), (by first | rfl | (simp; done) | (simp [*]; done) | kernel_rfl), H', ⟨by first | omega | exact Nat.le_refl _⟩, ⟨by repeat (first | (with_reducible first | exact HB.out | apply below_alloc | apply pw_below_drewN | apply below_drew1) | exact HB.out)⟩⟩
        · rw [if_neg c12] at H
          have c12b0 : (a5 == 0) = false := beq_eq_false_iff_ne.mpr c12
          have c12b1 : (a5 != 0) = true := bne_iff_ne.mpr c12
          replace H := Option.bind_eq_some_iff.mp H
          obtain ⟨t327, A130, H⟩ := H
          replace H : (chargeparklaw40_ChainOneItem.j0 k a0 l1 a2 a3 a4 a5 t326 (t327 != (-1))) = some r := H
          have A13 := Aside0.mk A130
          clear A130
          have H' := Aside0.mk H
          clear H
          go_wp2_with (first | (go_at_call 35; (with_reducible refine (chain_Check.calls a0 _ _ l1 t327 _ ?side1 ?side2 A13.out).mono ?_); (case side1 => repeat (first | exact (Kd.C_below HR1.out HB.out) | (with_reducible refine Kd.C_alloc ?_ _) | (with_reducible refine Kd.C_drewN ?_ _) | (with_reducible refine Kd.C_drew ?_))); (case side2 => exact HC1.out); rintro e w14 ⟨rfl, hb⟩; have n0_ := Aside0.mk (below_step (by repeat (first | (with_reducible first | exact HB.out | apply below_alloc | apply pw_below_drewN | apply below_drew1) | exact HB.out)) hb); clear HB; have HB := n0_; clear n0_; (try clear hb); (try clear hb2); (try clear hk); (try clear hi)))
          go_meet
          case rel => exact ⟨_, ((t327 != (-1))), (by first | rfl | (simp; done) | (simp [*]; done) | kernel_rfl), H', ⟨by first | omega | exact Nat.le_refl _⟩, ⟨by repeat (first | (with_reducible first | exact HB.out | apply below_alloc | apply pw_below_drewN | apply below_drew1) | exact HB.out)⟩⟩
  case rest =>
    clear HC8
    try clear c1
    try clear c2
    try clear p2
    try clear c10
    try clear c10b0
    try clear c10b1
    try clear c10b2
    try clear c11
    try clear c11b0
    try clear c11b1
    try clear c12
    try clear c12b0
    try clear c12b1
    obtain ⟨kq, x34_7, rfl, HA, HJ7, HB⟩ := hcut
    cases kq with
    | zero => exact absurd HA.out (by simp [chargeparklaw40_ChainOneItem.j0])
    | succ kj7 =>
      have H := HA.out
      clear HA
      simp only [chargeparklaw40_ChainOneItem.j0] at H
      by_cases c15 : x34_7 = true
      · subst c15
        have H1 : (some t326) = some r := by rw [if_pos rfl] at H; exact H
        clear H
        have H := H1
        clear H1
        obtain rfl := Option.some.inj H
        go_wp2
        go_ret
        exact ⟨by first | rfl | (simp [errW_none, errW_some] <;> rfl) | (simp [*, errW_none, errW_some] <;> rfl), by repeat (first | (with_reducible first | exact HB.out | apply below_alloc | apply pw_below_drewN | apply below_drew1) | exact HB.out)⟩
      · replace c15 := Bool.eq_false_iff.mpr c15
        subst c15
        have H1 : (if (l1.length : Int) = 0 then (none) else ((some (([] : List (S44)) : List (S44))).bind fun y328 => (if y328.length + l1.length < 3518437208883 then ((some (y328 ++ l1 : List (S44))).bind fun y331 => (if 0 ≤ (Int.tmod (wrap64 (a2)) (l1.length : Int)) then (if (Int.tmod (wrap64 (a2)) (l1.length : Int)) < (y331.length : Int) then ((chargeparklaw40_changed.f ((rd_T44 y331 (Int.tmod (wrap64 (a2)) (l1.length : Int))).f0) ((rd_T44 y331 (Int.tmod (wrap64 (a2)) (l1.length : Int))).f1) ((rd_T44 y331 (Int.tmod (wrap64 (a2)) (l1.length : Int))).f2) ((rd_T44 y331 (Int.tmod (wrap64 (a2)) (l1.length : Int))).f3) ((rd_T44 y331 (Int.tmod (wrap64 (a2)) (l1.length : Int))).f4) a3 a4 a5).bind fun bt335 => (if t326 = true then ((chain_Check.f a0 (y331.set ((Int.tmod (wrap64 (a2)) (l1.length : Int)) : Int).toNat (⟨bt335.1, bt335.2.1, bt335.2.2.1, bt335.2.2.2.1, bt335.2.2.2.2⟩ : S44))).bind fun t341 => (some (t341 == (Int.tmod (wrap64 (a2)) (l1.length : Int))))) else (some false))) else (none)) else (none))) else (none)))) = some r := by rw [if_neg (show ¬ (false = true) by decide)] at H; exact H
        clear H
        have H := H1
        clear H1
        by_cases c16 : (l1.length : Int) = 0
        · rw [if_pos c16] at H
          exact absurd H (by simp)
        · rw [if_neg c16] at H
          have c16b0 : ((l1.length : Int) == 0) = false := beq_eq_false_iff_ne.mpr c16
          have c16b1 : ((l1.length : Int) != 0) = true := bne_iff_ne.mpr c16
          have c16b2 : ¬ (l1 = []) := fun h_ => c16 (by rw [h_]; rfl)
          obtain ⟨y328, hy328⟩ : ∃ y_ : List (S44), y_ = (([] : List (S44))) := ⟨_, rfl⟩
          replace H : (if y328.length + l1.length < 3518437208883 then ((some (y328 ++ l1 : List (S44))).bind fun y331 => (if 0 ≤ (Int.tmod (wrap64 (a2)) (l1.length : Int)) then (if (Int.tmod (wrap64 (a2)) (l1.length : Int)) < (y331.length : Int) then ((chargeparklaw40_changed.f ((rd_T44 y331 (Int.tmod (wrap64 (a2)) (l1.length : Int))).f0) ((rd_T44 y331 (Int.tmod (wrap64 (a2)) (l1.length : Int))).f1) ((rd_T44 y331 (Int.tmod (wrap64 (a2)) (l1.length : Int))).f2) ((rd_T44 y331 (Int.tmod (wrap64 (a2)) (l1.length : Int))).f3) ((rd_T44 y331 (Int.tmod (wrap64 (a2)) (l1.length : Int))).f4) a3 a4 a5).bind fun bt335 => (if t326 = true then ((chain_Check.f a0 (y331.set ((Int.tmod (wrap64 (a2)) (l1.length : Int)) : Int).toNat (⟨bt335.1, bt335.2.1, bt335.2.2.1, bt335.2.2.2.1, bt335.2.2.2.2⟩ : S44))).bind fun t341 => (some (t341 == (Int.tmod (wrap64 (a2)) (l1.length : Int))))) else (some false))) else (none)) else (none))) else (none)) = some r := by first | (rw [hy328]; with_reducible exact H) | (have H2_ := (Option.bind_some _ _).symm.trans H; rw [hy328]; with_reducible exact H2_) | (have H2_ := (Option.bind_some _ _).symm.trans H; with_reducible exact H2_) | with_reducible exact H | (rw [hy328]; exact H) | exact H
          have Ny328 := Aside0.mk hy328
          clear hy328
          by_cases c17 : y328.length + l1.length < 3518437208883
          · rw [if_pos c17] at H
            have LMc17 := Aside0.mk c17
            clear c17
            obtain ⟨y331, hy331⟩ : ∃ y_ : List (S44), y_ = (y328 ++ l1) := ⟨_, rfl⟩
            replace H : (if 0 ≤ (Int.tmod (wrap64 (a2)) (l1.length : Int)) then (if (Int.tmod (wrap64 (a2)) (l1.length : Int)) < (y331.length : Int) then ((chargeparklaw40_changed.f ((rd_T44 y331 (Int.tmod (wrap64 (a2)) (l1.length : Int))).f0) ((rd_T44 y331 (Int.tmod (wrap64 (a2)) (l1.length : Int))).f1) ((rd_T44 y331 (Int.tmod (wrap64 (a2)) (l1.length : Int))).f2) ((rd_T44 y331 (Int.tmod (wrap64 (a2)) (l1.length : Int))).f3) ((rd_T44 y331 (Int.tmod (wrap64 (a2)) (l1.length : Int))).f4) a3 a4 a5).bind fun bt335 => (if t326 = true then ((chain_Check.f a0 (y331.set ((Int.tmod (wrap64 (a2)) (l1.length : Int)) : Int).toNat (⟨bt335.1, bt335.2.1, bt335.2.2.1, bt335.2.2.2.1, bt335.2.2.2.2⟩ : S44))).bind fun t341 => (some (t341 == (Int.tmod (wrap64 (a2)) (l1.length : Int))))) else (some false))) else (none)) else (none)) = some r := by first | (rw [hy331]; with_reducible exact H) | (have H2_ := (Option.bind_some _ _).symm.trans H; rw [hy331]; with_reducible exact H2_) | (have H2_ := (Option.bind_some _ _).symm.trans H; with_reducible exact H2_) | with_reducible exact H | (rw [hy331]; exact H) | exact H
            have Ny331 := Aside0.mk hy331
            clear hy331
            obtain ⟨ji18, hji18⟩ : ∃ j_ : Int, (Int.tmod (wrap64 (a2)) (l1.length : Int)) = j_ := ⟨_, rfl⟩
            replace H : (if 0 ≤ (ji18) then (if (ji18) < (y331.length : Int) then ((chargeparklaw40_changed.f ((rd_T44 y331 (ji18)).f0) ((rd_T44 y331 (ji18)).f1) ((rd_T44 y331 (ji18)).f2) ((rd_T44 y331 (ji18)).f3) ((rd_T44 y331 (ji18)).f4) a3 a4 a5).bind fun bt335 => (if t326 = true then ((chain_Check.f a0 (y331.set ((ji18) : Int).toNat (⟨bt335.1, bt335.2.1, bt335.2.2.1, bt335.2.2.2.1, bt335.2.2.2.2⟩ : S44))).bind fun t341 => (some (t341 == (ji18)))) else (some false))) else (none)) else (none)) = some r := by first | (rw [hji18] at H; exact H) | (simp only [hji18] at H ⊢; exact H)
            by_cases c19 : 0 ≤ (ji18)
            · rw [if_pos c19] at H
              have c19b0 : decide (0 ≤ (ji18)) = true := decide_eq_true c19
              clear c19
              by_cases c20 : (ji18) < (y331.length : Int)
              · rw [if_pos c20] at H
                have c20b0 : decide ((ji18) < (y331.length : Int)) = true := decide_eq_true c20
                clear c20
                replace H := Option.bind_eq_some_iff.mp H
                obtain ⟨⟨t335, t336, t337, t338, t339⟩, A210, H⟩ := H
                replace H : (if t326 = true then ((chain_Check.f a0 (y331.set ((ji18) : Int).toNat (⟨t335, t336, t337, t338, t339⟩ : S44))).bind fun t341 => (some (t341 == (ji18)))) else (some false)) = some r := H
                have A21 := Aside0.mk A210
                clear A210
                obtain ⟨y340, hy340⟩ : ∃ y_ : List (S44), y_ = (y331.set ((ji18) : Int).toNat (⟨t335, t336, t337, t338, t339⟩ : S44)) := ⟨_, rfl⟩
                replace H : (if t326 = true then ((chain_Check.f a0 y340).bind fun t341 => (some (t341 == (ji18)))) else (some false)) = some r := by first | (rw [hy340]; with_reducible exact H) | (have H2_ := (Option.bind_some _ _).symm.trans H; rw [hy340]; with_reducible exact H2_) | (have H2_ := (Option.bind_some _ _).symm.trans H; with_reducible exact H2_) | with_reducible exact H | (rw [hy340]; exact H) | exact H
                have Ny340 := Aside0.mk hy340
                clear hy340
                by_cases c23 : t326 = true
                · subst c23
                  have H1 : ((chain_Check.f a0 y340).bind fun t341 => (some (t341 == (ji18)))) = some r := by rw [if_pos rfl] at H; exact H
                  clear H
                  have H := H1
                  clear H1
                  replace H := Option.bind_eq_some_iff.mp H
                  obtain ⟨t341, A240, H⟩ := H
                  replace H : (some (t341 == (ji18))) = some r := H
                  have A24 := Aside0.mk A240
                  clear A240
                  obtain rfl := Option.some.inj H
                  go_wp2_with (first | ((with_reducible refine gate_dst (N := 41) rfl ?_); (try (refine gate_guard (by rfl) ?_; dsimp only)); refine Kd.R_lit k44 _ 44 ?hg (N := 41) ?hd (xs := ([] : List (S44))) (inner := []) (ok := fun _ => True) (okp := fun _ => True) ?hr ?hp (fun _ hk => hk) trivial (Below.refl _ _) (Nat.le_refl _) (by simp) ?_; (case hd => rfl); (case hg => rfl); (case hr => first | (go_simp; done) | (go_simp; rfl)); (case hp => exact (Reps.none _ _)); intro v329 w25 ho26 hb hg_ hnew_; clear hg_ hnew_; (first | rw [← Ny328.out] at ho26 | (simp only [Int.reduceToNat] at ho26; rw [← Ny328.out] at ho26)); have n0_ := Aside0.mk (Kd.R_lower ho26 (below_size (by repeat (first | (with_reducible first | exact HB.out | apply below_alloc | apply pw_below_drewN | apply below_drew1) | exact HB.out)))); have n1_ := Aside0.mk (below_step (by repeat (first | (with_reducible first | exact HB.out | apply below_alloc | apply pw_below_drewN | apply below_drew1) | exact HB.out)) hb); clear HB; have HO330 := n0_; have HB := n1_; clear n0_ n1_; clear hb ho26) | ((with_reducible refine gate_builtin (b := .append) (xs := #[.tmp 41, .tmp 42]) rfl ?_); (try (refine gate_guard (by rfl) ?_; dsimp only)); at_builtin; refine Kd.R_append_rows k44 (w0 := w) w.heap.size rfl (.tmp 41) (.tmp 42) 26 44 (.agg #[(.int .i64 0), (.int .i64 0), (.int .i64 0), (.int .i64 0), (.int .u64 0)]) 40 rfl Try.underlying26 info44 rfl (by decide) (by omega) v329 y328 l1 _ _ _ (fun _ => True) (fun _ => False) rfl rfl ?aO ?aR (fun _ _ h => h) (fun _ h => h.elim) ?aF ?aB ?aS ?aL ?_; (case aR => repeat (first | exact (Kd.C_below HR1.out HB.out) | (with_reducible refine Kd.C_alloc ?_ _) | (with_reducible refine Kd.C_drewN ?_ _) | (with_reducible refine Kd.C_drew ?_))); (case aB => exact (by repeat (first | (with_reducible first | exact HB.out | apply below_alloc | apply pw_below_drewN | apply below_drew1) | exact HB.out))); (case aF => exact (fun _ _ => trivial)); (case aO => exact (by (with_reducible repeat (first | apply Kd.R_alloc | apply Kd.R_drewN | apply Kd.R_drew)); exact HO330.out)); (case aS => exact (below_size (by repeat (first | (with_reducible first | exact HB.out | apply below_alloc | apply pw_below_drewN | apply below_drew1) | exact HB.out)))); (case aL => have := LMc17.out; omega); intro v332 w27 ho hb hg hat; rw [← Ny331.out] at ho; have n0_ := Aside0.mk (hb); have n1_ := Aside0.mk (ho); clear HB; clear HO330; have HB := n0_; have HO333 := n1_; clear n0_ n1_; clear ho hb hg hat; obtain ⟨Ao28, co28, eo28⟩ := Kd.R_slice HO333.out; subst eo28; have p334 : 0 ≤ ((ji18) : Int) := of_decide_eq_true (by first | (with_reducible assumption) | assumption); have q334 : (ji18) < (y331.length : Int) := of_decide_eq_true (by first | (with_reducible assumption) | assumption); obtain ⟨ad334, e334, hx334_0, hx334_1, hx334_2, hx334_3, hx334_4⟩ := at_T44 (Kd.R_reads' HO333.out).2.2 (ji18) p334 q334; cases e334; replace p334 := eq_true p334; replace q334 := eq_true q334) | ((with_reducible refine gate_callee (f := 37) rfl ?_); refine goesL_ (some 53) rfl rfl Try.func37 (by kernel_rfl) rfl #[.agg #[.int .i64 ((rd_T44 y331 (ji18)).f0), .int .i64 ((rd_T44 y331 (ji18)).f1), .int .i64 ((rd_T44 y331 (ji18)).f2), .int .i64 ((rd_T44 y331 (ji18)).f3), .int .u64 ((rd_T44 y331 (ji18)).f4)], .int .u8 a3, .int .u8 a4, .int .u8 a5] rfl (by (try simp only [List.map_toArray, List.map_cons, List.map_nil]); first | done | (simp only [hji18]; rfl) | rfl | (simp only [List.length_drop, List.length_take]; rfl)) ?_; (with_reducible refine (chargeparklaw40_changed.calls ((rd_T44 y331 (ji18)).f0) ((rd_T44 y331 (ji18)).f1) ((rd_T44 y331 (ji18)).f2) ((rd_T44 y331 (ji18)).f3) ((rd_T44 y331 (ji18)).f4) a3 a4 a5 t335 t336 t337 t338 t339 _ A21.out).mono ?_); rintro e w29 ⟨rfl, hb⟩; refine ⟨_, rfl, ?_⟩; have n0_ := Aside0.mk (Kd.R_below (by (with_reducible repeat (first | apply Kd.R_alloc | apply Kd.R_drewN | apply Kd.R_drew)); exact HO333.out) hb); have n1_ := Aside0.mk (below_step (by repeat (first | (with_reducible first | exact HB.out | apply below_alloc | apply pw_below_drewN | apply below_drew1) | exact HB.out)) hb); clear HO333; clear HB; have HO333 := n0_; have HB := n1_; clear n0_ n1_; (try clear hb); (try clear hb2); (try clear hk); (try clear hi); have p22 : 0 ≤ ((ji18) : Int) := of_decide_eq_true (by first | (with_reducible assumption) | assumption); have q22 : ((ji18) : Int) < ((y331.length : Int) : Int) := of_decide_eq_true (by first | (with_reducible assumption) | assumption); obtain ⟨go22, co22, eo22, gb22, gl22, cl22, HG22⟩ := Kd.R_form HO333.out (by omega); (first | cases eo22 | (injection eo22 with ea_ en_ ec_; (first | subst ea_ | (injection ea_ with ea_; subst ea_)); subst ec_; clear en_)); have GB22 := Aside0.mk gb22; have GG22 := Aside0.mk HG22; clear gb22 gl22 HG22; (first | simp only [add_plain] at hx334_0 | skip); (first | simp only [add_plain] at hx334_1 | skip); (first | simp only [add_plain] at hx334_2 | skip); (first | simp only [add_plain] at hx334_3 | skip); (first | simp only [add_plain] at hx334_4 | skip); obtain ⟨ce22, hcl22, hM22, hcc22, hfr22⟩ := Kd.R_elem HO333.out z44 ((ji18) : Int) p22 q22; obtain rfl := k44_openM hM22; have hx22_0 : w29.cell? ⟨go22, ((ji18) : Int).toNat * 5, none⟩ = some (.int .i64 ((rd_T44 y331 (ji18)).f0)) := hcc22 0 _ rfl; have hx22_1 : w29.cell? ⟨go22, ((ji18) : Int).toNat * 5 + 1, none⟩ = some (.int .i64 ((rd_T44 y331 (ji18)).f1)) := hcc22 1 _ rfl; have hx22_2 : w29.cell? ⟨go22, ((ji18) : Int).toNat * 5 + 2, none⟩ = some (.int .i64 ((rd_T44 y331 (ji18)).f2)) := hcc22 2 _ rfl; have hx22_3 : w29.cell? ⟨go22, ((ji18) : Int).toNat * 5 + 3, none⟩ = some (.int .i64 ((rd_T44 y331 (ji18)).f3)) := hcc22 3 _ rfl; have hx22_4 : w29.cell? ⟨go22, ((ji18) : Int).toNat * 5 + 4, none⟩ = some (.int .u64 ((rd_T44 y331 (ji18)).f4)) := hcc22 4 _ rfl; have hf22_0 : w29.frozen? ⟨go22, ((ji18) : Int).toNat * 5, none⟩ = false := hfr22 0; have hf22_1 : w29.frozen? ⟨go22, ((ji18) : Int).toNat * 5 + 1, none⟩ = false := hfr22 1; have hf22_2 : w29.frozen? ⟨go22, ((ji18) : Int).toNat * 5 + 2, none⟩ = false := hfr22 2; have hf22_3 : w29.frozen? ⟨go22, ((ji18) : Int).toNat * 5 + 3, none⟩ = false := hfr22 3; have hf22_4 : w29.frozen? ⟨go22, ((ji18) : Int).toNat * 5 + 4, none⟩ = false := hfr22 4; clear hcl22 hcc22 hfr22 hM22; replace p22 := eq_true p22; replace q22 := eq_true q22; have HX30 := Aside0.mk (show Kd.R k44 44 w29 w.heap.size (fun _ => True) (.slice (some ⟨go22, 0, none⟩) y331.length co28) y331 from (by (with_reducible repeat (first | apply Kd.R_alloc | apply Kd.R_drewN | apply Kd.R_drew)); exact HO333.out)); obtain ⟨ce30, hcl30, hM30, hcc30, hfr30⟩ := Kd.R_elem HX30.out z44 ((ji18) : Int) (of_decide_eq_true (by first | (with_reducible assumption) | assumption)) (by have h_ : ((ji18) : Int) < ((y331.length : Int) : Int) := of_decide_eq_true (by first | (with_reducible assumption) | assumption); first | exact h_ | (have e_ := (Kd.R_reads' HO333.out).1; omega) | simpa using h_); obtain rfl := k44_openM hM30; have HP30 := Kd.R_seg HX30.out ((ji18) : Int) (of_decide_eq_true (by first | (with_reducible assumption) | assumption)) (by have h_ : ((ji18) : Int) < ((y331.length : Int) : Int) := of_decide_eq_true (by first | (with_reducible assumption) | assumption); first | exact h_ | (have e_ := (Kd.R_reads' HO333.out).1; omega) | simpa using h_) (seg := [.int .i64 t335, .int .i64 t336, .int .i64 t337, .int .i64 t338, .int .u64 t339]) (j := 0) hcl30 hcc30 (show 5 ≤ 5 from by decide) (x' := (⟨t335, t336, t337, t338, t339⟩ : S44)) (k44_mkM _ _ _ (⟨t335, t336, t337, t338, t339⟩ : S44) ) (fun _ hk => hk); have hx30_0 := hcc30 0 _ rfl; (try simp only [show (k44).sz = 5 from rfl, Nat.mul_one, Nat.add_zero] at hx30_0); have hf30_0 := hfr30 0; (try simp only [show (k44).sz = 5 from rfl, Nat.mul_one, Nat.add_zero] at hf30_0); have hx30_1 := hcc30 1 _ rfl; (try simp only [show (k44).sz = 5 from rfl, Nat.mul_one, Nat.add_zero] at hx30_1); have hf30_1 := hfr30 1; (try simp only [show (k44).sz = 5 from rfl, Nat.mul_one, Nat.add_zero] at hf30_1); have hx30_2 := hcc30 2 _ rfl; (try simp only [show (k44).sz = 5 from rfl, Nat.mul_one, Nat.add_zero] at hx30_2); have hf30_2 := hfr30 2; (try simp only [show (k44).sz = 5 from rfl, Nat.mul_one, Nat.add_zero] at hf30_2); have hx30_3 := hcc30 3 _ rfl; (try simp only [show (k44).sz = 5 from rfl, Nat.mul_one, Nat.add_zero] at hx30_3); have hf30_3 := hfr30 3; (try simp only [show (k44).sz = 5 from rfl, Nat.mul_one, Nat.add_zero] at hf30_3); have hx30_4 := hcc30 4 _ rfl; (try simp only [show (k44).sz = 5 from rfl, Nat.mul_one, Nat.add_zero] at hx30_4); have hf30_4 := hfr30 4; (try simp only [show (k44).sz = 5 from rfl, Nat.mul_one, Nat.add_zero] at hf30_4); clear hcl30 hcc30 hfr30 hM30) | ((with_reducible refine gate_store (t := 44) (p := 54) rfl ?_); refine store_event (t := 44) (p := 54) (v := ?vo_w31) (w1 := (((((w29.setCell ⟨go22, ((ji18) : Int).toNat * 5, none⟩ (.int .i64 t335)).setCell ⟨go22, ((ji18) : Int).toNat * 5 + 1, none⟩ (.int .i64 t336)).setCell ⟨go22, ((ji18) : Int).toNat * 5 + 2, none⟩ (.int .i64 t337)).setCell ⟨go22, ((ji18) : Int).toNat * 5 + 3, none⟩ (.int .i64 t338)).setCell ⟨go22, ((ji18) : Int).toNat * 5 + 4, none⟩ (.int .u64 t339))) ?hg ?ho ?hn ?hr ?_; (case ho => rfl); (case hg => rfl); (case hn => rfl); (case hr => first | (go_simp; done) | (go_simp; rfl)); intro w31 hw; have hg : w29.grownBy w31 (some go22) := (by rw [hw]; exact HP30.2); have hp_ : Kd.R k44 44 w31 w.heap.size (fun _ => True) (.slice (some ⟨go22, 0, none⟩) y331.length co28) y340 := (by rw [hw, Ny340.out]; exact HP30.1); clear HP30; have n0_ := Aside0.mk (hp_); have n1_ := Aside0.mk ((by rw [hw]; exact below_set (below_set (below_set (below_set (below_set (HB.out) GB22.out) GB22.out) GB22.out) GB22.out) GB22.out : Below w.heap.size w w31)); clear HO333; clear HB; have HO333 := n0_; have HB := n1_; clear n0_ n1_; clear hg hw hp_) | (go_at_call 35; refine calls_of_args (args' := #[.int .u64 a0, .slice (some ⟨go22, 0, none⟩) y340.length co28]) (by first | (rw [show y340.length = y331.length from (Kd.R_reads' HO333.out).1.symm] <;> rfl) | rfl) ?_; (with_reducible refine (chain_Check.calls a0 _ _ y340 t341 _ ?side1 ?side2 A24.out).mono ?_); (case side1 => repeat (first | exact (Kd.R_reads' HO333.out).2.2 | (with_reducible refine Kd.C_alloc ?_ _) | (with_reducible refine Kd.C_drewN ?_ _) | (with_reducible refine Kd.C_drew ?_))); (case side2 => rw [show y340.length = y331.length from (Kd.R_reads' HO333.out).1.symm]; exact (Kd.R_reads' HO333.out).2.1); rintro e w32 ⟨rfl, hb⟩; have n0_ := Aside0.mk (Kd.R_below (by (with_reducible repeat (first | apply Kd.R_alloc | apply Kd.R_drewN | apply Kd.R_drew)); exact HO333.out) hb); have n1_ := Aside0.mk (below_step (by repeat (first | (with_reducible first | exact HB.out | apply below_alloc | apply pw_below_drewN | apply below_drew1) | exact HB.out)) hb); clear HO333; clear HB; have HO333 := n0_; have HB := n1_; clear n0_ n1_; (try clear hb); (try clear hb2); (try clear hk); (try clear hi)))
                  go_ret
                  exact ⟨by first | rfl | (simp [errW_none, errW_some] <;> rfl) | (simp only [← hji18]; first | rfl | (simp [errW_none, errW_some] <;> rfl)) | (simp [*, errW_none, errW_some] <;> rfl), by repeat (first | (with_reducible first | exact HB.out | apply below_alloc | apply pw_below_drewN | apply below_drew1) | exact HB.out)⟩
                · replace c23 := Bool.eq_false_iff.mpr c23
                  subst c23
                  have H1 : (some false) = some r := by rw [if_neg (show ¬ (false = true) by decide)] at H; exact H
                  clear H
                  have H := H1
                  clear H1
                  obtain rfl := Option.some.inj H
                  go_wp2_with (first | ((with_reducible refine gate_dst (N := 41) rfl ?_); (try (refine gate_guard (by rfl) ?_; dsimp only)); refine Kd.R_lit k44 _ 44 ?hg (N := 41) ?hd (xs := ([] : List (S44))) (inner := []) (ok := fun _ => True) (okp := fun _ => True) ?hr ?hp (fun _ hk => hk) trivial (Below.refl _ _) (Nat.le_refl _) (by simp) ?_; (case hd => rfl); (case hg => rfl); (case hr => first | (go_simp; done) | (go_simp; rfl)); (case hp => exact (Reps.none _ _)); intro v329 w33 ho34 hb hg_ hnew_; clear hg_ hnew_; (first | rw [← Ny328.out] at ho34 | (simp only [Int.reduceToNat] at ho34; rw [← Ny328.out] at ho34)); have n0_ := Aside0.mk (Kd.R_lower ho34 (below_size (by repeat (first | (with_reducible first | exact HB.out | apply below_alloc | apply pw_below_drewN | apply below_drew1) | exact HB.out)))); have n1_ := Aside0.mk (below_step (by repeat (first | (with_reducible first | exact HB.out | apply below_alloc | apply pw_below_drewN | apply below_drew1) | exact HB.out)) hb); clear HB; have HO330 := n0_; have HB := n1_; clear n0_ n1_; clear hb ho34) | ((with_reducible refine gate_builtin (b := .append) (xs := #[.tmp 41, .tmp 42]) rfl ?_); (try (refine gate_guard (by rfl) ?_; dsimp only)); at_builtin; refine Kd.R_append_rows k44 (w0 := w) w.heap.size rfl (.tmp 41) (.tmp 42) 26 44 (.agg #[(.int .i64 0), (.int .i64 0), (.int .i64 0), (.int .i64 0), (.int .u64 0)]) 40 rfl Try.underlying26 info44 rfl (by decide) (by omega) v329 y328 l1 _ _ _ (fun _ => True) (fun _ => False) rfl rfl ?aO ?aR (fun _ _ h => h) (fun _ h => h.elim) ?aF ?aB ?aS ?aL ?_; (case aR => repeat (first | exact (Kd.C_below HR1.out HB.out) | (with_reducible refine Kd.C_alloc ?_ _) | (with_reducible refine Kd.C_drewN ?_ _) | (with_reducible refine Kd.C_drew ?_))); (case aB => exact (by repeat (first | (with_reducible first | exact HB.out | apply below_alloc | apply pw_below_drewN | apply below_drew1) | exact HB.out))); (case aF => exact (fun _ _ => trivial)); (case aO => exact (by (with_reducible repeat (first | apply Kd.R_alloc | apply Kd.R_drewN | apply Kd.R_drew)); exact HO330.out)); (case aS => exact (below_size (by repeat (first | (with_reducible first | exact HB.out | apply below_alloc | apply pw_below_drewN | apply below_drew1) | exact HB.out)))); (case aL => have := LMc17.out; omega); intro v332 w35 ho hb hg hat; rw [← Ny331.out] at ho; have n0_ := Aside0.mk (hb); have n1_ := Aside0.mk (ho); clear HB; clear HO330; have HB := n0_; have HO333 := n1_; clear n0_ n1_; clear ho hb hg hat; obtain ⟨Ao36, co36, eo36⟩ := Kd.R_slice HO333.out; subst eo36; have p334 : 0 ≤ ((ji18) : Int) := of_decide_eq_true (by first | (with_reducible assumption) | assumption); have q334 : (ji18) < (y331.length : Int) := of_decide_eq_true (by first | (with_reducible assumption) | assumption); obtain ⟨ad334, e334, hx334_0, hx334_1, hx334_2, hx334_3, hx334_4⟩ := at_T44 (Kd.R_reads' HO333.out).2.2 (ji18) p334 q334; cases e334; replace p334 := eq_true p334; replace q334 := eq_true q334) | ((with_reducible refine gate_callee (f := 37) rfl ?_); refine goesL_ (some 53) rfl rfl Try.func37 (by kernel_rfl) rfl #[.agg #[.int .i64 ((rd_T44 y331 (ji18)).f0), .int .i64 ((rd_T44 y331 (ji18)).f1), .int .i64 ((rd_T44 y331 (ji18)).f2), .int .i64 ((rd_T44 y331 (ji18)).f3), .int .u64 ((rd_T44 y331 (ji18)).f4)], .int .u8 a3, .int .u8 a4, .int .u8 a5] rfl (by (try simp only [List.map_toArray, List.map_cons, List.map_nil]); first | done | (simp only [hji18]; rfl) | rfl | (simp only [List.length_drop, List.length_take]; rfl)) ?_; (with_reducible refine (chargeparklaw40_changed.calls ((rd_T44 y331 (ji18)).f0) ((rd_T44 y331 (ji18)).f1) ((rd_T44 y331 (ji18)).f2) ((rd_T44 y331 (ji18)).f3) ((rd_T44 y331 (ji18)).f4) a3 a4 a5 t335 t336 t337 t338 t339 _ A21.out).mono ?_); rintro e w37 ⟨rfl, hb⟩; refine ⟨_, rfl, ?_⟩; have n0_ := Aside0.mk (Kd.R_below (by (with_reducible repeat (first | apply Kd.R_alloc | apply Kd.R_drewN | apply Kd.R_drew)); exact HO333.out) hb); have n1_ := Aside0.mk (below_step (by repeat (first | (with_reducible first | exact HB.out | apply below_alloc | apply pw_below_drewN | apply below_drew1) | exact HB.out)) hb); clear HO333; clear HB; have HO333 := n0_; have HB := n1_; clear n0_ n1_; (try clear hb); (try clear hb2); (try clear hk); (try clear hi); have p22 : 0 ≤ ((ji18) : Int) := of_decide_eq_true (by first | (with_reducible assumption) | assumption); have q22 : ((ji18) : Int) < ((y331.length : Int) : Int) := of_decide_eq_true (by first | (with_reducible assumption) | assumption); obtain ⟨go22, co22, eo22, gb22, gl22, cl22, HG22⟩ := Kd.R_form HO333.out (by omega); (first | cases eo22 | (injection eo22 with ea_ en_ ec_; (first | subst ea_ | (injection ea_ with ea_; subst ea_)); subst ec_; clear en_)); have GB22 := Aside0.mk gb22; have GG22 := Aside0.mk HG22; clear gb22 gl22 HG22; (first | simp only [add_plain] at hx334_0 | skip); (first | simp only [add_plain] at hx334_1 | skip); (first | simp only [add_plain] at hx334_2 | skip); (first | simp only [add_plain] at hx334_3 | skip); (first | simp only [add_plain] at hx334_4 | skip); obtain ⟨ce22, hcl22, hM22, hcc22, hfr22⟩ := Kd.R_elem HO333.out z44 ((ji18) : Int) p22 q22; obtain rfl := k44_openM hM22; have hx22_0 : w37.cell? ⟨go22, ((ji18) : Int).toNat * 5, none⟩ = some (.int .i64 ((rd_T44 y331 (ji18)).f0)) := hcc22 0 _ rfl; have hx22_1 : w37.cell? ⟨go22, ((ji18) : Int).toNat * 5 + 1, none⟩ = some (.int .i64 ((rd_T44 y331 (ji18)).f1)) := hcc22 1 _ rfl; have hx22_2 : w37.cell? ⟨go22, ((ji18) : Int).toNat * 5 + 2, none⟩ = some (.int .i64 ((rd_T44 y331 (ji18)).f2)) := hcc22 2 _ rfl; have hx22_3 : w37.cell? ⟨go22, ((ji18) : Int).toNat * 5 + 3, none⟩ = some (.int .i64 ((rd_T44 y331 (ji18)).f3)) := hcc22 3 _ rfl; have hx22_4 : w37.cell? ⟨go22, ((ji18) : Int).toNat * 5 + 4, none⟩ = some (.int .u64 ((rd_T44 y331 (ji18)).f4)) := hcc22 4 _ rfl; have hf22_0 : w37.frozen? ⟨go22, ((ji18) : Int).toNat * 5, none⟩ = false := hfr22 0; have hf22_1 : w37.frozen? ⟨go22, ((ji18) : Int).toNat * 5 + 1, none⟩ = false := hfr22 1; have hf22_2 : w37.frozen? ⟨go22, ((ji18) : Int).toNat * 5 + 2, none⟩ = false := hfr22 2; have hf22_3 : w37.frozen? ⟨go22, ((ji18) : Int).toNat * 5 + 3, none⟩ = false := hfr22 3; have hf22_4 : w37.frozen? ⟨go22, ((ji18) : Int).toNat * 5 + 4, none⟩ = false := hfr22 4; clear hcl22 hcc22 hfr22 hM22; replace p22 := eq_true p22; replace q22 := eq_true q22; have HX38 := Aside0.mk (show Kd.R k44 44 w37 w.heap.size (fun _ => True) (.slice (some ⟨go22, 0, none⟩) y331.length co36) y331 from (by (with_reducible repeat (first | apply Kd.R_alloc | apply Kd.R_drewN | apply Kd.R_drew)); exact HO333.out)); obtain ⟨ce38, hcl38, hM38, hcc38, hfr38⟩ := Kd.R_elem HX38.out z44 ((ji18) : Int) (of_decide_eq_true (by first | (with_reducible assumption) | assumption)) (by have h_ : ((ji18) : Int) < ((y331.length : Int) : Int) := of_decide_eq_true (by first | (with_reducible assumption) | assumption); first | exact h_ | (have e_ := (Kd.R_reads' HO333.out).1; omega) | simpa using h_); obtain rfl := k44_openM hM38; have HP38 := Kd.R_seg HX38.out ((ji18) : Int) (of_decide_eq_true (by first | (with_reducible assumption) | assumption)) (by have h_ : ((ji18) : Int) < ((y331.length : Int) : Int) := of_decide_eq_true (by first | (with_reducible assumption) | assumption); first | exact h_ | (have e_ := (Kd.R_reads' HO333.out).1; omega) | simpa using h_) (seg := [.int .i64 t335, .int .i64 t336, .int .i64 t337, .int .i64 t338, .int .u64 t339]) (j := 0) hcl38 hcc38 (show 5 ≤ 5 from by decide) (x' := (⟨t335, t336, t337, t338, t339⟩ : S44)) (k44_mkM _ _ _ (⟨t335, t336, t337, t338, t339⟩ : S44) ) (fun _ hk => hk); have hx38_0 := hcc38 0 _ rfl; (try simp only [show (k44).sz = 5 from rfl, Nat.mul_one, Nat.add_zero] at hx38_0); have hf38_0 := hfr38 0; (try simp only [show (k44).sz = 5 from rfl, Nat.mul_one, Nat.add_zero] at hf38_0); have hx38_1 := hcc38 1 _ rfl; (try simp only [show (k44).sz = 5 from rfl, Nat.mul_one, Nat.add_zero] at hx38_1); have hf38_1 := hfr38 1; (try simp only [show (k44).sz = 5 from rfl, Nat.mul_one, Nat.add_zero] at hf38_1); have hx38_2 := hcc38 2 _ rfl; (try simp only [show (k44).sz = 5 from rfl, Nat.mul_one, Nat.add_zero] at hx38_2); have hf38_2 := hfr38 2; (try simp only [show (k44).sz = 5 from rfl, Nat.mul_one, Nat.add_zero] at hf38_2); have hx38_3 := hcc38 3 _ rfl; (try simp only [show (k44).sz = 5 from rfl, Nat.mul_one, Nat.add_zero] at hx38_3); have hf38_3 := hfr38 3; (try simp only [show (k44).sz = 5 from rfl, Nat.mul_one, Nat.add_zero] at hf38_3); have hx38_4 := hcc38 4 _ rfl; (try simp only [show (k44).sz = 5 from rfl, Nat.mul_one, Nat.add_zero] at hx38_4); have hf38_4 := hfr38 4; (try simp only [show (k44).sz = 5 from rfl, Nat.mul_one, Nat.add_zero] at hf38_4); clear hcl38 hcc38 hfr38 hM38) | ((with_reducible refine gate_store (t := 44) (p := 54) rfl ?_); refine store_event (t := 44) (p := 54) (v := ?vo_w39) (w1 := (((((w37.setCell ⟨go22, ((ji18) : Int).toNat * 5, none⟩ (.int .i64 t335)).setCell ⟨go22, ((ji18) : Int).toNat * 5 + 1, none⟩ (.int .i64 t336)).setCell ⟨go22, ((ji18) : Int).toNat * 5 + 2, none⟩ (.int .i64 t337)).setCell ⟨go22, ((ji18) : Int).toNat * 5 + 3, none⟩ (.int .i64 t338)).setCell ⟨go22, ((ji18) : Int).toNat * 5 + 4, none⟩ (.int .u64 t339))) ?hg ?ho ?hn ?hr ?_; (case ho => rfl); (case hg => rfl); (case hn => rfl); (case hr => first | (go_simp; done) | (go_simp; rfl)); intro w39 hw; have hg : w37.grownBy w39 (some go22) := (by rw [hw]; exact HP38.2); have hp_ : Kd.R k44 44 w39 w.heap.size (fun _ => True) (.slice (some ⟨go22, 0, none⟩) y331.length co36) y340 := (by rw [hw, Ny340.out]; exact HP38.1); clear HP38; have n0_ := Aside0.mk (hp_); have n1_ := Aside0.mk ((by rw [hw]; exact below_set (below_set (below_set (below_set (below_set (HB.out) GB22.out) GB22.out) GB22.out) GB22.out) GB22.out : Below w.heap.size w w39)); clear HO333; clear HB; have HO333 := n0_; have HB := n1_; clear n0_ n1_; clear hg hw hp_))
                  go_ret
                  exact ⟨by first | rfl | (simp [errW_none, errW_some] <;> rfl) | (simp only [← hji18]; first | rfl | (simp [errW_none, errW_some] <;> rfl)) | (simp [*, errW_none, errW_some] <;> rfl), by repeat (first | (with_reducible first | exact HB.out | apply below_alloc | apply pw_below_drewN | apply below_drew1) | exact HB.out)⟩
              · rw [if_neg c20] at H
                exact absurd H (by simp)
            · rw [if_neg c19] at H
              exact absurd H (by simp)
          · rw [if_neg c17] at H
            exact absurd H (by simp)

end Go.Proofs.Ytenkffjlpdappaa.Pr
