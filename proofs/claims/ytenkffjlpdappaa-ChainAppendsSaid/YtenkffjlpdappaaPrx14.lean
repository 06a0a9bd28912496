-- Printed by hprint.py (a program of this claim's session over the kit's printer).
import Derived.Test.YtenkffjlpdappaaPrx0
import Derived.Test.YtenkffjlpdappaaPrx11
import Derived.Test.YtenkffjlpdappaaPrx13
import Derived.Test.YtenkffjlpdappaaHChainA
import Derived.Test.YtenkffjlpdappaaHChainC
namespace Go.Proofs.Ytenkffjlpdappaa.Pr
open Go.RowKit Go.Proofs.YtenkffjlpdappaaW.PrintWords Go.Proofs.YtenkffjlpdappaaW.PrintLast Go.Proofs.YtenkffjlpdappaaW.PrintMore
attribute [local go_sem] max2_int min2_int max_two min_two max_three min_three max_four min_four   -- for this text's walks alone
set_option linter.unusedVariables false
set_option linter.unusedSimpArgs false

/-! ### chargeparklaw40_ChainAppends: function 10 -/
mutual
def chargeparklaw40_ChainAppends.j0 : Nat → Int → List (S44) → Int → Int → Int → Bool → List (S44) → Bool → Option (Bool)
  | 0, _, _, _, _, _, _, _, _ => none
  | k + 1, x0, x1, x2, x3, x4, x11, x12, x32 => if x32 = true then (some x11) else (if (x12.length : Int) = (wrap64 ((x1.length : Int) + 1)) then (if 0 ≤ (x1.length : Int) then (if (x1.length : Int) ≤ (x12.length : Int) then ((chargeparkref40_Same.f k (x12.take ((x1.length : Int) : Int).toNat) x1).bind fun t321 => (chargeparklaw40_ChainAppends.j1 k x0 x1 x2 x3 x4 x11 x12 (x1.length : Int) (!t321))) else (none)) else (none)) else (chargeparklaw40_ChainAppends.j1 k x0 x1 x2 x3 x4 x11 x12 (x1.length : Int) true))
def chargeparklaw40_ChainAppends.j1 : Nat → Int → List (S44) → Int → Int → Int → Bool → List (S44) → Int → Bool → Option (Bool)
  | 0, _, _, _, _, _, _, _, _, _ => none
  | k + 1, x0, x1, x2, x3, x4, x11, x12, x14, x48 => if x48 = true then (some false) else (if 0 ≤ x14 then (if x14 < (x12.length : Int) then (if x11 = true then (if ((rd_T44 x12 x14).f0) = x2 then (if ((rd_T44 x12 x14).f2) = x3 then (if ((rd_T44 x12 x14).f3) = x4 then (if ((rd_T44 x12 x14).f1) = (wrap64 (x14 + 1)) then ((chain_Check.f x0 x12).bind fun t324 => (if t324 = (-1) then ((chain_Check.f x0 x1).bind fun t325 => (some (t325 == (-1)))) else (some false))) else (some false)) else (some false)) else (some false)) else (some false)) else (some false)) else (none)) else (none))
end
def chargeparklaw40_ChainAppends.f (k : Nat) (a0 : Int) (l1 : List (S44)) (a2 : Int) (a3 : Int) (a4 : Int) : Option (Bool) := (chargeparklaw40_head.f).bind fun t312 => ((chain_Append.f a0 l1 a2 a3 a4).bind fun bt313 => (if bt313.2 = 0 then (chargeparklaw40_ChainAppends.j0 k a0 l1 a2 a3 a4 t312 bt313.1 (decide ((l1.length : Int) > 100))) else (chargeparklaw40_ChainAppends.j0 k a0 l1 a2 a3 a4 t312 bt313.1 true)))
theorem chargeparklaw40_ChainAppends.mono_l : ∀ k, (∀ y0 y1 y2 y3 y4 y5 y6 y7, LeO (chargeparklaw40_ChainAppends.j0 k y0 y1 y2 y3 y4 y5 y6 y7) (chargeparklaw40_ChainAppends.j0 (k + 1) y0 y1 y2 y3 y4 y5 y6 y7)) ∧ (∀ y0 y1 y2 y3 y4 y5 y6 y7 y8, LeO (chargeparklaw40_ChainAppends.j1 k y0 y1 y2 y3 y4 y5 y6 y7 y8) (chargeparklaw40_ChainAppends.j1 (k + 1) y0 y1 y2 y3 y4 y5 y6 y7 y8))
  | 0 => ⟨fun _ _ _ _ _ _ _ _ r h => by simp [chargeparklaw40_ChainAppends.j0] at h, fun _ _ _ _ _ _ _ _ _ r h => by simp [chargeparklaw40_ChainAppends.j1] at h⟩
  | k + 1 => by
    obtain ⟨ih0, ih1⟩ := chargeparklaw40_ChainAppends.mono_l k
    refine ⟨?_, ?_⟩
    · intro y0 y1 y2 y3 y4 y5 y6 y7
      unfold chargeparklaw40_ChainAppends.j0
      repeat' first
      | (with_reducible exact ih0 _ _ _ _ _ _ _ _)
      | (with_reducible exact ih1 _ _ _ _ _ _ _ _ _)
      | (with_reducible exact chargeparkref40_Same.mono _ _ _)
      | (with_reducible exact LeO.refl _)
      | (with_reducible exact LeO.none _)
      | (with_reducible refine LeO.ite ?_ ?_)
      | (with_reducible refine LeO.bind ?_ (fun _ => ?_))
      | exact ih0 _ _ _ _ _ _ _ _
      | exact ih1 _ _ _ _ _ _ _ _ _
      | exact chargeparkref40_Same.mono _ _ _
      | exact LeO.none _
      | refine LeO.ite ?_ ?_
      | refine LeO.bind ?_ (fun _ => ?_)
    · intro y0 y1 y2 y3 y4 y5 y6 y7 y8
      unfold chargeparklaw40_ChainAppends.j1
      repeat' first
      | (with_reducible exact ih0 _ _ _ _ _ _ _ _)
      | (with_reducible exact ih1 _ _ _ _ _ _ _ _ _)
      | (with_reducible exact chargeparkref40_Same.mono _ _ _)
      | (with_reducible exact LeO.refl _)
      | (with_reducible exact LeO.none _)
      | (with_reducible refine LeO.ite ?_ ?_)
      | (with_reducible refine LeO.bind ?_ (fun _ => ?_))
      | exact ih0 _ _ _ _ _ _ _ _
      | exact ih1 _ _ _ _ _ _ _ _ _
      | exact chargeparkref40_Same.mono _ _ _
      | exact LeO.none _
      | refine LeO.ite ?_ ?_
      | refine LeO.bind ?_ (fun _ => ?_)
theorem chargeparklaw40_ChainAppends.mono : ∀ a0 a1 a2 a3 a4 k, LeO (chargeparklaw40_ChainAppends.f k a0 a1 a2 a3 a4) (chargeparklaw40_ChainAppends.f (k + 1) a0 a1 a2 a3 a4) := by
  intro a0 a1 a2 a3 a4 k
  obtain ⟨ih0, ih1⟩ := chargeparklaw40_ChainAppends.mono_l k
  unfold chargeparklaw40_ChainAppends.f
  repeat' first
      | (with_reducible exact ih0 _ _ _ _ _ _ _ _)
      | (with_reducible exact ih1 _ _ _ _ _ _ _ _ _)
      | (with_reducible exact chargeparkref40_Same.mono _ _ _)
      | (with_reducible exact LeO.refl _)
      | (with_reducible exact LeO.none _)
      | (with_reducible refine LeO.ite ?_ ?_)
      | (with_reducible refine LeO.bind ?_ (fun _ => ?_))
      | exact ih0 _ _ _ _ _ _ _ _
      | exact ih1 _ _ _ _ _ _ _ _ _
      | exact chargeparkref40_Same.mono _ _ _
      | exact LeO.none _
      | refine LeO.ite ?_ ?_
      | refine LeO.bind ?_ (fun _ => ?_)
set_option maxHeartbeats 8000000 in
set_option maxRecDepth 100000 in
theorem chargeparklaw40_ChainAppends.calls (k : Nat) (a0 : Int) (A1 : Option Addr) (c1 : Nat) (l1 : List (S44)) (a2 : Int) (a3 : Int) (a4 : Int) (r : Bool) (w : World) (hr1 : Kd.C k44 w A1 l1.length l1) (hc1 : l1.length ≤ c1) (h : chargeparklaw40_ChainAppends.f k a0 l1 a2 a3 a4 = some r) :
    Calls Try.prog 10 #[.int .u64 a0, .slice A1 l1.length c1, .int .i64 a2, .int .i64 a3, .int .i64 a4] w fun e w' => e = .returned (.bool r) ∧ Below w.heap.size w w' := by
  have hu44 := Try.underlying44
  have HR1 := Aside0.mk hr1
  have HC1 := Aside0.mk hc1
  clear hr1 hc1
  have HB := Aside0.mk (Below.refl w.heap.size w)
  have H : ((chargeparklaw40_head.f).bind fun t312 => ((chain_Append.f a0 l1 a2 a3 a4).bind fun bt313 => (if bt313.2 = 0 then (chargeparklaw40_ChainAppends.j0 k a0 l1 a2 a3 a4 t312 bt313.1 (decide ((l1.length : Int) > 100))) else (chargeparklaw40_ChainAppends.j0 k a0 l1 a2 a3 a4 t312 bt313.1 true)))) = some r := h
  clear h
  replace H := Option.bind_eq_some_iff.mp H
  obtain ⟨t312, A60, H⟩ := H
  replace H : ((chain_Append.f a0 l1 a2 a3 a4).bind fun bt313 => (if bt313.2 = 0 then (chargeparklaw40_ChainAppends.j0 k a0 l1 a2 a3 a4 t312 bt313.1 (decide ((l1.length : Int) > 100))) else (chargeparklaw40_ChainAppends.j0 k a0 l1 a2 a3 a4 t312 bt313.1 true))) = some r := H
  have A6 := Aside0.mk A60
  clear A60
  replace H := Option.bind_eq_some_iff.mp H
  obtain ⟨⟨t313, t314⟩, A70, H⟩ := H
  replace H : (if t314 = 0 then (chargeparklaw40_ChainAppends.j0 k a0 l1 a2 a3 a4 t312 t313 (decide ((l1.length : Int) > 100))) else (chargeparklaw40_ChainAppends.j0 k a0 l1 a2 a3 a4 t312 t313 true)) = some r := H
  have A7 := Aside0.mk A70
  clear A70
  have HC8 := Aside0.mk H
  clear H
  go_enter Try.func10, Try.ntmps10
  go_upto_region 3 with (first | ((with_reducible refine gate_callee (f := 28) rfl ?_); refine goesL_ (some 16) rfl rfl Try.func28 (by kernel_rfl) rfl #[] rfl (by (try simp only [List.map_toArray, List.map_cons, List.map_nil]); first | done | rfl | (simp only [List.length_drop, List.length_take]; rfl)) ?_; (with_reducible refine (chargeparklaw40_head.calls  t312 _ A6.out).mono ?_); rintro e w9 ⟨rfl, hb⟩; refine ⟨_, rfl, ?_⟩; have n0_ := Aside0.mk (below_step (by repeat (first | (with_reducible first | exact HB.out | apply below_alloc | apply pw_below_drewN | apply below_drew1) | exact HB.out)) hb); clear HB; have HB := n0_; clear n0_; (try clear hb); (try clear hb2); (try clear hk); (try clear hi)) | ((with_reducible refine gate_callee (f := 29) rfl ?_); refine goesL_ (some 23) rfl rfl Try.func29 (by kernel_rfl) rfl #[.int .u64 a0, .slice A1 l1.length c1, .int .i64 a2, .int .i64 a3, .int .i64 a4] rfl (by (try simp only [List.map_toArray, List.map_cons, List.map_nil]); first | done | rfl | (simp only [List.length_drop, List.length_take]; rfl)) ?_; (with_reducible refine (chain_Append.calls a0 _ _ l1 a2 a3 a4 t313 t314 _ ?side1 ?side2 A7.out).mono ?_); (case side1 => repeat (first | exact (Kd.C_below HR1.out HB.out) | (with_reducible refine Kd.C_alloc ?_ _) | (with_reducible refine Kd.C_drewN ?_ _) | (with_reducible refine Kd.C_drew ?_))); (case side2 => exact HC1.out); rintro e w10 ⟨v315, rfl, ho0, hb⟩; refine ⟨_, rfl, ?_⟩; have n0_ := Aside0.mk (Kd.R_lower ho0 (below_size (by repeat (first | (with_reducible first | exact HB.out | apply below_alloc | apply pw_below_drewN | apply below_drew1) | exact HB.out)))); have n1_ := Aside0.mk (below_step (by repeat (first | (with_reducible first | exact HB.out | apply below_alloc | apply pw_below_drewN | apply below_drew1) | exact HB.out)) hb); clear HB; have HO316 := n0_; have HB := n1_; clear n0_ n1_; (try clear hb); (try clear hb2); (try clear hk); (try clear hi); (try clear ho0)))
  (try simp only [Act.put, List.setIfInBounds_toArray, List.set_cons_zero, List.set_cons_succ])
  go_cut [32] (fun v32 wc => ∃ (kq : Nat) (x32_7 : Bool), v32 = .bool x32_7 ∧ Aside0 (chargeparklaw40_ChainAppends.j0 kq a0 l1 a2 a3 a4 t312 t313 x32_7 = some r) ∧ Aside0 (kq ≤ k) ∧ Aside0 (Kd.R k44 44 wc w.heap.size (fun _ => True) v315 t313) ∧ Aside0 (Below w.heap.size w wc))
  case first =>
    have H := HC8.out
    clear HC8
    by_cases c11 : t314 = 0
    · rw [if_pos c11] at H
      have c11b0 : (t314 == 0) = true := beq_iff_eq.mpr c11
      have c11b1 : (t314 != 0) = false := bne_eq_false_iff_eq.mpr c11
      clear c11
      (first | rw [c11b0] | (simp only [i64_w, i32_w]; rw [c11b0]) | skip)
      have H' := Aside0.mk H
      clear H
      go_wp2
      go_meet
      case rel => exact ⟨_, (decide ((l1.length : Int) > 100)), (by first | rfl | (simp; done) | (simp [*]; done) | kernel_rfl), H', ⟨by first | omega | exact Nat.le_refl _⟩, ⟨by (with_reducible repeat (first | apply Kd.R_alloc | apply Kd.R_drewN | apply Kd.R_drew)); exact HO316.out⟩, ⟨by repeat (first | (with_reducible first | exact HB.out | apply below_alloc | apply pw_below_drewN | apply below_drew1) | exact HB.out)⟩⟩
    · rw [if_neg c11] at H
      have c11b0 : (t314 == 0) = false := beq_eq_false_iff_ne.mpr c11
      have c11b1 : (t314 != 0) = true := bne_iff_ne.mpr c11
      (first | rw [c11b0] | (simp only [i64_w, i32_w]; rw [c11b0]) | skip)
      have H' := Aside0.mk H
      clear H
      go_wp2
      go_meet
      case rel => exact ⟨_, (true), (by first | rfl | (simp; done) | (simp [*]; done) | kernel_rfl), H', ⟨by first | omega | exact Nat.le_refl _⟩, ⟨by (with_reducible repeat (first | apply Kd.R_alloc | apply Kd.R_drewN | apply Kd.R_drew)); exact HO316.out⟩, ⟨by repeat (first | (with_reducible first | exact HB.out | apply below_alloc | apply pw_below_drewN | apply below_drew1) | exact HB.out)⟩⟩
  case rest =>
    clear HC8
    try clear c1
    try clear c2
    try clear p2
    try clear c10
    try clear c11
    try clear c11b0
    try clear c11b1
    obtain ⟨kq, x32_7, rfl, HA, HJ7, HO_12, HB⟩ := hcut
    cases kq with
    | zero => exact absurd HA.out (by simp [chargeparklaw40_ChainAppends.j0])
    | succ kj7 =>
      have H := HA.out
      clear HA
      simp only [chargeparklaw40_ChainAppends.j0] at H
      by_cases c12 : x32_7 = true
      · subst c12
        have H1 : (some t312) = some r := by rw [if_pos rfl] at H; exact H
        clear H
        have H := H1
        clear H1
        obtain rfl := Option.some.inj H
        go_wp2
        go_ret
        exact ⟨by first | rfl | (simp [errW_none, errW_some] <;> rfl) | (simp [*, errW_none, errW_some] <;> rfl), by repeat (first | (with_reducible first | exact HB.out | apply below_alloc | apply pw_below_drewN | apply below_drew1) | exact HB.out)⟩
      · replace c12 := Bool.eq_false_iff.mpr c12
        subst c12
        have H1 : (if (t313.length : Int) = (wrap64 ((l1.length : Int) + 1)) then (if 0 ≤ (l1.length : Int) then (if (l1.length : Int) ≤ (t313.length : Int) then ((chargeparkref40_Same.f kj7 (t313.take ((l1.length : Int) : Int).toNat) l1).bind fun t321 => (chargeparklaw40_ChainAppends.j1 kj7 a0 l1 a2 a3 a4 t312 t313 (l1.length : Int) (!t321))) else (none)) else (none)) else (chargeparklaw40_ChainAppends.j1 kj7 a0 l1 a2 a3 a4 t312 t313 (l1.length : Int) true)) = some r := by rw [if_neg (show ¬ (false = true) by decide)] at H; exact H
        clear H
        have H := H1
        clear H1
        have HC13 := Aside0.mk H
        clear H
        go_upto_region 6 with (fail)
        go_cut [48] (fun v48 wc => ∃ (kq : Nat) (x48_12 : Bool), v48 = .bool x48_12 ∧ Aside0 (chargeparklaw40_ChainAppends.j1 kq a0 l1 a2 a3 a4 t312 t313 (l1.length : Int) x48_12 = some r) ∧ Aside0 (kq ≤ kj7) ∧ Aside0 (Kd.R k44 44 wc w.heap.size (fun _ => True) v315 t313) ∧ Aside0 (Below w.heap.size w wc))
        case first =>
          have H := HC13.out
          clear HC13
          by_cases c14 : (t313.length : Int) = (wrap64 ((l1.length : Int) + 1))
          · rw [if_pos c14] at H
            have c14b0 : ((t313.length : Int) == (wrap64 ((l1.length : Int) + 1))) = true := beq_iff_eq.mpr c14
            have c14b1 : ((t313.length : Int) != (wrap64 ((l1.length : Int) + 1))) = false := bne_eq_false_iff_eq.mpr c14
            clear c14
            (first | rw [c14b0] | (simp only [i64_w, i32_w]; rw [c14b0]) | skip)
            by_cases c15 : 0 ≤ (l1.length : Int)
            · rw [if_pos c15] at H
              have c15b0 := eq_true c15
              have c15b1 : decide (0 ≤ (l1.length : Int)) = true := decide_eq_true c15
              clear c15
              by_cases c16 : (l1.length : Int) ≤ (t313.length : Int)
              · rw [if_pos c16] at H
                have c16b0 := eq_true c16
                have c16b1 : decide ((l1.length : Int) ≤ (t313.length : Int)) = true := decide_eq_true c16
                clear c16
                obtain ⟨y317, hy317⟩ : ∃ y_ : List (S44), y_ = (t313.take ((l1.length : Int) : Int).toNat) := ⟨_, rfl⟩
                replace H : ((chargeparkref40_Same.f kj7 y317 l1).bind fun t321 => (chargeparklaw40_ChainAppends.j1 kj7 a0 l1 a2 a3 a4 t312 t313 (l1.length : Int) (!t321))) = some r := by first | (rw [hy317]; with_reducible exact H) | (have H2_ := (Option.bind_some _ _).symm.trans H; rw [hy317]; with_reducible exact H2_) | (have H2_ := (Option.bind_some _ _).symm.trans H; with_reducible exact H2_) | with_reducible exact H | (rw [hy317]; exact H) | exact H
                have Ny317 := Aside0.mk hy317
                clear hy317
                replace H := Option.bind_eq_some_iff.mp H
                obtain ⟨t321, A170, H⟩ := H
                replace H : (chargeparklaw40_ChainAppends.j1 kj7 a0 l1 a2 a3 a4 t312 t313 (l1.length : Int) (!t321)) = some r := H
                have A17 := Aside0.mk A170
                clear A170
                have H' := Aside0.mk H
                clear H
                obtain ⟨Ao18, co18, eo18⟩ := Kd.R_slice HO_12.out
                subst eo18
                have q19 : ((l1.length : Int) : Int) ≤ ((t313.length : Int) : Int) := of_decide_eq_true (by first | (with_reducible assumption) | assumption)
                obtain ⟨i019, hi019, _, hsz19, _⟩ := info_parts info44
                have hroom19 : t313.length ≤ co18 := (Kd.R_reads' HO_12.out).2.1
                have hC19 : Kd.C k44 _ Ao18 t313.length t313 := (Kd.R_reads' HO_12.out).2.2
                have hcut19 := cut_to (P := Try.prog) 26 44 .i64 Try.underlying26 hi019 Ao18 t313.length co18 (l1.length : Int) (of_decide_eq_true (by first | (with_reducible assumption) | assumption)) q19 hroom19
                have hr19 := Kd.C_take (m := ((l1.length : Int) : Int).toNat) hC19 (by omega)
                have hy19 : y317.length = ((l1.length : Int) : Int).toNat := (by rw [Ny317.out, List.length_take]; omega)
                rw [← Ny317.out] at hr19
                rw [← hy19] at hcut19
                have HR320 := Aside0.mk hr19
                have HC320 := Aside0.mk (show y317.length ≤ co18 from by omega)
                clear hr19 hC19 hroom19 hi019 hsz19
                have KY19 := Aside0.mk hy19
                clear hy19
                have KL19 := Aside0.mk (show ((l1.length : Int) : Int).toNat ≤ t313.length from by omega)
                replace q19 := eq_true q19
                go_wp2_with (first | (go_at_call 34; (with_reducible refine (chargeparkref40_Same.calls kj7 _ _ y317 _ _ l1 t321 _ ?side1 ?side2 ?side3 ?side4 A17.out).mono ?_); (case side1 => repeat (first | exact (by repeat (first | (with_reducible exact HR320.out) | (with_reducible refine Kd.C_alloc ?_ _) | (with_reducible refine Kd.C_drewN ?_ _) | (with_reducible refine Kd.C_drew ?_) | exact HR320.out)) | (with_reducible refine Kd.C_alloc ?_ _) | (with_reducible refine Kd.C_drewN ?_ _) | (with_reducible refine Kd.C_drew ?_))); (case side2 => exact HC320.out); (case side3 => repeat (first | exact (Kd.C_below HR1.out HB.out) | (with_reducible refine Kd.C_alloc ?_ _) | (with_reducible refine Kd.C_drewN ?_ _) | (with_reducible refine Kd.C_drew ?_))); (case side4 => exact HC1.out); rintro e w' ⟨rfl, ⟨nd, rfl⟩⟩))
                go_meet
                case rel => exact ⟨_, (!t321), (by first | rfl | (simp; done) | (simp [*]; done) | kernel_rfl), H', ⟨by have := HJ7.out; first | omega | exact Nat.le_refl _⟩, ⟨by (with_reducible repeat (first | apply Kd.R_alloc | apply Kd.R_drewN | apply Kd.R_drew)); exact HO_12.out⟩, ⟨by repeat (first | (with_reducible first | exact HB.out | apply below_alloc | apply pw_below_drewN | apply below_drew1) | exact HB.out)⟩⟩
              · rw [if_neg c16] at H
                exact absurd H (by simp)
            · rw [if_neg c15] at H
              exact absurd H (by simp)
          · rw [if_neg c14] at H
            have c14b0 : ((t313.length : Int) == (wrap64 ((l1.length : Int) + 1))) = false := beq_eq_false_iff_ne.mpr c14
            have c14b1 : ((t313.length : Int) != (wrap64 ((l1.length : Int) + 1))) = true := bne_iff_ne.mpr c14
            (first | rw [c14b0] | (simp only [i64_w, i32_w]; rw [c14b0]) | skip)
            have H' := Aside0.mk H
            clear H
            obtain ⟨Ao20, co20, eo20⟩ := Kd.R_slice HO_12.out
            subst eo20
            go_wp2
            go_meet
            case rel => exact ⟨_, (true), (by first | rfl | (simp; done) | (simp [*]; done) | kernel_rfl), H', ⟨by have := HJ7.out; first | omega | exact Nat.le_refl _⟩, ⟨by (with_reducible repeat (first | apply Kd.R_alloc | apply Kd.R_drewN | apply Kd.R_drew)); exact HO_12.out⟩, ⟨by repeat (first | (with_reducible first | exact HB.out | apply below_alloc | apply pw_below_drewN | apply below_drew1) | exact HB.out)⟩⟩
        case rest =>
          clear HC13
          try clear c1
          try clear q1
          try clear c2
          try clear p2
          try clear p6
          try clear c10
          try clear c11
          try clear c11b0
          try clear c11b1
          try clear c12
          try clear c14
          try clear c14b0
          try clear c14b1
          try clear c15
          try clear c15b0
          try clear c15b1
          try clear c16
          try clear c16b0
          try clear c16b1
          try clear q19
          try clear p2
          try clear q19
          obtain ⟨kq, x48_12, rfl, HA, HJ12, HO_12, HB⟩ := hcut
          cases kq with
          | zero => exact absurd HA.out (by simp [chargeparklaw40_ChainAppends.j1])
          | succ kj12 =>
            have H := HA.out
            clear HA
            simp only [chargeparklaw40_ChainAppends.j1] at H
            by_cases c21 : x48_12 = true
            · subst c21
              have H1 : (some false) = some r := by rw [if_pos rfl] at H; exact H
              clear H
              have H := H1
              clear H1
              obtain rfl := Option.some.inj H
              go_wp2
              go_ret
              exact ⟨by first | rfl | (simp [errW_none, errW_some] <;> rfl) | (simp [*, errW_none, errW_some] <;> rfl), by repeat (first | (with_reducible first | exact HB.out | apply below_alloc | apply pw_below_drewN | apply below_drew1) | exact HB.out)⟩
            · replace c21 := Bool.eq_false_iff.mpr c21
              subst c21
              have H1 : (if 0 ≤ (l1.length : Int) then (if (l1.length : Int) < (t313.length : Int) then (if t312 = true then (if ((rd_T44 t313 (l1.length : Int)).f0) = a2 then (if ((rd_T44 t313 (l1.length : Int)).f2) = a3 then (if ((rd_T44 t313 (l1.length : Int)).f3) = a4 then (if ((rd_T44 t313 (l1.length : Int)).f1) = (wrap64 ((l1.length : Int) + 1)) then ((chain_Check.f a0 t313).bind fun t324 => (if t324 = (-1) then ((chain_Check.f a0 l1).bind fun t325 => (some (t325 == (-1)))) else (some false))) else (some false)) else (some false)) else (some false)) else (some false)) else (some false)) else (none)) else (none)) = some r := by rw [if_neg (show ¬ (false = true) by decide)] at H; exact H
              clear H
              have H := H1
              clear H1
              by_cases c22 : 0 ≤ (l1.length : Int)
              · rw [if_pos c22] at H
                have c22b0 : decide (0 ≤ (l1.length : Int)) = true := decide_eq_true c22
                have c22b1 : decide (0 ≤ l1.length) = true := decide_eq_true (by omega)
                clear c22
                by_cases c23 : (l1.length : Int) < (t313.length : Int)
                · rw [if_pos c23] at H
                  have c23b0 : decide ((l1.length : Int) < (t313.length : Int)) = true := decide_eq_true c23
                  have c23b1 : decide (l1.length < t313.length) = true := decide_eq_true (Int.ofNat_lt.mp c23)
                  clear c23
                  by_cases c24 : t312 = true
                  · subst c24
                    have H1 : (if ((rd_T44 t313 (l1.length : Int)).f0) = a2 then (if ((rd_T44 t313 (l1.length : Int)).f2) = a3 then (if ((rd_T44 t313 (l1.length : Int)).f3) = a4 then (if ((rd_T44 t313 (l1.length : Int)).f1) = (wrap64 ((l1.length : Int) + 1)) then ((chain_Check.f a0 t313).bind fun t324 => (if t324 = (-1) then ((chain_Check.f a0 l1).bind fun t325 => (some (t325 == (-1)))) else (some false))) else (some false)) else (some false)) else (some false)) else (some false)) = some r := by rw [if_pos rfl] at H; exact H
                    clear H
                    have H := H1
                    clear H1
                    by_cases c25 : ((rd_T44 t313 (l1.length : Int)).f0) = a2
                    · rw [if_pos c25] at H
                      have c25b0 : (((rd_T44 t313 (l1.length : Int)).f0) == a2) = true := beq_iff_eq.mpr c25
                      have c25b1 : (((rd_T44 t313 (l1.length : Int)).f0) != a2) = false := bne_eq_false_iff_eq.mpr c25
                      clear c25
                      by_cases c26 : ((rd_T44 t313 (l1.length : Int)).f2) = a3
                      · rw [if_pos c26] at H
                        have c26b0 : (((rd_T44 t313 (l1.length : Int)).f2) == a3) = true := beq_iff_eq.mpr c26
                        have c26b1 : (((rd_T44 t313 (l1.length : Int)).f2) != a3) = false := bne_eq_false_iff_eq.mpr c26
                        clear c26
                        by_cases c27 : ((rd_T44 t313 (l1.length : Int)).f3) = a4
                        · rw [if_pos c27] at H
                          have c27b0 : (((rd_T44 t313 (l1.length : Int)).f3) == a4) = true := beq_iff_eq.mpr c27
                          have c27b1 : (((rd_T44 t313 (l1.length : Int)).f3) != a4) = false := bne_eq_false_iff_eq.mpr c27
                          clear c27
                          by_cases c28 : ((rd_T44 t313 (l1.length : Int)).f1) = (wrap64 ((l1.length : Int) + 1))
                          · rw [if_pos c28] at H
                            have c28b0 : (((rd_T44 t313 (l1.length : Int)).f1) == (wrap64 ((l1.length : Int) + 1))) = true := beq_iff_eq.mpr c28
                            have c28b1 : (((rd_T44 t313 (l1.length : Int)).f1) != (wrap64 ((l1.length : Int) + 1))) = false := bne_eq_false_iff_eq.mpr c28
                            clear c28
                            replace H := Option.bind_eq_some_iff.mp H
                            obtain ⟨t324, A290, H⟩ := H
                            replace H : (if t324 = (-1) then ((chain_Check.f a0 l1).bind fun t325 => (some (t325 == (-1)))) else (some false)) = some r := H
                            have A29 := Aside0.mk A290
                            clear A290
                            by_cases c30 : t324 = (-1)
                            · rw [if_pos c30] at H
                              have c30b0 : (t324 == (-1)) = true := beq_iff_eq.mpr c30
                              have c30b1 : (t324 != (-1)) = false := bne_eq_false_iff_eq.mpr c30
                              clear c30
                              replace H := Option.bind_eq_some_iff.mp H
                              obtain ⟨t325, A310, H⟩ := H
                              replace H : (some (t325 == (-1))) = some r := H
                              have A31 := Aside0.mk A310
                              clear A310
                              obtain rfl := Option.some.inj H
                              obtain ⟨Ao32, co32, eo32⟩ := Kd.R_slice HO_12.out
                              subst eo32
                              have p322 : 0 ≤ ((l1.length : Int) : Int) := of_decide_eq_true (by first | (with_reducible assumption) | assumption)
                              have q322 : (l1.length : Int) < (t313.length : Int) := of_decide_eq_true (by first | (with_reducible assumption) | assumption)
                              obtain ⟨ad322, e322, hx322_0, hx322_1, hx322_2, hx322_3, hx322_4⟩ := at_T44 (Kd.R_reads' HO_12.out).2.2 (l1.length : Int) p322 q322
                              cases e322
                              (try simp only [Go.IntWalk.toNatUp] at hx322_0)
                              (try simp only [Go.IntWalk.toNatUp] at hx322_1)
                              (try simp only [Go.IntWalk.toNatUp] at hx322_2)
                              (try simp only [Go.IntWalk.toNatUp] at hx322_3)
                              (try simp only [Go.IntWalk.toNatUp] at hx322_4)
                              replace p322 := eq_true p322
                              replace q322 := eq_true q322
                              go_wp2_with (first | ((with_reducible refine gate_dst (N := 15) rfl ?_); (try (refine gate_guard (by rfl) ?_; dsimp only)); refine box_event ?hg (N := 15) ?hd (cs := #[.int .i64 0, .int .i64 0, .int .i64 0, .int .i64 0, .int .u64 0]) (t := 44) ?hr ?_; (case hd => rfl); (case hg => rfl); (case hr => first | (go_simp; done) | (go_simp; rfl)); intro gb323 hg w33 hbox hb; have n0_ := Aside0.mk (Kd.R_below (Kd.R_elderB (by (with_reducible repeat (first | apply Kd.R_alloc | apply Kd.R_drewN | apply Kd.R_drew)); exact HO_12.out) gb323 (Nat.le_of_eq hg.symm)) hb); have n1_ := Aside0.mk (below_step (by repeat (first | (with_reducible first | exact HB.out | apply below_alloc | apply pw_below_drewN | apply below_drew1) | exact HB.out)) hb); have n2_ := Aside0.mk (hbox); have n3_ := Aside0.mk ((by rw [hg]; exact (below_size (by repeat (first | (with_reducible first | exact HB.out | apply below_alloc | apply pw_below_drewN | apply below_drew1) | exact HB.out))) : w.heap.size ≤ gb323)); have n4_ := Aside0.mk ((by rw [hg]; exact (below_size (by repeat (first | (with_reducible first | exact HB.out | apply below_alloc | apply pw_below_drewN | apply below_drew1) | exact HB.out))) : w.heap.size ≤ gb323)); clear HO_12; clear HB; have HO_12 := n0_; have HB := n1_; have BK323 := n2_; have GW323 := n3_; have GE323 := n4_; clear n0_ n1_ n2_ n3_ n4_; clear hb hbox hg; have hcz34_0 : w33.cell? ⟨gb323, 0, none⟩ = some (.int .i64 0) := (blk_cell BK323.out 0).trans rfl; have hcz34_1 : w33.cell? ⟨gb323, 1, none⟩ = some (.int .i64 0) := (blk_cell BK323.out 1).trans rfl; have hcz34_2 : w33.cell? ⟨gb323, 2, none⟩ = some (.int .i64 0) := (blk_cell BK323.out 2).trans rfl; have hcz34_3 : w33.cell? ⟨gb323, 3, none⟩ = some (.int .i64 0) := (blk_cell BK323.out 3).trans rfl; have hcz34_4 : w33.cell? ⟨gb323, 4, none⟩ = some (.int .u64 0) := (blk_cell BK323.out 4).trans rfl; have hfz34_0 := blk_frozen BK323.out 0; have hfz34_1 := blk_frozen BK323.out 1; have hfz34_2 := blk_frozen BK323.out 2; have hfz34_3 := blk_frozen BK323.out 3; have hfz34_4 := blk_frozen BK323.out 4) | (go_at_call 35; (with_reducible refine (chain_Check.calls a0 _ _ t313 t324 _ ?side1 ?side2 A29.out).mono ?_); (case side1 => refine (Kd.R_reads' (e := 44) (base := w.heap.size) (ok := fun k_ => (True ∧ k_ ≠ gb323)) (n := t313.length) (c := co32) ?_).2.2; exact (by (with_reducible repeat (first | apply Kd.R_alloc | apply Kd.R_drewN | apply Kd.R_drew)); exact (Kd.R_mono (Kd.R_far (p := ⟨gb323, 4, none⟩) (Kd.R_far (p := ⟨gb323, 3, none⟩) (Kd.R_far (p := ⟨gb323, 2, none⟩) (Kd.R_far (p := ⟨gb323, 1, none⟩) (Kd.R_far (p := ⟨gb323, 0, none⟩) (Kd.R_mono HO_12.out (fun k_ hk => (⟨hk, hk.2⟩ : _ ∧ k_ ≠ gb323))) (fun _ hk => hk.2) (.int .i64 ((rd_T44 t313 (l1.length : Int)).f0))) (fun _ hk => hk.2) (.int .i64 ((rd_T44 t313 (l1.length : Int)).f1))) (fun _ hk => hk.2) (.int .i64 ((rd_T44 t313 (l1.length : Int)).f2))) (fun _ hk => hk.2) (.int .i64 ((rd_T44 t313 (l1.length : Int)).f3))) (fun _ hk => hk.2) (.int .u64 ((rd_T44 t313 (l1.length : Int)).f4))) (fun _ h_ => h_.1)))); (case side2 => exact (Kd.R_reads' HO_12.out).2.1); rintro e w35 ⟨rfl, hb⟩; have n0_ := Aside0.mk (Kd.R_below (by (with_reducible repeat (first | apply Kd.R_alloc | apply Kd.R_drewN | apply Kd.R_drew)); exact (Kd.R_mono (Kd.R_far (p := ⟨gb323, 4, none⟩) (Kd.R_far (p := ⟨gb323, 3, none⟩) (Kd.R_far (p := ⟨gb323, 2, none⟩) (Kd.R_far (p := ⟨gb323, 1, none⟩) (Kd.R_far (p := ⟨gb323, 0, none⟩) (Kd.R_mono HO_12.out (fun k_ hk => (⟨hk, hk.2⟩ : _ ∧ k_ ≠ gb323))) (fun _ hk => hk.2) (.int .i64 ((rd_T44 t313 (l1.length : Int)).f0))) (fun _ hk => hk.2) (.int .i64 ((rd_T44 t313 (l1.length : Int)).f1))) (fun _ hk => hk.2) (.int .i64 ((rd_T44 t313 (l1.length : Int)).f2))) (fun _ hk => hk.2) (.int .i64 ((rd_T44 t313 (l1.length : Int)).f3))) (fun _ hk => hk.2) (.int .u64 ((rd_T44 t313 (l1.length : Int)).f4))) (fun _ h_ => h_.1))) hb); have n1_ := Aside0.mk (blk_below (g := gb323) (o := .cells #[.int .i64 ((rd_T44 t313 (l1.length : Int)).f0), .int .i64 ((rd_T44 t313 (l1.length : Int)).f1), .int .i64 ((rd_T44 t313 (l1.length : Int)).f2), .int .i64 ((rd_T44 t313 (l1.length : Int)).f3), .int .u64 ((rd_T44 t313 (l1.length : Int)).f4)] 44 (0, 0)) (by (with_reducible repeat (first | refine blk_drewN ?_ _ | refine blk_drew ?_ | refine blk_alloc ?_ _)); refine blk_put (cs := #[.int .i64 ((rd_T44 t313 (l1.length : Int)).f0), .int .i64 ((rd_T44 t313 (l1.length : Int)).f1), .int .i64 ((rd_T44 t313 (l1.length : Int)).f2), .int .i64 ((rd_T44 t313 (l1.length : Int)).f3), .int .u64 0]) ?_ 4 _ rfl; (with_reducible repeat (first | refine blk_drewN ?_ _ | refine blk_drew ?_ | refine blk_alloc ?_ _)); refine blk_put (cs := #[.int .i64 ((rd_T44 t313 (l1.length : Int)).f0), .int .i64 ((rd_T44 t313 (l1.length : Int)).f1), .int .i64 ((rd_T44 t313 (l1.length : Int)).f2), .int .i64 0, .int .u64 0]) ?_ 3 _ rfl; (with_reducible repeat (first | refine blk_drewN ?_ _ | refine blk_drew ?_ | refine blk_alloc ?_ _)); refine blk_put (cs := #[.int .i64 ((rd_T44 t313 (l1.length : Int)).f0), .int .i64 ((rd_T44 t313 (l1.length : Int)).f1), .int .i64 0, .int .i64 0, .int .u64 0]) ?_ 2 _ rfl; (with_reducible repeat (first | refine blk_drewN ?_ _ | refine blk_drew ?_ | refine blk_alloc ?_ _)); refine blk_put (cs := #[.int .i64 ((rd_T44 t313 (l1.length : Int)).f0), .int .i64 0, .int .i64 0, .int .i64 0, .int .u64 0]) ?_ 1 _ rfl; (with_reducible repeat (first | refine blk_drewN ?_ _ | refine blk_drew ?_ | refine blk_alloc ?_ _)); refine blk_put (cs := #[.int .i64 0, .int .i64 0, .int .i64 0, .int .i64 0, .int .u64 0]) ?_ 0 _ rfl; (with_reducible repeat (first | refine blk_drewN ?_ _ | refine blk_drew ?_ | refine blk_alloc ?_ _)); exact BK323.out) hb); have n2_ := Aside0.mk (below_step (by repeat (first | (with_reducible first | exact HB.out | apply below_alloc | apply pw_below_drewN | apply below_drew1 | refine below_set ?_ GE323.out) | exact HB.out)) hb); clear HO_12; clear BK323; clear HB; have HO_12 := n0_; have BK323 := n1_; have HB := n2_; clear n0_ n1_ n2_; (try clear hb); (try clear hb2); (try clear hk); (try clear hi)) | (go_at_call 35; (with_reducible refine (chain_Check.calls a0 _ _ l1 t325 _ ?side1 ?side2 A31.out).mono ?_); (case side1 => repeat (first | exact (Kd.C_below HR1.out HB.out) | (with_reducible refine Kd.C_alloc ?_ _) | (with_reducible refine Kd.C_drewN ?_ _) | (with_reducible refine Kd.C_drew ?_))); (case side2 => exact HC1.out); rintro e w36 ⟨rfl, hb⟩; have n0_ := Aside0.mk (Kd.R_below (by (with_reducible repeat (first | apply Kd.R_alloc | apply Kd.R_drewN | apply Kd.R_drew)); exact HO_12.out) hb); have n1_ := Aside0.mk (blk_below (g := gb323) (o := .cells #[.int .i64 ((rd_T44 t313 (l1.length : Int)).f0), .int .i64 ((rd_T44 t313 (l1.length : Int)).f1), .int .i64 ((rd_T44 t313 (l1.length : Int)).f2), .int .i64 ((rd_T44 t313 (l1.length : Int)).f3), .int .u64 ((rd_T44 t313 (l1.length : Int)).f4)] 44 (0, 0)) (by (with_reducible repeat (first | refine blk_drewN ?_ _ | refine blk_drew ?_ | refine blk_alloc ?_ _)); exact BK323.out) hb); have n2_ := Aside0.mk (below_step (by repeat (first | (with_reducible first | exact HB.out | apply below_alloc | apply pw_below_drewN | apply below_drew1 | refine below_set ?_ GE323.out) | exact HB.out)) hb); clear HO_12; clear BK323; clear HB; have HO_12 := n0_; have BK323 := n1_; have HB := n2_; clear n0_ n1_ n2_; (try clear hb); (try clear hb2); (try clear hk); (try clear hi)))
                              go_ret
                              exact ⟨by first | rfl | (simp [errW_none, errW_some] <;> rfl) | (simp [*, errW_none, errW_some] <;> rfl), by repeat (first | (with_reducible first | exact HB.out | apply below_alloc | apply pw_below_drewN | apply below_drew1 | refine below_set ?_ GE323.out) | exact HB.out)⟩
                            · rw [if_neg c30] at H
                              have c30b0 : (t324 == (-1)) = false := beq_eq_false_iff_ne.mpr c30
                              have c30b1 : (t324 != (-1)) = true := bne_iff_ne.mpr c30
                              obtain rfl := Option.some.inj H
                              obtain ⟨Ao37, co37, eo37⟩ := Kd.R_slice HO_12.out
                              subst eo37
                              have p322 : 0 ≤ ((l1.length : Int) : Int) := of_decide_eq_true (by first | (with_reducible assumption) | assumption)
                              have q322 : (l1.length : Int) < (t313.length : Int) := of_decide_eq_true (by first | (with_reducible assumption) | assumption)
                              obtain ⟨ad322, e322, hx322_0, hx322_1, hx322_2, hx322_3, hx322_4⟩ := at_T44 (Kd.R_reads' HO_12.out).2.2 (l1.length : Int) p322 q322
                              cases e322
                              (try simp only [Go.IntWalk.toNatUp] at hx322_0)
                              (try simp only [Go.IntWalk.toNatUp] at hx322_1)
                              (try simp only [Go.IntWalk.toNatUp] at hx322_2)
                              (try simp only [Go.IntWalk.toNatUp] at hx322_3)
                              (try simp only [Go.IntWalk.toNatUp] at hx322_4)
                              replace p322 := eq_true p322
                              replace q322 := eq_true q322
                              go_wp2_with (first | ((with_reducible refine gate_dst (N := 15) rfl ?_); (try (refine gate_guard (by rfl) ?_; dsimp only)); refine box_event ?hg (N := 15) ?hd (cs := #[.int .i64 0, .int .i64 0, .int .i64 0, .int .i64 0, .int .u64 0]) (t := 44) ?hr ?_; (case hd => rfl); (case hg => rfl); (case hr => first | (go_simp; done) | (go_simp; rfl)); intro gb323 hg w38 hbox hb; have n0_ := Aside0.mk (Kd.R_below (Kd.R_elderB (by (with_reducible repeat (first | apply Kd.R_alloc | apply Kd.R_drewN | apply Kd.R_drew)); exact HO_12.out) gb323 (Nat.le_of_eq hg.symm)) hb); have n1_ := Aside0.mk (below_step (by repeat (first | (with_reducible first | exact HB.out | apply below_alloc | apply pw_below_drewN | apply below_drew1) | exact HB.out)) hb); have n2_ := Aside0.mk (hbox); have n3_ := Aside0.mk ((by rw [hg]; exact (below_size (by repeat (first | (with_reducible first | exact HB.out | apply below_alloc | apply pw_below_drewN | apply below_drew1) | exact HB.out))) : w.heap.size ≤ gb323)); have n4_ := Aside0.mk ((by rw [hg]; exact (below_size (by repeat (first | (with_reducible first | exact HB.out | apply below_alloc | apply pw_below_drewN | apply below_drew1) | exact HB.out))) : w.heap.size ≤ gb323)); clear HO_12; clear HB; have HO_12 := n0_; have HB := n1_; have BK323 := n2_; have GW323 := n3_; have GE323 := n4_; clear n0_ n1_ n2_ n3_ n4_; clear hb hbox hg; have hcz39_0 : w38.cell? ⟨gb323, 0, none⟩ = some (.int .i64 0) := (blk_cell BK323.out 0).trans rfl; have hcz39_1 : w38.cell? ⟨gb323, 1, none⟩ = some (.int .i64 0) := (blk_cell BK323.out 1).trans rfl; have hcz39_2 : w38.cell? ⟨gb323, 2, none⟩ = some (.int .i64 0) := (blk_cell BK323.out 2).trans rfl; have hcz39_3 : w38.cell? ⟨gb323, 3, none⟩ = some (.int .i64 0) := (blk_cell BK323.out 3).trans rfl; have hcz39_4 : w38.cell? ⟨gb323, 4, none⟩ = some (.int .u64 0) := (blk_cell BK323.out 4).trans rfl; have hfz39_0 := blk_frozen BK323.out 0; have hfz39_1 := blk_frozen BK323.out 1; have hfz39_2 := blk_frozen BK323.out 2; have hfz39_3 := blk_frozen BK323.out 3; have hfz39_4 := blk_frozen BK323.out 4) | (go_at_call 35; (with_reducible refine (chain_Check.calls a0 _ _ t313 t324 _ ?side1 ?side2 A29.out).mono ?_); (case side1 => refine (Kd.R_reads' (e := 44) (base := w.heap.size) (ok := fun k_ => (True ∧ k_ ≠ gb323)) (n := t313.length) (c := co37) ?_).2.2; exact (by (with_reducible repeat (first | apply Kd.R_alloc | apply Kd.R_drewN | apply Kd.R_drew)); exact (Kd.R_mono (Kd.R_far (p := ⟨gb323, 4, none⟩) (Kd.R_far (p := ⟨gb323, 3, none⟩) (Kd.R_far (p := ⟨gb323, 2, none⟩) (Kd.R_far (p := ⟨gb323, 1, none⟩) (Kd.R_far (p := ⟨gb323, 0, none⟩) (Kd.R_mono HO_12.out (fun k_ hk => (⟨hk, hk.2⟩ : _ ∧ k_ ≠ gb323))) (fun _ hk => hk.2) (.int .i64 ((rd_T44 t313 (l1.length : Int)).f0))) (fun _ hk => hk.2) (.int .i64 ((rd_T44 t313 (l1.length : Int)).f1))) (fun _ hk => hk.2) (.int .i64 ((rd_T44 t313 (l1.length : Int)).f2))) (fun _ hk => hk.2) (.int .i64 ((rd_T44 t313 (l1.length : Int)).f3))) (fun _ hk => hk.2) (.int .u64 ((rd_T44 t313 (l1.length : Int)).f4))) (fun _ h_ => h_.1)))); (case side2 => exact (Kd.R_reads' HO_12.out).2.1); rintro e w40 ⟨rfl, hb⟩; have n0_ := Aside0.mk (Kd.R_below (by (with_reducible repeat (first | apply Kd.R_alloc | apply Kd.R_drewN | apply Kd.R_drew)); exact (Kd.R_mono (Kd.R_far (p := ⟨gb323, 4, none⟩) (Kd.R_far (p := ⟨gb323, 3, none⟩) (Kd.R_far (p := ⟨gb323, 2, none⟩) (Kd.R_far (p := ⟨gb323, 1, none⟩) (Kd.R_far (p := ⟨gb323, 0, none⟩) (Kd.R_mono HO_12.out (fun k_ hk => (⟨hk, hk.2⟩ : _ ∧ k_ ≠ gb323))) (fun _ hk => hk.2) (.int .i64 ((rd_T44 t313 (l1.length : Int)).f0))) (fun _ hk => hk.2) (.int .i64 ((rd_T44 t313 (l1.length : Int)).f1))) (fun _ hk => hk.2) (.int .i64 ((rd_T44 t313 (l1.length : Int)).f2))) (fun _ hk => hk.2) (.int .i64 ((rd_T44 t313 (l1.length : Int)).f3))) (fun _ hk => hk.2) (.int .u64 ((rd_T44 t313 (l1.length : Int)).f4))) (fun _ h_ => h_.1))) hb); have n1_ := Aside0.mk (blk_below (g := gb323) (o := .cells #[.int .i64 ((rd_T44 t313 (l1.length : Int)).f0), .int .i64 ((rd_T44 t313 (l1.length : Int)).f1), .int .i64 ((rd_T44 t313 (l1.length : Int)).f2), .int .i64 ((rd_T44 t313 (l1.length : Int)).f3), .int .u64 ((rd_T44 t313 (l1.length : Int)).f4)] 44 (0, 0)) (by (with_reducible repeat (first | refine blk_drewN ?_ _ | refine blk_drew ?_ | refine blk_alloc ?_ _)); refine blk_put (cs := #[.int .i64 ((rd_T44 t313 (l1.length : Int)).f0), .int .i64 ((rd_T44 t313 (l1.length : Int)).f1), .int .i64 ((rd_T44 t313 (l1.length : Int)).f2), .int .i64 ((rd_T44 t313 (l1.length : Int)).f3), .int .u64 0]) ?_ 4 _ rfl; (with_reducible repeat (first | refine blk_drewN ?_ _ | refine blk_drew ?_ | refine blk_alloc ?_ _)); refine blk_put (cs := #[.int .i64 ((rd_T44 t313 (l1.length : Int)).f0), .int .i64 ((rd_T44 t313 (l1.length : Int)).f1), .int .i64 ((rd_T44 t313 (l1.length : Int)).f2), .int .i64 0, .int .u64 0]) ?_ 3 _ rfl; (with_reducible repeat (first | refine blk_drewN ?_ _ | refine blk_drew ?_ | refine blk_alloc ?_ _)); refine blk_put (cs := #[.int .i64 ((rd_T44 t313 (l1.length : Int)).f0), .int .i64 ((rd_T44 t313 (l1.length : Int)).f1), .int .i64 0, .int .i64 0, .int .u64 0]) ?_ 2 _ rfl; (with_reducible repeat (first | refine blk_drewN ?_ _ | refine blk_drew ?_ | refine blk_alloc ?_ _)); refine blk_put (cs := #[.int .i64 ((rd_T44 t313 (l1.length : Int)).f0), .int .i64 0, .int .i64 0, .int .i64 0, .int .u64 0]) ?_ 1 _ rfl; (with_reducible repeat (first | refine blk_drewN ?_ _ | refine blk_drew ?_ | refine blk_alloc ?_ _)); refine blk_put (cs := #[.int .i64 0, .int .i64 0, .int .i64 0, .int .i64 0, .int .u64 0]) ?_ 0 _ rfl; (with_reducible repeat (first | refine blk_drewN ?_ _ | refine blk_drew ?_ | refine blk_alloc ?_ _)); exact BK323.out) hb); have n2_ := Aside0.mk (below_step (by repeat (first | (with_reducible first | exact HB.out | apply below_alloc | apply pw_below_drewN | apply below_drew1 | refine below_set ?_ GE323.out) | exact HB.out)) hb); clear HO_12; clear BK323; clear HB; have HO_12 := n0_; have BK323 := n1_; have HB := n2_; clear n0_ n1_ n2_; (try clear hb); (try clear hb2); (try clear hk); (try clear hi)))
                              go_ret
                              exact ⟨by first | rfl | (simp [errW_none, errW_some] <;> rfl) | (simp [*, errW_none, errW_some] <;> rfl), by repeat (first | (with_reducible first | exact HB.out | apply below_alloc | apply pw_below_drewN | apply below_drew1 | refine below_set ?_ GE323.out) | exact HB.out)⟩
                          · rw [if_neg c28] at H
                            have c28b0 : (((rd_T44 t313 (l1.length : Int)).f1) == (wrap64 ((l1.length : Int) + 1))) = false := beq_eq_false_iff_ne.mpr c28
                            have c28b1 : (((rd_T44 t313 (l1.length : Int)).f1) != (wrap64 ((l1.length : Int) + 1))) = true := bne_iff_ne.mpr c28
                            obtain rfl := Option.some.inj H
                            obtain ⟨Ao41, co41, eo41⟩ := Kd.R_slice HO_12.out
                            subst eo41
                            have p322 : 0 ≤ ((l1.length : Int) : Int) := of_decide_eq_true (by first | (with_reducible assumption) | assumption)
                            have q322 : (l1.length : Int) < (t313.length : Int) := of_decide_eq_true (by first | (with_reducible assumption) | assumption)
                            obtain ⟨ad322, e322, hx322_0, hx322_1, hx322_2, hx322_3, hx322_4⟩ := at_T44 (Kd.R_reads' HO_12.out).2.2 (l1.length : Int) p322 q322
                            cases e322
                            (try simp only [Go.IntWalk.toNatUp] at hx322_0)
                            (try simp only [Go.IntWalk.toNatUp] at hx322_1)
                            (try simp only [Go.IntWalk.toNatUp] at hx322_2)
                            (try simp only [Go.IntWalk.toNatUp] at hx322_3)
                            (try simp only [Go.IntWalk.toNatUp] at hx322_4)
                            replace p322 := eq_true p322
                            replace q322 := eq_true q322
                            go_wp2_with (first | ((with_reducible refine gate_dst (N := 15) rfl ?_); (try (refine gate_guard (by rfl) ?_; dsimp only)); refine box_event ?hg (N := 15) ?hd (cs := #[.int .i64 0, .int .i64 0, .int .i64 0, .int .i64 0, .int .u64 0]) (t := 44) ?hr ?_; (case hd => rfl); (case hg => rfl); (case hr => first | (go_simp; done) | (go_simp; rfl)); intro gb323 hg w42 hbox hb; have n0_ := Aside0.mk (Kd.R_below (Kd.R_elderB (by (with_reducible repeat (first | apply Kd.R_alloc | apply Kd.R_drewN | apply Kd.R_drew)); exact HO_12.out) gb323 (Nat.le_of_eq hg.symm)) hb); have n1_ := Aside0.mk (below_step (by repeat (first | (with_reducible first | exact HB.out | apply below_alloc | apply pw_below_drewN | apply below_drew1) | exact HB.out)) hb); have n2_ := Aside0.mk (hbox); have n3_ := Aside0.mk ((by rw [hg]; exact (below_size (by repeat (first | (with_reducible first | exact HB.out | apply below_alloc | apply pw_below_drewN | apply below_drew1) | exact HB.out))) : w.heap.size ≤ gb323)); have n4_ := Aside0.mk ((by rw [hg]; exact (below_size (by repeat (first | (with_reducible first | exact HB.out | apply below_alloc | apply pw_below_drewN | apply below_drew1) | exact HB.out))) : w.heap.size ≤ gb323)); clear HO_12; clear HB; have HO_12 := n0_; have HB := n1_; have BK323 := n2_; have GW323 := n3_; have GE323 := n4_; clear n0_ n1_ n2_ n3_ n4_; clear hb hbox hg; have hcz43_0 : w42.cell? ⟨gb323, 0, none⟩ = some (.int .i64 0) := (blk_cell BK323.out 0).trans rfl; have hcz43_1 : w42.cell? ⟨gb323, 1, none⟩ = some (.int .i64 0) := (blk_cell BK323.out 1).trans rfl; have hcz43_2 : w42.cell? ⟨gb323, 2, none⟩ = some (.int .i64 0) := (blk_cell BK323.out 2).trans rfl; have hcz43_3 : w42.cell? ⟨gb323, 3, none⟩ = some (.int .i64 0) := (blk_cell BK323.out 3).trans rfl; have hcz43_4 : w42.cell? ⟨gb323, 4, none⟩ = some (.int .u64 0) := (blk_cell BK323.out 4).trans rfl; have hfz43_0 := blk_frozen BK323.out 0; have hfz43_1 := blk_frozen BK323.out 1; have hfz43_2 := blk_frozen BK323.out 2; have hfz43_3 := blk_frozen BK323.out 3; have hfz43_4 := blk_frozen BK323.out 4))
                            go_ret
                            exact ⟨by first | rfl | (simp [errW_none, errW_some] <;> rfl) | (simp [*, errW_none, errW_some] <;> rfl), by repeat (first | (with_reducible first | exact HB.out | apply below_alloc | apply pw_below_drewN | apply below_drew1 | refine below_set ?_ GE323.out) | exact HB.out)⟩
                        · rw [if_neg c27] at H
                          have c27b0 : (((rd_T44 t313 (l1.length : Int)).f3) == a4) = false := beq_eq_false_iff_ne.mpr c27
                          have c27b1 : (((rd_T44 t313 (l1.length : Int)).f3) != a4) = true := bne_iff_ne.mpr c27
                          obtain rfl := Option.some.inj H
                          obtain ⟨Ao44, co44, eo44⟩ := Kd.R_slice HO_12.out
                          subst eo44
                          have p322 : 0 ≤ ((l1.length : Int) : Int) := of_decide_eq_true (by first | (with_reducible assumption) | assumption)
                          have q322 : (l1.length : Int) < (t313.length : Int) := of_decide_eq_true (by first | (with_reducible assumption) | assumption)
                          obtain ⟨ad322, e322, hx322_0, hx322_1, hx322_2, hx322_3, hx322_4⟩ := at_T44 (Kd.R_reads' HO_12.out).2.2 (l1.length : Int) p322 q322
                          cases e322
                          (try simp only [Go.IntWalk.toNatUp] at hx322_0)
                          (try simp only [Go.IntWalk.toNatUp] at hx322_1)
                          (try simp only [Go.IntWalk.toNatUp] at hx322_2)
                          (try simp only [Go.IntWalk.toNatUp] at hx322_3)
                          (try simp only [Go.IntWalk.toNatUp] at hx322_4)
                          replace p322 := eq_true p322
                          replace q322 := eq_true q322
                          go_wp2_with (first | ((with_reducible refine gate_dst (N := 15) rfl ?_); (try (refine gate_guard (by rfl) ?_; dsimp only)); refine box_event ?hg (N := 15) ?hd (cs := #[.int .i64 0, .int .i64 0, .int .i64 0, .int .i64 0, .int .u64 0]) (t := 44) ?hr ?_; (case hd => rfl); (case hg => rfl); (case hr => first | (go_simp; done) | (go_simp; rfl)); intro gb323 hg w45 hbox hb; have n0_ := Aside0.mk (Kd.R_below (Kd.R_elderB (by (with_reducible repeat (first | apply Kd.R_alloc | apply Kd.R_drewN | apply Kd.R_drew)); exact HO_12.out) gb323 (Nat.le_of_eq hg.symm)) hb); have n1_ := Aside0.mk (below_step (by repeat (first | (with_reducible first | exact HB.out | apply below_alloc | apply pw_below_drewN | apply below_drew1) | exact HB.out)) hb); have n2_ := Aside0.mk (hbox); have n3_ := Aside0.mk ((by rw [hg]; exact (below_size (by repeat (first | (with_reducible first | exact HB.out | apply below_alloc | apply pw_below_drewN | apply below_drew1) | exact HB.out))) : w.heap.size ≤ gb323)); have n4_ := Aside0.mk ((by rw [hg]; exact (below_size (by repeat (first | (with_reducible first | exact HB.out | apply below_alloc | apply pw_below_drewN | apply below_drew1) | exact HB.out))) : w.heap.size ≤ gb323)); clear HO_12; clear HB; have HO_12 := n0_; have HB := n1_; have BK323 := n2_; have GW323 := n3_; have GE323 := n4_; clear n0_ n1_ n2_ n3_ n4_; clear hb hbox hg; have hcz46_0 : w45.cell? ⟨gb323, 0, none⟩ = some (.int .i64 0) := (blk_cell BK323.out 0).trans rfl; have hcz46_1 : w45.cell? ⟨gb323, 1, none⟩ = some (.int .i64 0) := (blk_cell BK323.out 1).trans rfl; have hcz46_2 : w45.cell? ⟨gb323, 2, none⟩ = some (.int .i64 0) := (blk_cell BK323.out 2).trans rfl; have hcz46_3 : w45.cell? ⟨gb323, 3, none⟩ = some (.int .i64 0) := (blk_cell BK323.out 3).trans rfl; have hcz46_4 : w45.cell? ⟨gb323, 4, none⟩ = some (.int .u64 0) := (blk_cell BK323.out 4).trans rfl; have hfz46_0 := blk_frozen BK323.out 0; have hfz46_1 := blk_frozen BK323.out 1; have hfz46_2 := blk_frozen BK323.out 2; have hfz46_3 := blk_frozen BK323.out 3; have hfz46_4 := blk_frozen BK323.out 4))
                          go_ret
                          exact ⟨by first | rfl | (simp [errW_none, errW_some] <;> rfl) | (simp [*, errW_none, errW_some] <;> rfl), by repeat (first | (with_reducible first | exact HB.out | apply below_alloc | apply pw_below_drewN | apply below_drew1 | refine below_set ?_ GE323.out) | exact HB.out)⟩
                      · rw [if_neg c26] at H
                        have c26b0 : (((rd_T44 t313 (l1.length : Int)).f2) == a3) = false := beq_eq_false_iff_ne.mpr c26
                        have c26b1 : (((rd_T44 t313 (l1.length : Int)).f2) != a3) = true := bne_iff_ne.mpr c26
                        obtain rfl := Option.some.inj H
                        obtain ⟨Ao47, co47, eo47⟩ := Kd.R_slice HO_12.out
                        subst eo47
                        have p322 : 0 ≤ ((l1.length : Int) : Int) := of_decide_eq_true (by first | (with_reducible assumption) | assumption)
                        have q322 : (l1.length : Int) < (t313.length : Int) := of_decide_eq_true (by first | (with_reducible assumption) | assumption)
                        obtain ⟨ad322, e322, hx322_0, hx322_1, hx322_2, hx322_3, hx322_4⟩ := at_T44 (Kd.R_reads' HO_12.out).2.2 (l1.length : Int) p322 q322
                        cases e322
                        (try simp only [Go.IntWalk.toNatUp] at hx322_0)
                        (try simp only [Go.IntWalk.toNatUp] at hx322_1)
                        (try simp only [Go.IntWalk.toNatUp] at hx322_2)
                        (try simp only [Go.IntWalk.toNatUp] at hx322_3)
                        (try simp only [Go.IntWalk.toNatUp] at hx322_4)
                        replace p322 := eq_true p322
                        replace q322 := eq_true q322
                        go_wp2_with (first | ((with_reducible refine gate_dst (N := 15) rfl ?_); (try (refine gate_guard (by rfl) ?_; dsimp only)); refine box_event ?hg (N := 15) ?hd (cs := #[.int .i64 0, .int .i64 0, .int .i64 0, .int .i64 0, .int .u64 0]) (t := 44) ?hr ?_; (case hd => rfl); (case hg => rfl); (case hr => first | (go_simp; done) | (go_simp; rfl)); intro gb323 hg w48 hbox hb; have n0_ := Aside0.mk (Kd.R_below (Kd.R_elderB (by (with_reducible repeat (first | apply Kd.R_alloc | apply Kd.R_drewN | apply Kd.R_drew)); exact HO_12.out) gb323 (Nat.le_of_eq hg.symm)) hb); have n1_ := Aside0.mk (below_step (by repeat (first | (with_reducible first | exact HB.out | apply below_alloc | apply pw_below_drewN | apply below_drew1) | exact HB.out)) hb); have n2_ := Aside0.mk (hbox); have n3_ := Aside0.mk ((by rw [hg]; exact (below_size (by repeat (first | (with_reducible first | exact HB.out | apply below_alloc | apply pw_below_drewN | apply below_drew1) | exact HB.out))) : w.heap.size ≤ gb323)); have n4_ := Aside0.mk ((by rw [hg]; exact (below_size (by repeat (first | (with_reducible first | exact HB.out | apply below_alloc | apply pw_below_drewN | apply below_drew1) | exact HB.out))) : w.heap.size ≤ gb323)); clear HO_12; clear HB; have HO_12 := n0_; have HB := n1_; have BK323 := n2_; have GW323 := n3_; have GE323 := n4_; clear n0_ n1_ n2_ n3_ n4_; clear hb hbox hg; have hcz49_0 : w48.cell? ⟨gb323, 0, none⟩ = some (.int .i64 0) := (blk_cell BK323.out 0).trans rfl; have hcz49_1 : w48.cell? ⟨gb323, 1, none⟩ = some (.int .i64 0) := (blk_cell BK323.out 1).trans rfl; have hcz49_2 : w48.cell? ⟨gb323, 2, none⟩ = some (.int .i64 0) := (blk_cell BK323.out 2).trans rfl; have hcz49_3 : w48.cell? ⟨gb323, 3, none⟩ = some (.int .i64 0) := (blk_cell BK323.out 3).trans rfl; have hcz49_4 : w48.cell? ⟨gb323, 4, none⟩ = some (.int .u64 0) := (blk_cell BK323.out 4).trans rfl; have hfz49_0 := blk_frozen BK323.out 0; have hfz49_1 := blk_frozen BK323.out 1; have hfz49_2 := blk_frozen BK323.out 2; have hfz49_3 := blk_frozen BK323.out 3; have hfz49_4 := blk_frozen BK323.out 4))
                        go_ret
                        exact ⟨by first | rfl | (simp [errW_none, errW_some] <;> rfl) | (simp [*, errW_none, errW_some] <;> rfl), by repeat (first | (with_reducible first | exact HB.out | apply below_alloc | apply pw_below_drewN | apply below_drew1 | refine below_set ?_ GE323.out) | exact HB.out)⟩
                    · rw [if_neg c25] at H
                      have c25b0 : (((rd_T44 t313 (l1.length : Int)).f0) == a2) = false := beq_eq_false_iff_ne.mpr c25
                      have c25b1 : (((rd_T44 t313 (l1.length : Int)).f0) != a2) = true := bne_iff_ne.mpr c25
                      obtain rfl := Option.some.inj H
                      obtain ⟨Ao50, co50, eo50⟩ := Kd.R_slice HO_12.out
                      subst eo50
                      have p322 : 0 ≤ ((l1.length : Int) : Int) := of_decide_eq_true (by first | (with_reducible assumption) | assumption)
                      have q322 : (l1.length : Int) < (t313.length : Int) := of_decide_eq_true (by first | (with_reducible assumption) | assumption)
                      obtain ⟨ad322, e322, hx322_0, hx322_1, hx322_2, hx322_3, hx322_4⟩ := at_T44 (Kd.R_reads' HO_12.out).2.2 (l1.length : Int) p322 q322
                      cases e322
                      (try simp only [Go.IntWalk.toNatUp] at hx322_0)
                      (try simp only [Go.IntWalk.toNatUp] at hx322_1)
                      (try simp only [Go.IntWalk.toNatUp] at hx322_2)
                      (try simp only [Go.IntWalk.toNatUp] at hx322_3)
                      (try simp only [Go.IntWalk.toNatUp] at hx322_4)
                      replace p322 := eq_true p322
                      replace q322 := eq_true q322
                      go_wp2_with (first | ((with_reducible refine gate_dst (N := 15) rfl ?_); (try (refine gate_guard (by rfl) ?_; dsimp only)); refine box_event ?hg (N := 15) ?hd (cs := #[.int .i64 0, .int .i64 0, .int .i64 0, .int .i64 0, .int .u64 0]) (t := 44) ?hr ?_; (case hd => rfl); (case hg => rfl); (case hr => first | (go_simp; done) | (go_simp; rfl)); intro gb323 hg w51 hbox hb; have n0_ := Aside0.mk (Kd.R_below (Kd.R_elderB (by (with_reducible repeat (first | apply Kd.R_alloc | apply Kd.R_drewN | apply Kd.R_drew)); exact HO_12.out) gb323 (Nat.le_of_eq hg.symm)) hb); have n1_ := Aside0.mk (below_step (by repeat (first | (with_reducible first | exact HB.out | apply below_alloc | apply pw_below_drewN | apply below_drew1) | exact HB.out)) hb); have n2_ := Aside0.mk (hbox); have n3_ := Aside0.mk ((by rw [hg]; exact (below_size (by repeat (first | (with_reducible first | exact HB.out | apply below_alloc | apply pw_below_drewN | apply below_drew1) | exact HB.out))) : w.heap.size ≤ gb323)); have n4_ := Aside0.mk ((by rw [hg]; exact (below_size (by repeat (first | (with_reducible first | exact HB.out | apply below_alloc | apply pw_below_drewN | apply below_drew1) | exact HB.out))) : w.heap.size ≤ gb323)); clear HO_12; clear HB; have HO_12 := n0_; have HB := n1_; have BK323 := n2_; have GW323 := n3_; have GE323 := n4_; clear n0_ n1_ n2_ n3_ n4_; clear hb hbox hg; have hcz52_0 : w51.cell? ⟨gb323, 0, none⟩ = some (.int .i64 0) := (blk_cell BK323.out 0).trans rfl; have hcz52_1 : w51.cell? ⟨gb323, 1, none⟩ = some (.int .i64 0) := (blk_cell BK323.out 1).trans rfl; have hcz52_2 : w51.cell? ⟨gb323, 2, none⟩ = some (.int .i64 0) := (blk_cell BK323.out 2).trans rfl; have hcz52_3 : w51.cell? ⟨gb323, 3, none⟩ = some (.int .i64 0) := (blk_cell BK323.out 3).trans rfl; have hcz52_4 : w51.cell? ⟨gb323, 4, none⟩ = some (.int .u64 0) := (blk_cell BK323.out 4).trans rfl; have hfz52_0 := blk_frozen BK323.out 0; have hfz52_1 := blk_frozen BK323.out 1; have hfz52_2 := blk_frozen BK323.out 2; have hfz52_3 := blk_frozen BK323.out 3; have hfz52_4 := blk_frozen BK323.out 4))
                      go_ret
                      exact ⟨by first | rfl | (simp [errW_none, errW_some] <;> rfl) | (simp [*, errW_none, errW_some] <;> rfl), by repeat (first | (with_reducible first | exact HB.out | apply below_alloc | apply pw_below_drewN | apply below_drew1 | refine below_set ?_ GE323.out) | exact HB.out)⟩
                  · replace c24 := Bool.eq_false_iff.mpr c24
                    subst c24
                    have H1 : (some false) = some r := by rw [if_neg (show ¬ (false = true) by decide)] at H; exact H
                    clear H
                    have H := H1
                    clear H1
                    obtain rfl := Option.some.inj H
                    obtain ⟨Ao53, co53, eo53⟩ := Kd.R_slice HO_12.out
                    subst eo53
                    have p322 : 0 ≤ ((l1.length : Int) : Int) := of_decide_eq_true (by first | (with_reducible assumption) | assumption)
                    have q322 : (l1.length : Int) < (t313.length : Int) := of_decide_eq_true (by first | (with_reducible assumption) | assumption)
                    obtain ⟨ad322, e322, hx322_0, hx322_1, hx322_2, hx322_3, hx322_4⟩ := at_T44 (Kd.R_reads' HO_12.out).2.2 (l1.length : Int) p322 q322
                    cases e322
                    (try simp only [Go.IntWalk.toNatUp] at hx322_0)
                    (try simp only [Go.IntWalk.toNatUp] at hx322_1)
                    (try simp only [Go.IntWalk.toNatUp] at hx322_2)
                    (try simp only [Go.IntWalk.toNatUp] at hx322_3)
                    (try simp only [Go.IntWalk.toNatUp] at hx322_4)
                    replace p322 := eq_true p322
                    replace q322 := eq_true q322
                    go_wp2_with (first | ((with_reducible refine gate_dst (N := 15) rfl ?_); (try (refine gate_guard (by rfl) ?_; dsimp only)); refine box_event ?hg (N := 15) ?hd (cs := #[.int .i64 0, .int .i64 0, .int .i64 0, .int .i64 0, .int .u64 0]) (t := 44) ?hr ?_; (case hd => rfl); (case hg => rfl); (case hr => first | (go_simp; done) | (go_simp; rfl)); intro gb323 hg w54 hbox hb; have n0_ := Aside0.mk (Kd.R_below (Kd.R_elderB (by (with_reducible repeat (first | apply Kd.R_alloc | apply Kd.R_drewN | apply Kd.R_drew)); exact HO_12.out) gb323 (Nat.le_of_eq hg.symm)) hb); have n1_ := Aside0.mk (below_step (by repeat (first | (with_reducible first | exact HB.out | apply below_alloc | apply pw_below_drewN | apply below_drew1) | exact HB.out)) hb); have n2_ := Aside0.mk (hbox); have n3_ := Aside0.mk ((by rw [hg]; exact (below_size (by repeat (first | (with_reducible first | exact HB.out | apply below_alloc | apply pw_below_drewN | apply below_drew1) | exact HB.out))) : w.heap.size ≤ gb323)); have n4_ := Aside0.mk ((by rw [hg]; exact (below_size (by repeat (first | (with_reducible first | exact HB.out | apply below_alloc | apply pw_below_drewN | apply below_drew1) | exact HB.out))) : w.heap.size ≤ gb323)); clear HO_12; clear HB; have HO_12 := n0_; have HB := n1_; have BK323 := n2_; have GW323 := n3_; have GE323 := n4_; clear n0_ n1_ n2_ n3_ n4_; clear hb hbox hg; have hcz55_0 : w54.cell? ⟨gb323, 0, none⟩ = some (.int .i64 0) := (blk_cell BK323.out 0).trans rfl; have hcz55_1 : w54.cell? ⟨gb323, 1, none⟩ = some (.int .i64 0) := (blk_cell BK323.out 1).trans rfl; have hcz55_2 : w54.cell? ⟨gb323, 2, none⟩ = some (.int .i64 0) := (blk_cell BK323.out 2).trans rfl; have hcz55_3 : w54.cell? ⟨gb323, 3, none⟩ = some (.int .i64 0) := (blk_cell BK323.out 3).trans rfl; have hcz55_4 : w54.cell? ⟨gb323, 4, none⟩ = some (.int .u64 0) := (blk_cell BK323.out 4).trans rfl; have hfz55_0 := blk_frozen BK323.out 0; have hfz55_1 := blk_frozen BK323.out 1; have hfz55_2 := blk_frozen BK323.out 2; have hfz55_3 := blk_frozen BK323.out 3; have hfz55_4 := blk_frozen BK323.out 4))
                    go_ret
                    exact ⟨by first | rfl | (simp [errW_none, errW_some] <;> rfl) | (simp [*, errW_none, errW_some] <;> rfl), by repeat (first | (with_reducible first | exact HB.out | apply below_alloc | apply pw_below_drewN | apply below_drew1 | refine below_set ?_ GE323.out) | exact HB.out)⟩
                · rw [if_neg c23] at H
                  exact absurd H (by simp)
              · rw [if_neg c22] at H
                exact absurd H (by simp)

-- BY HAND: function 37 (chargeparklaw40_changed)

end Go.Proofs.Ytenkffjlpdappaa.Pr
