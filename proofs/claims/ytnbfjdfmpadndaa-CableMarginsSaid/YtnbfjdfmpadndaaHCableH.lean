/- Package cable over this program: Hot. -/
import Derived.Test.YtnbfjdfmpadndaaHCableP
namespace Go.Proofs.Ytnbfjdfmpadndaa.Pr
open Go.RowKit Go.Proofs.YtnbfjdfmpadndaaW.PrintWords Go.Proofs.YtnbfjdfmpadndaaW.PrintLast Go.Proofs.YtnbfjdfmpadndaaW.PrintMore
set_option linter.unusedVariables false
set_option linter.unusedSimpArgs false

theorem drop_rdI' {l : List Int} {i : Int} (h0 : 0 ≤ i) (h1 : i < (l.length : Int)) : l.drop i.toNat = rd l i :: l.drop (i + 1).toNat := by
  have hl : i.toNat < l.length := by omega
  rw [List.drop_eq_getElem_cons hl, show (i + 1).toNat = i.toNat + 1 by omega]
  unfold rd
  rw [List.getD_eq_getElem?_getD, List.getElem?_eq_getElem hl]
  rfl
/-- The first index at which a test says yes, or -1. -/
def idxF (p : Int → Bool) : Int → List Int → Int
  | _, [] => -1
  | i, x :: r => if p x = true then i else idxF p (i + 1) r
theorem idxF_any (p : Int → Bool) : ∀ (l : List Int) (i : Int), 0 ≤ i → decide (0 ≤ idxF p i l) = l.any p
  | [], i, _ => by simp [idxF]
  | x :: r, i, h => by
    rw [idxF, List.any_cons]
    cases hp : p x with
    | true => simp [h]
    | false => simp [idxF_any p r (i + 1) (by omega)]
set_option maxHeartbeats 1000000 in
theorem indexWrong_calls (A : Option Addr) (c : Nat) (l : List Int) (w : World) (hr : Kd.C (Kd.int .i64) w A l.length l) :
    Calls Try.prog 52 #[.slice A l.length c, .func (.func 48) #[] #[]] w fun e w' => e = .returned (.int .i64 (idxF wrongB 0 l)) ∧ Below w.heap.size w w' := by
  have hlen : l.length ≤ 9223372036854775807 := hr.2.1
  have HR := Aside0.mk hr
  clear hr
  go_enter Try.func52, Try.ntmps52
  go_wp2
  go_loopw [8] (fun s8 wr => ∃ (i : Int), s8 = .int .i64 i ∧ 0 ≤ i ∧ i ≤ l.length ∧ Aside0 (Below w.heap.size w wr) ∧ Aside0 (idxF wrongB 0 l = idxF wrongB i (l.drop i.toNat))) (fun s8 _ => l.length - (intOf s8).toNat)
  case atStart => exact ⟨0, rfl, Int.le_refl _, by omega, ⟨Below.refl _ _⟩, ⟨rfl⟩⟩
  case round =>
    obtain ⟨i, rfl, h0, h1, HB, HA⟩ := hrel
    by_cases hlt : i < (l.length : Int)
    · obtain ⟨ad, rfl, hc0⟩ := Kd.at_int HR.out i h0 hlt
      have hd := drop_rdI' h0 hlt
      generalize rd l i = x at hc0 hd
      have HD := Aside0.mk (show idxF wrongB 0 l = if wrongB x = true then i else idxF wrongB (i + 1) (l.drop (i + 1).toNat) by rw [HA.out, hd]; rfl)
      clear hd
      replace hc0 := (HB.out.cell (World.block_lt_of_cell? w _ hc0)).trans hc0
      have HW := Aside0.mk (wrong_f x)
      cases hx : wrongB x with
      | true =>
        rw [hx] at HW HD
        rw [if_pos rfl] at HD
        go_wp2_with (go_at_call 48; refine (cable_wrong.calls _ true _ HW.out).mono ?_; rintro e w2 ⟨rfl, hb2⟩; have HB2 := Aside0.mk hb2.below; clear hb2)
        go_ret
        rw [HD.out]
        exact ⟨rfl, HB.out.trans (HB2.out.mono HB.out.size)⟩
      | false =>
        rw [hx] at HW HD
        rw [if_neg (by simp)] at HD
        go_wp2_with (go_at_call 48; refine (cable_wrong.calls _ false _ HW.out).mono ?_; rintro e w2 ⟨rfl, hb2⟩; have HB2 := Aside0.mk hb2.below; clear hb2)
        go_roundw
        case rel => exact ⟨i + 1, rfl, by omega, by omega, ⟨HB.out.trans (HB2.out.mono HB.out.size)⟩, HD⟩
        case measure => simp [intOf]; omega
    · go_wp2
      go_ret
      rw [HA.out, List.drop_eq_nil_of_le (by omega)]
      exact ⟨rfl, HB.out⟩
set_option maxHeartbeats 1000000 in
theorem containsWrong_calls (A : Option Addr) (c : Nat) (l : List Int) (w : World) (hr : Kd.C (Kd.int .i64) w A l.length l) :
    Calls Try.prog 50 #[.slice A l.length c, .func (.func 48) #[] #[]] w fun e w' => e = .returned (.bool (l.any wrongB)) ∧ Below w.heap.size w w' := by
  have HI := Aside0.mk (indexWrong_calls A c l w hr)
  have e0 := idxF_any wrongB l 0 (Int.le_refl _)
  generalize idxF wrongB 0 l = k at HI e0
  rw [← e0]
  clear e0 hr
  go_enter Try.func50, Try.ntmps50
  go_wp2_with (go_at_call 52; refine HI.out.mono ?_; rintro e w2 ⟨rfl, hb2⟩; have HB2 := Aside0.mk hb2; clear hb2)
  go_ret
  exact ⟨by first | rfl | (simp; done), HB2.out⟩

/-! ### the tick, as a quotient rounded up -/
theorem ceil_spec {n D : Int} (hD : 1 ≤ D) : D * (n.tdiv D + (if 0 < n.tmod D then 1 else 0)) ≥ n ∧ D * (n.tdiv D + (if 0 < n.tmod D then 1 else 0)) < n + D := by
  have h := Int.mul_tdiv_add_tmod n D
  have hl : n.tmod D < D := Int.tmod_lt_of_pos n (by omega)
  have hg : -D < n.tmod D := by
    have := Int.tmod_lt_of_pos (-n) (show 0 < D by omega)
    rw [Int.neg_tmod] at this; omega
  split <;> rename_i hs <;> (first | rw [Int.mul_add, Int.mul_one] | rw [Int.add_zero]) <;> omega
theorem carry_le_iff {A G L D t a x : Int} (hD : 1 ≤ D) : carryI A G L D t a ≤ x ↔ heatI A G L D t a ≤ D * (x - t) := by
  have h := ceil_spec (n := heatI A G L D t a) hD
  unfold carryI
  generalize heatI A G L D t a = n at h ⊢
  rw [Int.add_assoc]
  generalize n.tdiv D + (if 0 < n.tmod D then 1 else 0) = c at h ⊢
  constructor
  · intro hc
    have := Int.mul_le_mul_of_nonneg_left (show c ≤ x - t by omega) (show 0 ≤ D by omega)
    omega
  · intro hn
    apply Int.not_lt.1; intro hlt
    have := Int.mul_le_mul_of_nonneg_left (show x - t + 1 ≤ c by omega) (show 0 ≤ D by omega)
    rw [Int.mul_add, Int.mul_one] at this
    omega
/-- A tick never cools a cable below Ambient, or below what it was. -/
theorem carry_low {A M G L D t a : Int} (hc : CableOK A M G L D) (x0 : 0 ≤ a) : A ≤ carryI A G L D t a ∨ t ≤ carryI A G L D t a := by
  obtain ⟨a0, am, m1, g0, g1, l0, l1, d0, d1⟩ := hc
  have hg : 0 ≤ G * a * a := Int.mul_nonneg (Int.mul_nonneg g0 x0) x0
  have m0 : 0 ≤ mn L D := mn_ge l0 (by omega)
  have m2 : mn L D ≤ D := by unfold mn; split <;> omega
  rcases Int.le_total A t with h | h
  · left
    apply Int.not_lt.1; intro hlt
    have h1 := (carry_le_iff (A := A) (G := G) (L := L) (t := t) (a := a) (x := A - 1) d0).1 (by omega)
    unfold heatI at h1
    have h2 := Int.mul_le_mul_of_nonneg_right m2 (show 0 ≤ t - A by omega)
    have h3 : D * (A - 1 - t) = -(D * (t - A)) - D := by rw [show A - 1 - t = -(t - A) - 1 by omega, Int.mul_sub, Int.mul_neg, Int.mul_one]
    omega
  · right
    apply Int.not_lt.1; intro hlt
    have h1 := (carry_le_iff (A := A) (G := G) (L := L) (t := t) (a := a) (x := t - 1) d0).1 (by omega)
    unfold heatI at h1
    have h2 := Int.mul_nonneg m0 (show 0 ≤ A - t by omega)
    have h3 : mn L D * (t - A) = -(mn L D * (A - t)) := by rw [← Int.mul_neg]; congr 1; omega
    have h4 : D * (t - 1 - t) = -D := by rw [show t - 1 - t = -1 by omega, Int.mul_neg, Int.mul_one]
    omega
theorem carry_nonneg {A M G L D t a : Int} (hc : CableOK A M G L D) (x0 : 0 ≤ a) (t0 : 0 ≤ t) : 0 ≤ carryI A G L D t a := by
  have := hc.a0
  rcases carry_low (t := t) hc x0 with h | h <;> omega

theorem wrong_rd {l : List Int} (h : l.any wrongB = false) {i : Int} (h0 : 0 ≤ i) (h1 : i < (l.length : Int)) : 0 ≤ rd l i ∧ rd l i ≤ 1000 := by
  have hl : i.toNat < l.length := by omega
  have := List.any_eq_false.1 h (rd l i) (by unfold rd; rw [List.getD_eq_getElem?_getD, List.getElem?_eq_getElem hl]; exact List.getElem_mem _)
  simp only [wrongB, Bool.or_eq_true, decide_eq_true_eq, not_or] at this
  omega
/-- The first tick behind which a cable is warmer than M, or -1. -/
def hotF (A M G L D : Int) : Int → Int → List Int → Int
  | _, _, [] => -1
  | i, t, x :: r => if M < carryI A G L D t x then i else hotF A M G L D (i + 1) (carryI A G L D t x) r
def cable_Hot.f (a0_0 a0_1 a0_2 a0_3 a0_4 a1 : Int) (l2 : List Int) : Option (Int × Int) :=
  if cvalidB a0_0 a0_1 a0_2 a0_3 a0_4 a1 = true ∧ l2.any wrongB = false then some (if czeroB a0_0 a0_1 a0_2 a0_3 a0_4 = true then -1 else hotF a0_0 a0_1 a0_2 a0_3 a0_4 0 a1 l2, 0) else some (0, 1)
set_option maxHeartbeats 4000000 in
theorem cable_Hot.calls (a0_0 a0_1 a0_2 a0_3 a0_4 a1 : Int) (A2 : Option Addr) (c2 : Nat) (l2 : List Int) (r0 r1 : Int) (w : World) (hr2 : Kd.C (Kd.int .i64) w A2 l2.length l2) (hc2 : l2.length ≤ c2) (h : cable_Hot.f a0_0 a0_1 a0_2 a0_3 a0_4 a1 l2 = some (r0, r1)) :
    Calls Try.prog 31 #[.agg #[.int .i64 a0_0, .int .i64 a0_1, .int .i64 a0_2, .int .i64 a0_3, .int .i64 a0_4], .int .i64 a1, .slice A2 l2.length c2] w fun e w' => e = .returned (.tuple #[.int .i64 r0, .int .i64 r1]) ∧ Below w.heap.size w w' := by
  have hlen : l2.length ≤ 9223372036854775807 := hr2.2.1
  have HR := Aside0.mk hr2
  clear hr2 hc2
  have hu := Try.underlying67
  have hv := Try.underlying46
  have HV := Aside0.mk (warm_valid a0_0 a0_1 a0_2 a0_3 a0_4 a1)
  cases v : cvalidB a0_0 a0_1 a0_2 a0_3 a0_4 a1 with
  | false =>
    rw [v] at HV
    unfold cable_Hot.f at h
    rw [if_neg (by rw [v]; simp)] at h
    simp only [Option.some.injEq, Prod.mk.injEq] at h
    obtain ⟨rfl, rfl⟩ := h
    clear v
    go_enter Try.func31, Try.ntmps31
    go_wp2_with (go_at_call 45; refine (cable_warm_valid.calls _ _ _ _ _ _ false _ HV.out).mono ?_; rintro e w2 ⟨rfl, hb2⟩; have HB2 := Aside0.mk hb2; clear hb2)
    go_ret2
    exact ⟨rfl, (((Below.refl _ _).alloc (Nat.le_refl _) _).alloc (by simp) _).trans (HB2.out.mono (by simp; omega))⟩
  | true =>
    rw [v] at HV
    have HC := Aside0.mk (fun W hW => containsWrong_calls A2 c2 l2 W hW)
    cases x : l2.any wrongB with
    | true =>
      rw [x] at HC
      unfold cable_Hot.f at h
      rw [if_neg (by rw [x]; simp)] at h
      simp only [Option.some.injEq, Prod.mk.injEq] at h
      obtain ⟨rfl, rfl⟩ := h
      clear v x
      go_enter Try.func31, Try.ntmps31
      go_wp2_with (first | (go_at_call 45; refine (cable_warm_valid.calls _ _ _ _ _ _ true _ HV.out).mono ?_; rintro e w2 ⟨rfl, hb2⟩; have HB2 := Aside0.mk ((((Below.refl w.heap.size w).alloc (Nat.le_refl _) _).alloc (by simp) _).trans (hb2.mono (by simp; omega))); clear hb2) | (go_at_call 50; refine (HC.out _ (Kd.C_below HR.out HB2.out)).mono ?_; rintro e w3 ⟨rfl, hb3⟩; have HB3 := Aside0.mk (HB2.out.trans (hb3.mono HB2.out.size)); clear hb3))
      go_ret2
      exact ⟨rfl, HB3.out⟩
    | false =>
      rw [x] at HC
      unfold cable_Hot.f at h
      rw [if_pos ⟨v, x⟩] at h
      simp only [Option.some.injEq, Prod.mk.injEq] at h
      obtain ⟨h, rfl⟩ := h
      have HX := Aside0.mk x
      simp only [cvalidB, Bool.and_eq_true, Bool.or_eq_true, decide_eq_true_eq] at v
      obtain ⟨vc, t0, t1⟩ := v
      clear x
      by_cases z : czeroB a0_0 a0_1 a0_2 a0_3 a0_4 = true
      · rw [if_pos z] at h
        obtain ⟨rfl, rfl, rfl, rfl, rfl⟩ := czeroB_iff.1 z
        subst h
        clear vc z t0 t1
        go_enter Try.func31, Try.ntmps31
        go_wp2_with (first | (go_at_call 45; refine (cable_warm_valid.calls _ _ _ _ _ _ true _ HV.out).mono ?_; rintro e w2 ⟨rfl, hb2⟩; have HK2 := Aside0.mk ((hb2.block (w.heap.size + 1) (by simp)).trans (second_box _ _ _)); have HB2 := Aside0.mk ((((Below.refl w.heap.size w).alloc (Nat.le_refl _) _).alloc (by simp) _).trans (hb2.mono (by simp; omega))); clear hb2) | (go_at_call 50; refine (HC.out _ (Kd.C_below HR.out HB2.out)).mono ?_; rintro e w3 ⟨rfl, hb3⟩; have HK3 := Aside0.mk ((hb3.block _ (blk_lt HK2.out)).trans HK2.out); have HB3 := Aside0.mk (HB2.out.trans (hb3.mono HB2.out.size)); clear hb3))
        go_loopw [25] (fun s25 wr => ∃ (i : Int), s25 = .int .i64 i ∧ 0 ≤ i ∧ i ≤ l2.length ∧ Aside0 (Below w.heap.size w wr) ∧ Aside0 (wr.heap[w.heap.size + 1]? = some (.cells #[.int .i64 0, .int .i64 0, .int .i64 0, .int .i64 0, .int .i64 0, .int .i64 a1] 67 (0, 0)))) (fun s25 _ => l2.length - (intOf s25).toNat)
        case atStart => exact ⟨0, rfl, Int.le_refl _, by omega, HB3, HK3⟩
        case round =>
          obtain ⟨i, rfl, h0, h1, HB, HK⟩ := hrel
          by_cases hlt : i < (l2.length : Int)
          · obtain ⟨ad, rfl, hc0⟩ := Kd.at_int HR.out i h0 hlt
            generalize rd l2 i = x at hc0
            replace hc0 := (HB.out.cell (World.block_lt_of_cell? w _ hc0)).trans hc0
            have k0 : wr.cell? ⟨w.heap.size + 1, 0, none⟩ = some (.int .i64 0) := (blk_cell HK.out 0).trans rfl
            have k1 : wr.cell? ⟨w.heap.size + 1, 1, none⟩ = some (.int .i64 0) := (blk_cell HK.out 1).trans rfl
            have k2 : wr.cell? ⟨w.heap.size + 1, 2, none⟩ = some (.int .i64 0) := (blk_cell HK.out 2).trans rfl
            have k3 : wr.cell? ⟨w.heap.size + 1, 3, none⟩ = some (.int .i64 0) := (blk_cell HK.out 3).trans rfl
            have k4 : wr.cell? ⟨w.heap.size + 1, 4, none⟩ = some (.int .i64 0) := (blk_cell HK.out 4).trans rfl
            have k5 : wr.cell? ⟨w.heap.size + 1, 5, none⟩ = some (.int .i64 a1) := (blk_cell HK.out 5).trans rfl
            cases hpb : decide (0 < a1)
            all_goals
              go_wp2_with (go_at_call 49; refine (carry_zero _ a1 x _ HK.out).mono ?_; rintro e w4 ⟨rfl, rfl⟩)
              go_roundw
              case rel => exact ⟨i + 1, rfl, by omega, by omega, HB, HK⟩
              case measure => simp [intOf]; omega
          · go_wp2
            go_ret2
            exact ⟨rfl, HB.out⟩
      · rw [if_neg z] at h
        have hc : CableOK a0_0 a0_1 a0_2 a0_3 a0_4 := cokB_iff.1 (by rcases vc with vc | vc; exact vc; exact absurd vc z)
        have dz : (a0_4 == 0) = false := beq_eq_false_iff_ne.2 (by have := hc.d0; omega)
        have dz2 : (a0_4 != 0) = true := bne_iff_ne.2 (by have := hc.d0; omega)
        have HC2 := Aside0.mk hc
        have HE := Aside0.mk h
        have HT := Aside0.mk (And.intro t0 t1)
        clear vc z h hc t0 t1
        go_enter Try.func31, Try.ntmps31
        go_wp2_with (first | (go_at_call 45; refine (cable_warm_valid.calls _ _ _ _ _ _ true _ HV.out).mono ?_; rintro e w2 ⟨rfl, hb2⟩; have HK2 := Aside0.mk ((hb2.block (w.heap.size + 1) (by simp)).trans (second_box _ _ _)); have HB2 := Aside0.mk ((((Below.refl w.heap.size w).alloc (Nat.le_refl _) _).alloc (by simp) _).trans (hb2.mono (by simp; omega))); clear hb2) | (go_at_call 50; refine (HC.out _ (Kd.C_below HR.out HB2.out)).mono ?_; rintro e w3 ⟨rfl, hb3⟩; have HK3 := Aside0.mk ((hb3.block _ (blk_lt HK2.out)).trans HK2.out); have HB3 := Aside0.mk (HB2.out.trans (hb3.mono HB2.out.size)); clear hb3))
        go_loopw [25] (fun s25 wr => ∃ (i t : Int), s25 = .int .i64 i ∧ 0 ≤ i ∧ i ≤ l2.length ∧ Aside0 (Below w.heap.size w wr) ∧ Aside0 (wr.heap[w.heap.size + 1]? = some (.cells #[.int .i64 a0_0, .int .i64 a0_1, .int .i64 a0_2, .int .i64 a0_3, .int .i64 a0_4, .int .i64 t] 67 (0, 0))) ∧ Aside0 (0 ≤ t ∧ t ≤ 1000000000) ∧
            Aside0 (hotF a0_0 a0_1 a0_2 a0_3 a0_4 i t (l2.drop i.toNat) = r0)) (fun s25 _ => l2.length - (intOf s25).toNat)
        case atStart => exact ⟨0, a1, rfl, Int.le_refl _, by omega, HB3, HK3, HT, HE⟩
        case round =>
          obtain ⟨i, t, rfl, h0, h1, HB, HK, HT2, HH⟩ := hrel
          by_cases hlt : i < (l2.length : Int)
          · obtain ⟨ad, rfl, hc0⟩ := Kd.at_int HR.out i h0 hlt
            have hd := drop_rdI' h0 hlt
            have hw := wrong_rd HX.out h0 hlt
            generalize rd l2 i = x at hc0 hd hw
            have HD := Aside0.mk (show (if a0_1 < carryI a0_0 a0_2 a0_3 a0_4 t x then i else hotF a0_0 a0_1 a0_2 a0_3 a0_4 (i + 1) (carryI a0_0 a0_2 a0_3 a0_4 t x) (l2.drop (i + 1).toNat)) = r0 by rw [← HH.out, hd]; rfl)
            replace hc0 := (HB.out.cell (World.block_lt_of_cell? w _ hc0)).trans hc0
            have HY := Aside0.mk (carry_nonneg HC2.out hw.1 HT2.out.1)
            have HCC := Aside0.mk (carry_calls (w.heap.size + 1) a0_0 a0_1 a0_2 a0_3 a0_4 t x wr HC2.out HT2.out.1 HT2.out.2 hw.1 hw.2 HK.out)
            generalize carryI a0_0 a0_2 a0_3 a0_4 t x = y at HD HY HCC
            clear hd hw
            cases hp : decide (a0_1 < y) with
            | true =>
              have e1 := HD.out
              rw [if_pos (of_decide_eq_true hp)] at e1
              subst e1
              go_wp2_with (go_at_call 49; refine HCC.out.mono ?_; rintro e w4 ⟨rfl, hk4, hb4⟩; have HB4 := Aside0.mk (HB.out.trans (hb4 w.heap.size (by omega))); have k0 : w4.cell? ⟨w.heap.size + 1, 0, none⟩ = some (.int .i64 a0_0) := (blk_cell hk4 0).trans rfl; have k1 : w4.cell? ⟨w.heap.size + 1, 1, none⟩ = some (.int .i64 a0_1) := (blk_cell hk4 1).trans rfl; have k2 : w4.cell? ⟨w.heap.size + 1, 2, none⟩ = some (.int .i64 a0_2) := (blk_cell hk4 2).trans rfl; have k3 : w4.cell? ⟨w.heap.size + 1, 3, none⟩ = some (.int .i64 a0_3) := (blk_cell hk4 3).trans rfl; have k4 : w4.cell? ⟨w.heap.size + 1, 4, none⟩ = some (.int .i64 a0_4) := (blk_cell hk4 4).trans rfl; have k5 : w4.cell? ⟨w.heap.size + 1, 5, none⟩ = some (.int .i64 y) := (blk_cell hk4 5).trans rfl; have HK4 := Aside0.mk hk4; clear hk4 hb4)
              go_ret2
              exact ⟨by first | rfl | (simp; done), HB4.out⟩
            | false =>
              have e1 := HD.out
              rw [if_neg (of_decide_eq_false hp)] at e1
              replace HD := Aside0.mk e1
              have HY2 := Aside0.mk (show 0 ≤ y ∧ y ≤ 1000000000 by have := of_decide_eq_false hp; have := HC2.out.m1; exact ⟨HY.out, by omega⟩)
              clear e1
              go_wp2_with (go_at_call 49; refine HCC.out.mono ?_; rintro e w4 ⟨rfl, hk4, hb4⟩; have HB4 := Aside0.mk (HB.out.trans (hb4 w.heap.size (by omega))); have k0 : w4.cell? ⟨w.heap.size + 1, 0, none⟩ = some (.int .i64 a0_0) := (blk_cell hk4 0).trans rfl; have k1 : w4.cell? ⟨w.heap.size + 1, 1, none⟩ = some (.int .i64 a0_1) := (blk_cell hk4 1).trans rfl; have k2 : w4.cell? ⟨w.heap.size + 1, 2, none⟩ = some (.int .i64 a0_2) := (blk_cell hk4 2).trans rfl; have k3 : w4.cell? ⟨w.heap.size + 1, 3, none⟩ = some (.int .i64 a0_3) := (blk_cell hk4 3).trans rfl; have k4 : w4.cell? ⟨w.heap.size + 1, 4, none⟩ = some (.int .i64 a0_4) := (blk_cell hk4 4).trans rfl; have k5 : w4.cell? ⟨w.heap.size + 1, 5, none⟩ = some (.int .i64 y) := (blk_cell hk4 5).trans rfl; have HK4 := Aside0.mk hk4; clear hk4 hb4)
              go_roundw
              case rel => exact ⟨i + 1, y, rfl, by omega, by omega, HB4, HK4, HY2, HD⟩
              case measure => simp [intOf]; omega
          · have e1 := HH.out
            rw [List.drop_eq_nil_of_le (by omega)] at e1
            subst e1
            go_wp2
            go_ret2
            exact ⟨by first | rfl | (simp [hotF]; done), HB.out⟩
end Go.Proofs.Ytnbfjdfmpadndaa.Pr
