/- Cables, in plain words: the greatest current that is permitted; ticks are monotone. -/
import Derived.Test.YtnbfjdfmpadndaaHCableH
import Derived.Test.YtnbfjdfmpadndaaPrx18
import Derived.Test.YtnbfjdfmpadndaaPrx19
import Derived.Test.YtnbfjdfmpadndaaPrOpn
namespace Go.Proofs.Ytnbfjdfmpadndaa.Pr
open Go.RowKit Go.Proofs.YtnbfjdfmpadndaaW.PrintWords Go.Proofs.YtnbfjdfmpadndaaW.PrintLast
set_option linter.unusedVariables false

theorem wrapC {x : Int} (h0 : -9223372036854775808 ≤ x) (h1 : x ≤ 9223372036854775807) : wrap64 x = x := by unfold wrap64; omega
theorem head07 : chargeparklaw07_head.f = some true := by kernel_rfl
theorem zeroC (A M G L D : Int) : (A == 0 && (M == 0 && (G == 0 && (L == 0 && (D == 0))))) = czeroB A M G L D := rfl
theorem refValid07 (A M G L D : Int) : chargeparkref07_Valid.f A M G L D = some (cokB A M G L D || czeroB A M G L D) := by
  unfold chargeparkref07_Valid.f cokB
  rw [zeroC]
  simp only [ge_iff_le]
  cases czeroB A M G L D with
  | true => simp
  | false =>
    by_cases c0 : 0 ≤ A
    rotate_left
    · simp [c0]
    by_cases c1 : A < M
    rotate_left
    · simp [c0, c1]
    by_cases c2 : M ≤ 200000
    rotate_left
    · simp [c0, c1, c2]
    by_cases c3 : 0 ≤ G
    rotate_left
    · simp [c0, c1, c2, c3]
    by_cases c4 : G ≤ 1000
    rotate_left
    · simp [c0, c1, c2, c3, c4]
    by_cases c5 : 0 ≤ L
    rotate_left
    · simp [c0, c1, c2, c3, c4, c5]
    by_cases c6 : L ≤ 1000
    rotate_left
    · simp [c0, c1, c2, c3, c4, c5, c6]
    by_cases c7 : 1 ≤ D
    rotate_left
    · simp [c0, c1, c2, c3, c4, c5, c6, c7]
    simp [c0, c1, c2, c3, c4, c5, c6, c7]
theorem valid_of {A M G L D t : Int} (h : (cokB A M G L D || czeroB A M G L D) = true) (t0 : 0 ≤ t) (t1 : t ≤ 1000000000) : cvalidB A M G L D t = true := by
  unfold cvalidB; rw [h, decide_eq_true t0, decide_eq_true t1]; rfl
theorem cvalid_iff {A M G L D t : Int} : cvalidB A M G L D t = true ↔ (CableOK A M G L D ∨ czeroB A M G L D = true) ∧ 0 ≤ t ∧ t ≤ 1000000000 := by
  simp only [cvalidB, Bool.and_eq_true, Bool.or_eq_true, decide_eq_true_eq, cokB_iff]
theorem wrong_iff {a : Int} : wrongB a = false ↔ 0 ≤ a ∧ a ≤ 1000 := by
  simp only [wrongB, Bool.or_eq_false_iff, decide_eq_false_iff_not]; omega
theorem ok_nz {A M G L D : Int} (h : CableOK A M G L D) : czeroB A M G L D = false := by
  cases hz : czeroB A M G L D with
  | false => rfl
  | true => have := (czeroB_iff.1 hz).2.2.2.2; have := h.d0; omega

/-! ### the greatest current -/
theorem sq_mono {G a b : Int} (g : 0 ≤ G) (a0 : 0 ≤ a) (h : a ≤ b) : G * a * a ≤ G * b * b :=
  Int.mul_le_mul (Int.mul_le_mul_of_nonneg_left h g) h a0 (Int.mul_nonneg g (by omega))
theorem permF_spec {G room : Int} : ∀ (n : Nat) (i : Int), 0 ≤ i → G * i * i ≤ room → i ≤ permF G room n i ∧ permF G room n i ≤ i + n ∧ G * permF G room n i * permF G room n i ≤ room ∧ (permF G room n i < i + n → room < G * (permF G room n i + 1) * (permF G room n i + 1))
  | 0, i, h0, h => by simp only [permF]; exact ⟨by omega, by omega, h, fun hh => by omega⟩
  | n + 1, i, h0, h => by
    rw [permF]
    by_cases c : G * (i + 1) * (i + 1) ≤ room
    · rw [if_pos c]
      have := permF_spec n (i + 1) (by omega) c
      exact ⟨by omega, by omega, this.2.2.1, fun hh => this.2.2.2 (by omega)⟩
    · rw [if_neg c]
      exact ⟨by omega, by omega, h, fun _ => by omega⟩
/-- The current that is permitted. -/
def permI (A M G L D : Int) : Int := permF G (roomI A M L D) 1000 0
theorem permI_spec {A M G L D : Int} (hc : CableOK A M G L D) : 0 ≤ permI A M G L D ∧ permI A M G L D ≤ 1000 ∧ G * permI A M G L D * permI A M G L D ≤ roomI A M L D ∧ (permI A M G L D < 1000 → roomI A M L D < G * (permI A M G L D + 1) * (permI A M G L D + 1)) := by
  have h := permF_spec (G := G) (room := roomI A M L D) 1000 0 (by omega) (by have := (room_range hc).1; simpa using this)
  unfold permI
  exact ⟨h.1, by omega, h.2.2.1, fun hh => h.2.2.2 (by omega)⟩
theorem Permitted_ok {A M G L D : Int} (hc : CableOK A M G L D) : cable_Permitted.f A M G L D = some (permI A M G L D, 0) := by
  unfold cable_Permitted.f
  rw [if_pos (cvalid_iff.2 ⟨.inl hc, by omega, by omega⟩), if_neg (by rw [ok_nz hc]; simp)]
  rfl
theorem Next_ok {A M G L D t a : Int} (hc : CableOK A M G L D) (t0 : 0 ≤ t) (t1 : t ≤ 1000000000) (x0 : 0 ≤ a) (x1 : a ≤ 1000) : cable_Next.f A M G L D t a = if carryI A G L D t a ≤ 1000000000 then some (carryI A G L D t a, 0) else some (0, 3) := by
  have h0 := carry_nonneg hc x0 t0
  have e : afterI A M G L D t a = carryI A G L D t a := by unfold afterI; rw [ok_nz hc]; rfl
  unfold cable_Next.f
  rw [if_pos ⟨cvalid_iff.2 ⟨.inl hc, t0, t1⟩, wrong_iff.2 ⟨x0, x1⟩⟩, e]
  by_cases c : carryI A G L D t a ≤ 1000000000
  · rw [if_pos c, if_pos ⟨h0, c⟩]
  · rw [if_neg c, if_neg (fun h => c h.2)]
/-- A permitted current doesn't make a cable warmer than M. -/
theorem carry_safe {A M G L D t a : Int} (hc : CableOK A M G L D) (t1 : t ≤ M) (x0 : 0 ≤ a) (x1 : G * a * a ≤ roomI A M L D) : carryI A G L D t a ≤ M := by
  obtain ⟨a0, am, m1, g0, g1, l0, l1, d0, d1⟩ := hc
  rw [carry_le_iff d0]
  unfold heatI
  unfold roomI at x1
  have m2 : mn L D ≤ D := by unfold mn; split <;> omega
  have h2 := Int.mul_le_mul_of_nonneg_right m2 (show 0 ≤ M - t by omega)
  have h3 : mn L D * (M - A) - mn L D * (t - A) = mn L D * (M - t) := by rw [← Int.mul_sub]; congr 1; omega
  omega
/-- A current that doesn't fit warms a cable that isn't too warm, and keeps one that is so. -/
theorem carry_tight {A M G L D t a : Int} (hc : CableOK A M G L D) (x1 : roomI A M L D < G * a * a) : M < carryI A G L D t a ∨ t + 1 ≤ carryI A G L D t a := by
  obtain ⟨a0, am, m1, g0, g1, l0, l1, d0, d1⟩ := hc
  have m0 : 0 ≤ mn L D := mn_ge l0 (by omega)
  have m2 : mn L D ≤ D := by unfold mn; split <;> omega
  unfold roomI at x1
  have h3 : mn L D * (M - A) - mn L D * (t - A) = mn L D * (M - t) := by rw [← Int.mul_sub]; congr 1; omega
  by_cases h : M < t
  · left
    apply Int.not_le.1; intro hle
    have h1 := (carry_le_iff d0).1 hle
    unfold heatI at h1
    have h2 := Int.mul_le_mul_of_nonneg_right m2 (show 0 ≤ t - M by omega)
    have h4 : mn L D * (M - t) = -(mn L D * (t - M)) := by rw [← Int.mul_neg]; congr 1; omega
    have h5 : D * (M - t) = -(D * (t - M)) := by rw [← Int.mul_neg]; congr 1; omega
    omega
  · right
    apply Int.not_lt.1; intro hlt
    have h1 := (carry_le_iff (A := A) (G := G) (L := L) (t := t) (a := a) (x := t) d0).1 (by omega)
    unfold heatI at h1
    have h2 := Int.mul_nonneg m0 (show 0 ≤ M - t by omega)
    rw [show t - t = 0 by omega, Int.mul_zero] at h1
    omega
/-- Greater temperatures and currents lead to greater ones. -/
theorem carry_mono {A M G L D t t' a a' : Int} (hc : CableOK A M G L D) (ht : t ≤ t') (x0 : 0 ≤ a) (hx : a ≤ a') : carryI A G L D t a ≤ carryI A G L D t' a' := by
  obtain ⟨a0, am, m1, g0, g1, l0, l1, d0, d1⟩ := hc
  have m2 : mn L D ≤ D := by unfold mn; split <;> omega
  rw [carry_le_iff d0]
  have h1 := (carry_le_iff (A := A) (G := G) (L := L) (t := t') (a := a') d0).1 (Int.le_refl _)
  generalize carryI A G L D t' a' = y at h1 ⊢
  unfold heatI at h1 ⊢
  have hs := sq_mono g0 x0 hx
  have h2 := Int.mul_le_mul_of_nonneg_right m2 (show 0 ≤ t' - t by omega)
  have h3 : mn L D * (t' - A) = mn L D * (t - A) + mn L D * (t' - t) := by rw [← Int.mul_add]; congr 1; omega
  have h4 : D * (y - t) = D * (y - t') + D * (t' - t) := by rw [← Int.mul_add]; congr 1; omega
  omega
theorem carry_rest {A M G L D t : Int} (hc : CableOK A M G L D) (h : A ≤ t) : carryI A G L D t 0 ≤ t := by
  obtain ⟨a0, am, m1, g0, g1, l0, l1, d0, d1⟩ := hc
  have m0 : 0 ≤ mn L D := mn_ge l0 (by omega)
  rw [carry_le_iff d0]
  unfold heatI
  have := Int.mul_nonneg m0 (show 0 ≤ t - A by omega)
  rw [show t - t = 0 by omega, Int.mul_zero, Int.mul_zero]
  omega
end Go.Proofs.Ytnbfjdfmpadndaa.Pr
