/- For any two valid cables that are not zero, with the same Ambient and Den, if one has no lesser Most and Loss, and no greater Gain, it permits at least as much. -/
import Derived.Test.YtnbfjdfmpadndaaPrx23
import Derived.Test.YtnbfjdfmpadndaaPrOpn
import Derived.Test.YtnbfjdfmpadndaaPCable
namespace Go.Proofs.Ytnbfjdfmpadndaa.Pure
open Go.RowKit Go.Proofs.Ytnbfjdfmpadndaa.Pr Go.Proofs.YtnbfjdfmpadndaaW.PrintWords Go.Proofs.YtnbfjdfmpadndaaW.PrintLast

theorem permI_mono {A M G L D M' G' L' : Int} (hc : CableOK A M G L D) (hc' : CableOK A M' G' L' D) (hm : M ≤ M') (hl : L ≤ L') (hg : G' ≤ G) : permI A M G L D ≤ permI A M' G' L' D := by
  have s := permI_spec hc
  have s' := permI_spec hc'
  apply Int.not_lt.1; intro hlt
  have h1 := s'.2.2.2 (by omega)
  have h2 := sq_mono (G := G') hc'.g0 (show 0 ≤ permI A M' G' L' D + 1 by omega) (show permI A M' G' L' D + 1 ≤ permI A M G L D by omega)
  have h3 : G' * permI A M G L D * permI A M G L D ≤ G * permI A M G L D * permI A M G L D :=
    Int.mul_le_mul_of_nonneg_right (Int.mul_le_mul_of_nonneg_right hg s.1) s.1
  have h4 : roomI A M L D ≤ roomI A M' L' D := by
    unfold roomI
    have m0 : 0 ≤ mn L D := mn_ge hc.l0 (by have := hc.d0; omega)
    exact Int.mul_le_mul (by unfold mn; split <;> split <;> omega) (by omega) (by have := hc.am; omega) (mn_ge hc'.l0 (by have := hc.d0; omega))
  have := s.2.2.1
  omega
theorem CableMargins :
    ∀ (a0_0 : Int) (a0_1 : Int) (a0_2 : Int) (a0_3 : Int) (a0_4 : Int) (a1_0 : Int) (a1_1 : Int) (a1_2 : Int) (a1_3 : Int) (a1_4 : Int), (Lit.int .i64 a0_0).wf = true → (Lit.int .i64 a0_1).wf = true → (Lit.int .i64 a0_2).wf = true → (Lit.int .i64 a0_3).wf = true → (Lit.int .i64 a0_4).wf = true → (Lit.int .i64 a1_0).wf = true → (Lit.int .i64 a1_1).wf = true → (Lit.int .i64 a1_2).wf = true → (Lit.int .i64 a1_3).wf = true → (Lit.int .i64 a1_4).wf = true → ∃ k, chargeparklaw07_CableMargins.f k a0_0 a0_1 a0_2 a0_3 a0_4 a1_0 a1_1 a1_2 a1_3 a1_4 = some true := by
  intro A M G L D A' M' G' L' D' _ _ _ _ _ _ _ _ _ _
  refine ⟨1, ?_⟩
  unfold chargeparklaw07_CableMargins.f
  rw [head07, Option.bind_some, refValid07, Option.bind_some, refValid07, zeroC, zeroC]
  cases hv : (cokB A M G L D || czeroB A M G L D) with
  | false => rfl
  | true =>
  rw [if_pos rfl, Option.bind_some]
  cases hv' : (cokB A M' G' L' D || czeroB A M' G' L' D) with
  | false => rfl
  | true =>
  rw [if_pos rfl]
  cases hz : czeroB A M G L D with
  | true => rfl
  | false =>
  rw [if_neg (by simp)]
  cases hz' : czeroB A M' G' L' D with
  | true => rfl
  | false =>
  rw [if_neg (by simp)]
  have hc : CableOK A M G L D := cokB_iff.1 (by simpa [hz] using hv)
  have hc' : CableOK A M' G' L' D := cokB_iff.1 (by simpa [hz'] using hv')
  by_cases c1 : M' < M
  · rw [if_pos c1]; rfl
  rw [if_neg c1]
  by_cases c2 : L' < L
  · rw [if_pos c2]; rfl
  rw [if_neg c2]
  by_cases c3 : G' > G
  · rw [decide_eq_true c3]; rfl
  rw [decide_eq_false c3]
  simp only [chargeparklaw07_CableMargins.j0]
  rw [if_neg (by simp), Permitted_ok hc, Permitted_ok hc']
  have := permI_mono hc hc' (by omega) (by omega) (by omega)
  simp only [Option.bind_some, if_true]
  rw [decide_eq_true this]

end Go.Proofs.Ytnbfjdfmpadndaa.Pure
