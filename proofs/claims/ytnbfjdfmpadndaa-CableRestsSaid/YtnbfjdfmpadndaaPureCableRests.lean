/- For any valid cable that is not cooler than Ambient, a tick without a current makes it no warmer, and not cooler than Ambient; with any current it is never cooler than Ambient. -/
import Derived.Test.YtnbfjdfmpadndaaPrx22
import Derived.Test.YtnbfjdfmpadndaaPrOpn
import Derived.Test.YtnbfjdfmpadndaaPCable
namespace Go.Proofs.Ytnbfjdfmpadndaa.Pure
open Go.RowKit Go.Proofs.Ytnbfjdfmpadndaa.Pr Go.Proofs.YtnbfjdfmpadndaaW.PrintWords Go.Proofs.YtnbfjdfmpadndaaW.PrintLast

theorem CableRests :
    ∀ (a0_0 : Int) (a0_1 : Int) (a0_2 : Int) (a0_3 : Int) (a0_4 : Int) (a1 : Int) (a2 : Int), (Lit.int .i64 a0_0).wf = true → (Lit.int .i64 a0_1).wf = true → (Lit.int .i64 a0_2).wf = true → (Lit.int .i64 a0_3).wf = true → (Lit.int .i64 a0_4).wf = true → (Lit.int .i64 a1).wf = true → (Lit.int .i64 a2).wf = true → ∃ k, chargeparklaw07_CableRests.f k a0_0 a0_1 a0_2 a0_3 a0_4 a1 a2 = some true := by
  intro A M G L D t a _ _ _ _ _ _ _
  refine ⟨1, ?_⟩
  unfold chargeparklaw07_CableRests.f
  rw [head07, Option.bind_some, refValid07, Option.bind_some]
  cases hv : (cokB A M G L D || czeroB A M G L D) with
  | false => rfl
  | true =>
    rw [if_pos rfl]
    by_cases c : t < A
    · rw [decide_eq_true c]; rfl
    rw [decide_eq_false c]
    simp only [chargeparklaw07_CableRests.j0]
    rw [if_neg (by simp)]
    have hk : ∀ c, ∃ r, cable_Next.f A M G L D t c = some r ∧ (r.2 = 0 → wrongB c = false ∧ r.1 = afterI A M G L D t c) := fun c => by
      unfold cable_Next.f
      split
      · rename_i h
        split
        · exact ⟨_, rfl, fun _ => ⟨h.2, rfl⟩⟩
        · exact ⟨_, rfl, fun h => by simp at h⟩
      · exact ⟨_, rfl, fun h => by simp at h⟩
    have hlow : ∀ c, wrongB c = false → A ≤ afterI A M G L D t c := fun c hw => by
      unfold afterI
      split
      · omega
      · rename_i hz
        have hc : CableOK A M G L D := cokB_iff.1 (by simpa [hz] using hv)
        rcases carry_low (t := t) hc (wrong_iff.1 hw).1 with h | h <;> omega
    have hrest : afterI A M G L D t 0 ≤ t := by
      unfold afterI
      split
      · omega
      · rename_i hz
        have hc : CableOK A M G L D := cokB_iff.1 (by simpa [hz] using hv)
        exact carry_rest hc (by omega)
    obtain ⟨r, hr, h1⟩ := hk 0
    obtain ⟨s, hs, h2⟩ := hk a
    rw [hr, hs]
    simp only [Option.bind_some, if_true]
    have hs2 : (if s.2 = 0 then (some (decide (s.1 ≥ A))) else (some true)) = some true := by
      split
      · rename_i e
        obtain ⟨w, q⟩ := h2 e
        rw [q, decide_eq_true (hlow a w)]
      · rfl
    by_cases e : r.2 = 0
    · obtain ⟨w, q⟩ := h1 e
      rw [if_pos e, q, if_pos hrest, if_pos (hlow 0 w)]
      exact hs2
    · rw [if_neg e]
      exact hs2

end Go.Proofs.Ytnbfjdfmpadndaa.Pure
