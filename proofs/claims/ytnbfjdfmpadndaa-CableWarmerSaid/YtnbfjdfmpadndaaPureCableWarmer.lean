/- For any valid cable, two temperatures and two currents, after a tick the one with the greater ones is not cooler; and a cable that is not valid is refused. -/
import Derived.Test.YtnbfjdfmpadndaaPrx22
import Derived.Test.YtnbfjdfmpadndaaPrOpn
import Derived.Test.YtnbfjdfmpadndaaPCable
namespace Go.Proofs.Ytnbfjdfmpadndaa.Pure
open Go.RowKit Go.Proofs.Ytnbfjdfmpadndaa.Pr Go.Proofs.YtnbfjdfmpadndaaW.PrintWords Go.Proofs.YtnbfjdfmpadndaaW.PrintLast

theorem CableWarmer :
    ∀ (a0_0 : Int) (a0_1 : Int) (a0_2 : Int) (a0_3 : Int) (a0_4 : Int) (a1 : Int) (a2 : Int) (a3 : Int) (a4 : Int), (Lit.int .i64 a0_0).wf = true → (Lit.int .i64 a0_1).wf = true → (Lit.int .i64 a0_2).wf = true → (Lit.int .i64 a0_3).wf = true → (Lit.int .i64 a0_4).wf = true → (Lit.int .i64 a1).wf = true → (Lit.int .i64 a2).wf = true → (Lit.int .i64 a3).wf = true → (Lit.int .i64 a4).wf = true → chargeparklaw07_CableWarmer.f a0_0 a0_1 a0_2 a0_3 a0_4 a1 a2 a3 a4 = some true := by
  intro A M G L D a b x y _ _ _ _ _ _ _ _ _
  unfold chargeparklaw07_CableWarmer.f
  rw [head07, Option.bind_some, refValid07]
  have hmn : mn a b ≤ mx a b := by unfold mn mx; split <;> split <;> omega
  have hxy : mn x y ≤ mx x y := by unfold mn mx; split <;> split <;> omega
  generalize mn a b = t at hmn ⊢
  generalize mx a b = t' at hmn ⊢
  generalize mn x y = c at hxy ⊢
  generalize mx x y = c' at hxy ⊢
  cases hv : (cokB A M G L D || czeroB A M G L D) with
  | false =>
    have h1 : ∀ t c, cable_Next.f A M G L D t c = some (0, 1) := fun t c => by
      unfold cable_Next.f cvalidB; rw [hv]; rfl
    rw [h1, h1]
    rfl
  | true =>
    have hk : ∀ t c, ∃ r, cable_Next.f A M G L D t c = some r ∧ (r.2 = 0 → cvalidB A M G L D t = true ∧ wrongB c = false ∧ r.1 = afterI A M G L D t c) := fun t c => by
      unfold cable_Next.f
      split
      · rename_i h
        split
        · exact ⟨_, rfl, fun _ => ⟨h.1, h.2, rfl⟩⟩
        · exact ⟨_, rfl, fun h => by simp at h⟩
      · exact ⟨_, rfl, fun h => by simp at h⟩
    obtain ⟨r, hr, h1⟩ := hk t c
    obtain ⟨s, hs, h2⟩ := hk t' c'
    rw [hr, hs]
    simp only [Option.bind_some, if_true]
    by_cases e1 : r.2 = 0
    · rw [if_pos e1]
      by_cases e2 : s.2 = 0
      · rw [if_pos e2]
        obtain ⟨v1, w1, q1⟩ := h1 e1
        obtain ⟨v2, w2, q2⟩ := h2 e2
        have hle : r.1 ≤ s.1 := by
          rw [q1, q2]
          unfold afterI
          rcases (cvalid_iff.1 v1).1 with hc | hz
          · rw [if_neg (by rw [ok_nz hc]; simp), if_neg (by rw [ok_nz hc]; simp)]
            exact carry_mono hc hmn (wrong_iff.1 w1).1 hxy
          · rw [if_pos hz, if_pos hz]; exact hmn
        rw [decide_eq_true hle]
      · rw [if_neg e2]
    · rw [if_neg e1]

end Go.Proofs.Ytnbfjdfmpadndaa.Pure
