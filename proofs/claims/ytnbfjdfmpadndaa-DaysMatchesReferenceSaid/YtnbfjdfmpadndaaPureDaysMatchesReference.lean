/- For all calendars, minutes and days, Valid, Local and Type of package days return what the reference implementation returns (up to 30 changes and 60 holidays), and the fixed examples hold. -/
import Derived.Test.YtnbfjdfmpadndaaPrx8
import Derived.Test.YtnbfjdfmpadndaaPrOpn
import Derived.Test.YtnbfjdfmpadndaaPDays
namespace Go.Proofs.Ytnbfjdfmpadndaa.Pure
open Go.RowKit Go.Proofs.Ytnbfjdfmpadndaa.Pr Go.Proofs.YtnbfjdfmpadndaaW.PrintWords Go.Proofs.YtnbfjdfmpadndaaW.PrintLast

theorem DaysMatchesReference :
    ∀ (a0_0 : Int) (l0_1 : List (S37)) (l0_2 : List Int) (a1 : Int) (a2 : Int), (Lit.int .i64 a0_0).wf = true → l0_1.length ≤ maxLen → l0_1.length * 16 ≤ 140737488351232 → (∀ x ∈ l0_1, Wf37 x) → l0_2.length ≤ maxLen → l0_2.length * 8 ≤ 140737488351232 → (∀ x ∈ l0_2, (Lit.int .i64 x).wf = true) → (Lit.int .i64 a1).wf = true → (Lit.int .i64 a2).wf = true → ∃ k, chargeparklaw26_DaysMatchesReference.f k a0_0 l0_1 l0_2 a1 a2 = some true := by
  intro o cs hs m d _ _ _ _ _ _ _ _ _
  refine ⟨70, ?_⟩
  unfold chargeparklaw26_DaysMatchesReference.f
  rw [head26 69, Option.bind_some, refFew, Option.bind_some]
  split
  · obtain ⟨x, hx⟩ : ∃ x, days_Local.f o cs hs m = some x := by unfold days_Local.f; split <;> exact ⟨_, rfl⟩
    obtain ⟨y, hy⟩ : ∃ y, days_Type.f o cs hs d = some y := by unfold days_Type.f; split <;> exact ⟨_, rfl⟩
    rw [refLocal _ _ _ _ _ (by omega), refType _ _ _ _ _ (by omega), hx, hy, refValid _ _ _ _ (by omega)]
    simp only [Option.bind_some, days_Valid.f, beq_self_eq_true, if_true]
  · rfl

end Go.Proofs.Ytnbfjdfmpadndaa.Pure
