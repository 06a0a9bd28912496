/- The local minute of a minute, less the minute, is the offset of the last change that is not later, or that of the calendar if there is none: for every calendar that the reference finds valid (up to 30 changes and 60 holidays). -/
import Derived.Test.YtnbfjdfmpadndaaPrx11
import Derived.Test.YtnbfjdfmpadndaaPrOpn
import Derived.Test.YtnbfjdfmpadndaaPDays
namespace Go.Proofs.Ytnbfjdfmpadndaa.Pure
open Go.RowKit Go.Proofs.Ytnbfjdfmpadndaa.Pr Go.Proofs.YtnbfjdfmpadndaaW.PrintWords Go.Proofs.YtnbfjdfmpadndaaW.PrintLast

theorem offsets_l0 (up : Bool) (m o : Int) (cs : List S37) (hs : List Int) (hv : dvalidB o cs hs = true) (m0 : 0 ≤ m) (m1 : m ≤ 52560000) : ∀ (d k : Nat) (i n : Int), 0 ≤ i → i ≤ cs.length → (cs.length : Int) - i = d → d < k → offAt m n (cs.drop i.toNat) = offAt m o cs →
    chargeparklaw26_DaysOffsets.l0 k up m n cs cs.length i o cs hs = some up := by
  intro d
  have hl := (dvalidB_iff.1 hv).2.1
  induction d with
  | zero =>
    intro k i n h0 h1 hd hk ho
    obtain ⟨k, rfl⟩ : ∃ m, k = m + 1 := ⟨k - 1, by omega⟩
    have hr := off_range (m := m) hv
    rw [List.drop_eq_nil_of_le (by omega)] at ho
    simp only [chargeparklaw26_DaysOffsets.l0]
    rw [if_neg (by omega), local26 hv m0 m1, Option.bind_some]
    rw [← ho] at hr ⊢
    simp only [offAt] at hr ⊢
    rw [wrap_id (by omega) (by omega), show m + n - m = n by omega, beq_self_eq_true]
    cases up <;> rfl
  | succ d ih =>
    intro k i n h0 h1 hd hk ho
    obtain ⟨k, rfl⟩ : ∃ m, k = m + 1 := ⟨k - 1, by omega⟩
    have hlt : i < (cs.length : Int) := by omega
    rw [drop_rd h0 hlt, offAt] at ho
    simp only [chargeparklaw26_DaysOffsets.l0]
    rw [if_pos hlt, if_pos h0, if_pos hlt, wrap_id (x := i + 1) (by omega) (by omega)]
    by_cases c : (rd_T37 cs i).f0 ≤ m
    · rw [if_pos c] at ho ⊢
      exact ih k (i + 1) _ (by omega) (by omega) (by omega) (by omega) ho
    · rw [if_neg c] at ho ⊢
      exact ih k (i + 1) _ (by omega) (by omega) (by omega) (by omega) ho
theorem DaysOffsets :
    ∀ (a0_0 : Int) (l0_1 : List (S37)) (l0_2 : List Int) (a1 : Int), (Lit.int .i64 a0_0).wf = true → l0_1.length ≤ maxLen → l0_1.length * 16 ≤ 140737488351232 → (∀ x ∈ l0_1, Wf37 x) → l0_2.length ≤ maxLen → l0_2.length * 8 ≤ 140737488351232 → (∀ x ∈ l0_2, (Lit.int .i64 x).wf = true) → (Lit.int .u32 a1).wf = true → ∃ k, chargeparklaw26_DaysOffsets.f k a0_0 l0_1 l0_2 a1 = some true := by
  intro o cs hs n _ _ _ _ _ _ _ hn
  refine ⟨70, ?_⟩
  obtain ⟨m, hm, m0, m1⟩ := minute26 hn
  unfold chargeparklaw26_DaysOffsets.f
  rw [head26 69, Option.bind_some, usable26 _ _ _ _ (by omega), Option.bind_some]
  cases hv : dvalidB o cs hs with
  | false => rfl
  | true =>
    rw [if_pos rfl, hm, Option.bind_some]
    have hl := (dvalidB_iff.1 hv).2.1
    exact offsets_l0 true m o cs hs hv m0 (by omega) cs.length 70 0 o (by omega) (by omega) (by omega) (by omega) rfl

end Go.Proofs.Ytnbfjdfmpadndaa.Pure
