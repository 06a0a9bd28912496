/- For any readings, states and numbers all functions of package chain return what the reference implementation returns (up to 100 readings). -/
import Derived.Test.YtenkffjlpdappaaPrx25
import Derived.Test.YtenkffjlpdappaaPrOpn
import Derived.Test.YtenkffjlpdappaaPChain
import Derived.Test.YtenkffjlpdappaaPChainT
import Derived.Test.YtenkffjlpdappaaPChainRA
namespace Go.Proofs.Ytenkffjlpdappaa.Pure
open Go.RowKit Go.Proofs.Ytenkffjlpdappaa.Pr Go.Proofs.YtenkffjlpdappaaW.PrintWords Go.Proofs.YtenkffjlpdappaaW.PrintLast

theorem append_some (s : Int) (l : List S44) (a b c : Int) : ∃ A e, chain_Append.f s l a b c = some (A, e) ∧ A.length ≤ l.length + 1 := by
  unfold chain_Append.f
  repeat' split
  all_goals exact ⟨_, _, rfl, by simp⟩
theorem energy_some (l : List S44) (a b : Int) : ∃ x e, chain_Energy.f l a b = some (x, e) := by
  unfold chain_Energy.f
  split
  all_goals exact ⟨_, _, rfl⟩
theorem ChainMatchesReference :
    ∀ (a0 : Int) (l1 : List (S44)) (a2_0 : Int) (a2_1 : Int) (a2_2 : Int) (a2_3 : Int) (a2_4 : Int) (a3 : Int) (a4 : Int) (a5 : Int) (a6 : Int) (a7 : Int), (Lit.int .u64 a0).wf = true → l1.length ≤ maxLen → l1.length * 40 ≤ 140737488351232 → (∀ x ∈ l1, Wf44 x) → (Lit.int .i64 a2_0).wf = true → (Lit.int .i64 a2_1).wf = true → (Lit.int .i64 a2_2).wf = true → (Lit.int .i64 a2_3).wf = true → (Lit.int .u64 a2_4).wf = true → (Lit.int .i64 a3).wf = true → (Lit.int .i64 a4).wf = true → (Lit.int .i64 a5).wf = true → (Lit.int .i64 a6).wf = true → (Lit.int .i64 a7).wf = true → ∃ k, chargeparklaw40_ChainMatchesReference.f k a0 l1 a2_0 a2_1 a2_2 a2_3 a2_4 a3 a4 a5 a6 a7 = some true := by
  intro a0 l b0 b1 b2 b3 b4 a3 a4 a5 a6 a7
  intros
  refine ⟨l.length + 140, ?_⟩
  unfold chargeparklaw40_ChainMatchesReference.f
  rw [head40, Option.bind_some]
  by_cases c0 : (l.length : Int) > 100
  · rw [if_pos c0]
  rw [if_neg c0, ref_append a0 l _ a3 a4 a5 (by omega) (by omega), ref_energy l _ a6 a7 (by omega) (by omega)]
  obtain ⟨A, e, hA, hl⟩ := append_some a0 l a3 a4 a5
  obtain ⟨x, f, hE⟩ := energy_some l a6 a7
  obtain ⟨L, hL⟩ : ∃ L, linkF [b0, b1, b2, b3] a0 32 = L := ⟨_, rfl⟩
  have h1 : chain_Link.f a0 b0 b1 b2 b3 b4 = some L := by rw [← hL]; rfl
  have h2 : chargeparkref40_Link.f (l.length + 140) a0 b0 b1 b2 b3 b4 = some L := by rw [← hL]; exact ref_link (l.length + 131) a0 b0 b1 b2 b3 b4
  obtain ⟨c, hc⟩ : ∃ c, chkI a0 l = c := ⟨_, rfl⟩
  have h3 : chain_Check.f a0 l = some c := by rw [← hc]; rfl
  have h4 : chargeparkref40_Check.f (l.length + 140) a0 l = some c := by rw [← hc]; exact ref_check a0 l _ (by omega) (by omega)
  have h5 := Same_self A (l.length + 140) (by omega) (by omega)
  clear hL hc
  rw [hA, hE, h1, h2, h3, h4]
  simp only [Option.bind_some, if_true, h5, beq_self_eq_true]

end Go.Proofs.Ytenkffjlpdappaa.Pure
