/- For any seed, readings and further reading, a chain that was appended to is right, consists of the one before and one reading more with the given numbers, and the one before was right. -/
import Derived.Test.YtenkffjlpdappaaPrx14
import Derived.Test.YtenkffjlpdappaaPrOpn
import Derived.Test.YtenkffjlpdappaaPChain
import Derived.Test.YtenkffjlpdappaaPChainT
namespace Go.Proofs.Ytenkffjlpdappaa.Pure
open Go.RowKit Go.Proofs.Ytenkffjlpdappaa.Pr Go.Proofs.YtenkffjlpdappaaW.PrintWords Go.Proofs.YtenkffjlpdappaaW.PrintLast

theorem ChainAppends :
    ∀ (a0 : Int) (l1 : List (S44)) (a2 : Int) (a3 : Int) (a4 : Int), (Lit.int .u64 a0).wf = true → l1.length ≤ maxLen → l1.length * 40 ≤ 140737488351232 → (∀ x ∈ l1, Wf44 x) → (Lit.int .i64 a2).wf = true → (Lit.int .i64 a3).wf = true → (Lit.int .i64 a4).wf = true → ∃ k, chargeparklaw40_ChainAppends.f k a0 l1 a2 a3 a4 = some true := by
  intro a0 l a2 a3 a4 _ hl1 hl2 _ _ _ _
  refine ⟨l.length + 3, ?_⟩
  unfold chargeparklaw40_ChainAppends.f
  rw [head40, Option.bind_some]
  unfold chain_Append.f
  by_cases g1 : 0 ≤ chkI a0 l
  · rw [if_pos g1, Option.bind_some, if_neg (by simp)]; simp [chargeparklaw40_ChainAppends.j0]
  rw [if_neg g1]
  by_cases g2 : l.length = 64
  · rw [if_pos g2, Option.bind_some, if_neg (by simp)]; simp [chargeparklaw40_ChainAppends.j0]
  rw [if_neg g2]
  cases v : rvalidB a2 ((l.length : Int) + 1) a3 a4 with
  | false => rw [if_pos rfl, Option.bind_some, if_neg (by simp)]; simp [chargeparklaw40_ChainAppends.j0]
  | true =>
    rw [if_neg (by simp)]
    have h64 := chk_len g1
    have hc : chkI a0 l = -1 := by have := chk_range a0 l; omega
    have key : ∀ y : Int, (l.length = 0 ∨ refusedI a2 a3 a4 (rd_T44 l ((l.length : Int) - 1)).f0 (rd_T44 l ((l.length : Int) - 1)).f2 (rd_T44 l ((l.length : Int) - 1)).f3 = 0) →
        y = linkF [a2, (l.length : Int) + 1, a3, a4] (if l.length = 0 then a0 else (rd_T44 l ((l.length : Int) - 1)).f4) 32 →
        chargeparklaw40_ChainAppends.j0 (l.length + 3) a0 l a2 a3 a4 true (l ++ [⟨a2, (l.length : Int) + 1, a3, a4, y⟩]) (decide ((l.length : Int) > 100)) = some true := by
      intro y hr hy
      have hlen : (l ++ [(⟨a2, (l.length : Int) + 1, a3, a4, y⟩ : S44)]).length = l.length + 1 := by simp
      have htake : (l ++ [(⟨a2, (l.length : Int) + 1, a3, a4, y⟩ : S44)]).take l.length = l := by simp
      have hlast : rd_T44 (l ++ [(⟨a2, (l.length : Int) + 1, a3, a4, y⟩ : S44)]) (l.length : Int) = ⟨a2, (l.length : Int) + 1, a3, a4, y⟩ := by
        unfold rd_T44; rw [List.getD_eq_getElem?_getD, Int.toNat_natCast]; simp
      have hprev : l.length ≠ 0 → rd_T44 (l ++ [(⟨a2, (l.length : Int) + 1, a3, a4, y⟩ : S44)]) ((l.length : Int) - 1) = rd_T44 l ((l.length : Int) - 1) := fun hne => by
        rw [show (l.length : Int) - 1 = ((l.length - 1 : Nat) : Int) by omega, ← rd_take (n := l.length) (show l.length - 1 < l.length by omega), htake]
      have hchk : chkI a0 (l ++ [(⟨a2, (l.length : Int) + 1, a3, a4, y⟩ : S44)]) = -1 := by
        have hall := chk_all hc
        rw [stop_eq (s := a0) (m := l.length + 1) (by omega) ?_ ?_ (fun h => by omega), if_pos hlen.symm]
        · intro j hj
          by_cases e : j = l.length
          · subst e
            unfold okAt
            rw [hlast, decide_eq_true (show l.length < 64 by omega), v]
            simp only [Bool.true_and, decide_true, Bool.or_eq_true, decide_eq_true_eq]
            by_cases z : l.length = 0
            · exact .inl z
            · rw [hprev z]; exact .inr (hr.resolve_left z)
          · rw [← ok_take (n := l.length) (show j < l.length by omega), htake]; exact (hall j (by omega)).1
        · intro j hj
          by_cases e : j = l.length
          · subst e
            rw [linkOk_iff, hlast]
            unfold stF
            by_cases z : l.length = 0
            · rw [if_pos z] at hy ⊢; exact hy
            · rw [if_neg z] at hy ⊢; rw [hprev z]; exact hy
          · rw [← link_take (n := l.length) (show j < l.length by omega), htake]; exact (hall j (by omega)).2
      rw [decide_eq_false (by omega)]
      simp only [chargeparklaw40_ChainAppends.j0]
      rw [if_neg (by simp), wrapK (by omega) (by omega), if_pos (by rw [hlen]; omega), if_pos (by omega), if_pos (by rw [hlen]; omega), Int.toNat_natCast, htake, Same_self l _ (by omega) (by omega), Option.bind_some]
      simp only [chargeparklaw40_ChainAppends.j1, Bool.not_true]
      rw [if_neg (by simp), if_pos (by omega), if_pos (by rw [hlen]; omega), hlast]
      simp only [if_true]
      rw [wrapK (by omega) (by omega), if_pos rfl]
      unfold chain_Check.f
      rw [Option.bind_some, hchk, if_pos rfl, Option.bind_some, hc]
      rfl
    by_cases g3 : l.length = 0
    · rw [if_pos g3, Option.bind_some, if_pos rfl]
      exact key _ (.inl g3) (by rw [if_pos g3])
    · rw [if_neg g3]
      by_cases g4 : refusedI a2 a3 a4 (rd_T44 l ((l.length : Int) - 1)).f0 (rd_T44 l ((l.length : Int) - 1)).f2 (rd_T44 l ((l.length : Int) - 1)).f3 = 0
      · rw [if_pos g4, Option.bind_some, if_pos rfl]
        exact key _ (.inr g4) (by rw [if_neg g3])
      · rw [if_neg g4, Option.bind_some, if_neg g4]; simp [chargeparklaw40_ChainAppends.j0]

end Go.Proofs.Ytenkffjlpdappaa.Pure
