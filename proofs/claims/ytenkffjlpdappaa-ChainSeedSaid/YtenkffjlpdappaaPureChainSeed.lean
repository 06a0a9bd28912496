/- For any chain with a reading that is right for a seed, for any other seed its first reading is wrong. -/
import Derived.Test.YtenkffjlpdappaaPrx16
import Derived.Test.YtenkffjlpdappaaPrOpn
import Derived.Test.YtenkffjlpdappaaPChain
namespace Go.Proofs.Ytenkffjlpdappaa.Pure
open Go.RowKit Go.Proofs.Ytenkffjlpdappaa.Pr Go.Proofs.YtenkffjlpdappaaW.PrintWords Go.Proofs.YtenkffjlpdappaaW.PrintLast

theorem ChainSeed :
    ∀ (a0 : Int) (a1 : Int) (l2 : List (S44)), (Lit.int .u64 a0).wf = true → (Lit.int .u64 a1).wf = true → l2.length ≤ maxLen → l2.length * 40 ≤ 140737488351232 → (∀ x ∈ l2, Wf44 x) → chargeparklaw40_ChainSeed.f a0 a1 l2 = some true := by
  intro a b l ha hb _ _ _
  unfold chargeparklaw40_ChainSeed.f
  rw [head40, Option.bind_some]
  by_cases c0 : (l.length : Int) = 0
  · rw [if_pos c0]
  rw [if_neg c0]
  by_cases c1 : (l.length : Int) > 64
  · rw [if_pos c1]
  rw [if_neg c1]
  by_cases c2 : a = b
  · rw [if_pos c2]
  rw [if_neg c2]
  unfold chain_Check.f
  rw [Option.bind_some]
  by_cases c3 : chkI a l = -1
  · rw [if_pos c3, if_pos rfl, Option.bind_some]
    have h0 := (chk_all c3 0 (by omega)).2
    have hb0 : linkOkAt b l 0 = false := by
      cases q : linkOkAt b l 0 with
      | false => rfl
      | true =>
        rw [linkOk_iff] at h0 q
        exact absurd (linkF_state _ (W64_of_wf ha) (W64_of_wf hb) 32 (h0.symm.trans q)) c2
    rw [stop_eq (s := b) (l := l) (m := 0) (Nat.zero_le _) (fun j hj => absurd hj (Nat.not_lt_zero _)) (fun j hj => absurd hj (Nat.not_lt_zero _)) (fun _ => by rw [hb0, Bool.and_false]), if_neg (by omega)]
    rfl
  · rw [if_neg c3]

end Go.Proofs.Ytenkffjlpdappaa.Pure
