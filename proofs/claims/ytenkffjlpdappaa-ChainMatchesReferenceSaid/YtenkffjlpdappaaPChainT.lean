/- Beginnings of chains, in plain words; a chain is the same as itself. -/
import Derived.Test.YtenkffjlpdappaaPChain
import Derived.Test.YtenkffjlpdappaaPrx24
namespace Go.Proofs.Ytenkffjlpdappaa.Pr
open Go.RowKit Go.Proofs.YtenkffjlpdappaaW.PrintWords Go.Proofs.YtenkffjlpdappaaW.PrintLast Go.Proofs.YtenkffjlpdappaaW.PrintMore
set_option linter.unusedVariables false
theorem rd_take {l : List S44} {n k : Nat} (h : k < n) : rd_T44 (l.take n) (k : Int) = rd_T44 l k := by
  unfold rd_T44
  rw [List.getD_eq_getElem?_getD, List.getD_eq_getElem?_getD, Int.toNat_natCast, List.getElem?_take_of_lt h]
theorem ok_take {l : List S44} {n k : Nat} (h : k < n) : okAt (l.take n) k = okAt l k := by
  unfold okAt
  rw [rd_take h]
  by_cases z : k = 0
  · rw [decide_eq_true z]; simp
  · rw [show (k : Int) - 1 = ((k - 1 : Nat) : Int) by omega, rd_take (show k - 1 < n by omega)]
theorem link_take {s : Int} {l : List S44} {n k : Nat} (h : k < n) : linkOkAt s (l.take n) k = linkOkAt s l k := by
  unfold linkOkAt
  rw [rd_take h]
  unfold stF
  by_cases z : k = 0
  · rw [if_pos z, if_pos z]
  · rw [if_neg z, if_neg z, show (k : Int) - 1 = ((k - 1 : Nat) : Int) by omega, rd_take (show k - 1 < n by omega)]
theorem Same_l0 (l : List S44) (hl : l.length ≤ 1000000) : ∀ (k : Nat) (i : Nat), l.length < i + k → i ≤ l.length → chargeparkref40_Same.l0 k l l (i : Int) = some true
  | 0, i, h, h1 => by omega
  | k + 1, i, h, h1 => by
    simp only [chargeparkref40_Same.l0]
    by_cases c : (i : Int) < (l.length : Int)
    · rw [if_pos c, if_pos (by omega), if_pos c, if_neg (by simp), wrapK (by omega) (by omega)]
      exact Same_l0 l hl k (i + 1) (by omega) (by omega)
    · rw [if_neg c]
theorem Same_self (l : List S44) (k : Nat) (hl : l.length ≤ 1000000) (hk : l.length < k) : chargeparkref40_Same.f k l l = some true := by
  unfold chargeparkref40_Same.f
  rw [if_pos rfl]
  exact Same_l0 l hl k 0 (by omega) (by omega)
end Go.Proofs.Ytenkffjlpdappaa.Pr
