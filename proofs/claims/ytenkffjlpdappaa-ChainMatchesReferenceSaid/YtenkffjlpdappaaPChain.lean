/- Chains of readings, in plain words: the first reading that is wrong. -/
import Derived.Test.YtenkffjlpdappaaPLink
import Derived.Test.YtenkffjlpdappaaHChainA
import Derived.Test.YtenkffjlpdappaaHChainE
import Derived.Test.YtenkffjlpdappaaHChange40
import Derived.Test.YtenkffjlpdappaaPrx22
namespace Go.Proofs.Ytenkffjlpdappaa.Pr
open Go.RowKit Go.Proofs.YtenkffjlpdappaaW.PrintWords Go.Proofs.YtenkffjlpdappaaW.PrintLast Go.Proofs.YtenkffjlpdappaaW.PrintMore
set_option linter.unusedVariables false

theorem head40 : chargeparklaw40_head.f = some true := by kernel_rfl
theorem chk_range (s : Int) (l : List S44) : chkI s l = -1 ∨ (0 ≤ chkI s l ∧ chkI s l < l.length) := by
  have hs := firstBad_spec (fun k => okAt l k && linkOkAt s l k) l.length 0
  unfold chkI
  by_cases e : firstBad (fun k => okAt l k && linkOkAt s l k) 0 l.length = l.length
  · rw [if_pos e]; exact .inl rfl
  · rw [if_neg e]; exact .inr (by omega)
theorem chk_all {s : Int} {l : List S44} (h : chkI s l = -1) : ∀ j, j < l.length → okAt l j = true ∧ linkOkAt s l j = true := by
  have hs := firstBad_spec (fun k => okAt l k && linkOkAt s l k) l.length 0
  unfold chkI at h
  by_cases e : firstBad (fun k => okAt l k && linkOkAt s l k) 0 l.length = l.length
  · intro j hj
    have := hs.2.2.1 j (Nat.zero_le _) (by omega)
    simpa [Bool.and_eq_true] using this
  · rw [if_neg e] at h; omega
theorem linkOk_iff {s : Int} {l : List S44} {k : Nat} : linkOkAt s l k = true ↔ (rd_T44 l k).f4 = linkF [(rd_T44 l k).f0, (rd_T44 l k).f1, (rd_T44 l k).f2, (rd_T44 l k).f3] (stF s l k) 32 := by
  unfold linkOkAt; rw [decide_eq_true_eq]
end Go.Proofs.Ytenkffjlpdappaa.Pr
