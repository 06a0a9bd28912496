/- The reference of the records: what is valid. -/
import Derived.Test.YtenkffjlpdappaaPRecord
import Derived.Test.YtenkffjlpdappaaPrx6
namespace Go.Proofs.Ytenkffjlpdappaa.Pr
open Go.RowKit Go.Proofs.YtenkffjlpdappaaW.PrintWords Go.Proofs.YtenkffjlpdappaaW.PrintLast Go.Proofs.YtenkffjlpdappaaW.PrintMore
set_option linter.unusedVariables false
theorem ref_valid_j0 (k : Nat) (b : Bool) (a0 a1 a2 a3 a4 a5 a6 a7 a8 a9 a10 a11 a12 : Int) (hb : b = false ↔ (1 ≤ a0 ∧ a0 ≤ 1000000 ∧ 0 ≤ a1 ∧ a1 ≤ 15 ∧ 1 ≤ a2 ∧ a2 ≤ 1000000)) : chargeparkref41_Valid.j0 (k + 1) b a0 a1 a2 a3 a4 a5 a6 a7 a8 a9 a10 a11 a12 = some (recB a0 a1 a2 a3 a4 a5 a6 a7 a8) := by
  simp only [chargeparkref41_Valid.j0]
  cases b with
  | true => rw [if_pos rfl, recB_no (fun q => by have := hb.2 (by omega); simp at this)]
  | false =>
    have hh := hb.1 rfl
    rw [if_neg (by simp)]
    by_cases h0 : a3 < 0
    · rw [if_pos h0, recB_no (by omega)]
    rw [if_neg h0]
    by_cases h1 : a3 ≥ 8
    · rw [if_pos h1, recB_no (by omega)]
    rw [if_neg h1]
    by_cases h2 : a4 < 0
    · rw [if_pos h2, recB_no (by omega)]
    rw [if_neg h2]
    by_cases h3 : a4 ≥ 8
    · rw [if_pos h3, recB_no (by omega)]
    rw [if_neg h3]
    by_cases h4 : a5 < 1
    · rw [if_pos h4, recB_no (by omega)]
    rw [if_neg h4]
    by_cases h5 : a5 > a6
    · rw [if_pos h5, recB_no (by omega)]
    rw [if_neg h5]
    by_cases h6 : a6 > 64
    · rw [if_pos h6, recB_no (by omega)]
    rw [if_neg h6]
    by_cases g0 : a7 ≥ 0
    rotate_left
    · rw [if_neg g0, recB_no (by omega)]
    rw [if_pos g0]
    by_cases g1 : a7 ≤ 64000000000
    rotate_left
    · rw [if_neg g1, recB_no (by omega)]
    rw [if_pos g1]
    by_cases g2 : a8 ≥ 0
    rotate_left
    · rw [if_neg g2, recB_no (by omega)]
    rw [if_pos g2]
    by_cases g4 : a8 ≤ 1000000000
    · rw [decide_eq_true g4, recB_iff.2 (by omega)]
    · rw [decide_eq_false g4, recB_no (by omega)]
theorem ref_validR (k : Nat) (a0 a1 a2 a3 a4 a5 a6 a7 a8 a9 a10 a11 a12 : Int) : chargeparkref41_Valid.f (k + 1) a0 a1 a2 a3 a4 a5 a6 a7 a8 a9 a10 a11 a12 = some (recB a0 a1 a2 a3 a4 a5 a6 a7 a8) := by
  unfold chargeparkref41_Valid.f
  have T : ∀ b : Bool, (b = false ↔ (1 ≤ a0 ∧ a0 ≤ 1000000 ∧ 0 ≤ a1 ∧ a1 ≤ 15 ∧ 1 ≤ a2 ∧ a2 ≤ 1000000)) → chargeparkref41_Valid.j0 (k + 1) b a0 a1 a2 a3 a4 a5 a6 a7 a8 a9 a10 a11 a12 = some (recB a0 a1 a2 a3 a4 a5 a6 a7 a8) := fun b hb => ref_valid_j0 k b a0 a1 a2 a3 a4 a5 a6 a7 a8 a9 a10 a11 a12 hb
  by_cases h0 : a0 < 1
  · rw [if_pos h0]; exact T true ⟨fun q => by simp at q, fun q => by omega⟩
  rw [if_neg h0]
  by_cases h1 : a0 > 1000000
  · rw [if_pos h1]; exact T true ⟨fun q => by simp at q, fun q => by omega⟩
  rw [if_neg h1]
  by_cases h2 : a2 < 1
  · rw [if_pos h2]; exact T true ⟨fun q => by simp at q, fun q => by omega⟩
  rw [if_neg h2]
  by_cases h3 : a2 > 1000000
  · rw [if_pos h3]; exact T true ⟨fun q => by simp at q, fun q => by omega⟩
  rw [if_neg h3]
  by_cases h4 : a1 < 0
  · rw [if_pos h4]; exact T true ⟨fun q => by simp at q, fun q => by omega⟩
  rw [if_neg h4]
  refine T _ ⟨fun q => ?_, fun q => ?_⟩
  · have := of_decide_eq_false q; omega
  · exact decide_eq_false (by omega)
end Go.Proofs.Ytenkffjlpdappaa.Pr
