/- Records, in plain words. -/
import Derived.Test.YtenkffjlpdappaaPLink
import Derived.Test.YtenkffjlpdappaaHRecordC
import Derived.Test.YtenkffjlpdappaaHRecordK
import Derived.Test.YtenkffjlpdappaaHChange41
import Derived.Test.YtenkffjlpdappaaPrx3
import Derived.Test.YtenkffjlpdappaaPrx4
namespace Go.Proofs.Ytenkffjlpdappaa.Pr
open Go.RowKit Go.Proofs.YtenkffjlpdappaaW.PrintWords Go.Proofs.YtenkffjlpdappaaW.PrintLast Go.Proofs.YtenkffjlpdappaaW.PrintMore
set_option linter.unusedVariables false
theorem head41 : chargeparklaw41_head.f = some true := by kernel_rfl
/-- Is a record valid? -/
def recB (a0 a1 a2 a3 a4 a5 a6 a7 a8 : Int) : Bool := decide (1 ≤ a0 ∧ a0 ≤ 1000000 ∧ 0 ≤ a1 ∧ a1 ≤ 15 ∧ 1 ≤ a2 ∧ a2 ≤ 1000000 ∧ 0 ≤ a3 ∧ a3 ≤ 7 ∧ 0 ≤ a4 ∧ a4 ≤ 7 ∧ 1 ≤ a5 ∧ a5 ≤ a6 ∧ a6 ≤ 64 ∧ 0 ≤ a7 ∧ a7 ≤ 64000000000 ∧ 0 ≤ a8 ∧ a8 ≤ 1000000000)
theorem recB_iff {a0 a1 a2 a3 a4 a5 a6 a7 a8 : Int} : recB a0 a1 a2 a3 a4 a5 a6 a7 a8 = true ↔ (1 ≤ a0 ∧ a0 ≤ 1000000 ∧ 0 ≤ a1 ∧ a1 ≤ 15 ∧ 1 ≤ a2 ∧ a2 ≤ 1000000 ∧ 0 ≤ a3 ∧ a3 ≤ 7 ∧ 0 ≤ a4 ∧ a4 ≤ 7 ∧ 1 ≤ a5 ∧ a5 ≤ a6 ∧ a6 ≤ 64 ∧ 0 ≤ a7 ∧ a7 ≤ 64000000000 ∧ 0 ≤ a8 ∧ a8 ≤ 1000000000) := by unfold recB; rw [decide_eq_true_eq]
theorem recB_no {a0 a1 a2 a3 a4 a5 a6 a7 a8 : Int} (h : ¬ (1 ≤ a0 ∧ a0 ≤ 1000000 ∧ 0 ≤ a1 ∧ a1 ≤ 15 ∧ 1 ≤ a2 ∧ a2 ≤ 1000000 ∧ 0 ≤ a3 ∧ a3 ≤ 7 ∧ 0 ≤ a4 ∧ a4 ≤ 7 ∧ 1 ≤ a5 ∧ a5 ≤ a6 ∧ a6 ≤ 64 ∧ 0 ≤ a7 ∧ a7 ≤ 64000000000 ∧ 0 ≤ a8 ∧ a8 ≤ 1000000000)) : recB a0 a1 a2 a3 a4 a5 a6 a7 a8 = false := by
  cases q : recB a0 a1 a2 a3 a4 a5 a6 a7 a8 with
  | false => rfl
  | true => exact absurd (recB_iff.1 q) h
theorem between_eq (n l h : Int) : record_between.f n l h = some (decide (l ≤ n ∧ n ≤ h)) := by
  unfold record_between.f
  by_cases c : l ≤ n
  · rw [if_pos c]; simp [c]
  · rw [if_neg c]; simp [c]
theorem isRec_f (a0 a1 a2 a3 a4 a5 a6 a7 a8 a9 a10 a11 a12 : Int) : record_isRecord.f a0 a1 a2 a3 a4 a5 a6 a7 a8 a9 a10 a11 a12 = some (recB a0 a1 a2 a3 a4 a5 a6 a7 a8) := by
  unfold record_isRecord.f
  simp only [between_eq, Option.bind_some, decide_eq_true_eq]
  by_cases h0 : 1 ≤ a0 ∧ a0 ≤ 1000000
  rotate_left
  · rw [if_neg h0, recB_no (by omega)]
  rw [if_pos h0]
  by_cases h1 : 0 ≤ a1 ∧ a1 ≤ 15
  rotate_left
  · rw [if_neg h1, recB_no (by omega)]
  rw [if_pos h1]
  by_cases h2 : 1 ≤ a2 ∧ a2 ≤ 1000000
  rotate_left
  · rw [if_neg h2, recB_no (by omega)]
  rw [if_pos h2]
  by_cases h3 : 0 ≤ a3 ∧ a3 ≤ 7
  rotate_left
  · rw [if_neg h3, recB_no (by omega)]
  rw [if_pos h3]
  by_cases h4 : 0 ≤ a4 ∧ a4 ≤ 7
  rotate_left
  · rw [if_neg h4, recB_no (by omega)]
  rw [if_pos h4]
  by_cases h5 : 1 ≤ a5 ∧ a5 ≤ a6
  rotate_left
  · rw [if_neg h5, recB_no (by omega)]
  rw [if_pos h5]
  by_cases h6 : a6 ≤ 64
  rotate_left
  · rw [if_neg h6, recB_no (by omega)]
  rw [if_pos h6]
  by_cases h7 : 0 ≤ a7 ∧ a7 ≤ 64000000000
  rotate_left
  · rw [if_neg h7, recB_no (by omega)]
  rw [if_pos h7]
  congr 1
  by_cases h8 : 0 ≤ a8 ∧ a8 ≤ 1000000000
  · rw [decide_eq_true h8, recB_iff.2 (by omega)]
  · rw [decide_eq_false h8, recB_no (by omega)]
/-- A record that is accepted. -/
theorem check_ok {a0 a1 a2 a3 a4 a5 a6 a7 a8 a9 a10 a11 a12 k0 k1 k2 k3 : Int} (h : record_Check.f a0 a1 a2 a3 a4 a5 a6 a7 a8 a9 a10 a11 a12 k0 k1 k2 k3 = some (-1)) : recB a0 a1 a2 a3 a4 a5 a6 a7 a8 = true ∧ a9 = signF a0 a1 a2 a3 a4 a5 a6 a7 a8 k0 ∧ a10 = signF a0 a1 a2 a3 a4 a5 a6 a7 a8 k1 ∧ a11 = signF a0 a1 a2 a3 a4 a5 a6 a7 a8 k2 ∧ a12 = signF a0 a1 a2 a3 a4 a5 a6 a7 a8 k3 := by
  unfold record_Check.f at h
  rw [isRec_f, Option.bind_some] at h
  cases q : recB a0 a1 a2 a3 a4 a5 a6 a7 a8 with
  | false => rw [q] at h; simp at h
  | true =>
    rw [q, if_pos rfl] at h
    have h := Option.some.inj h
    unfold recFrom at h
    refine ⟨rfl, ?_⟩
    by_cases e0 : signF a0 a1 a2 a3 a4 a5 a6 a7 a8 k0 = a9
    rotate_left
    · rw [if_pos ⟨by decide, e0⟩] at h; omega
    rw [if_neg (fun q => q.2 e0)] at h
    by_cases e1 : signF a0 a1 a2 a3 a4 a5 a6 a7 a8 k1 = a10
    rotate_left
    · rw [if_pos ⟨by decide, e1⟩] at h; omega
    rw [if_neg (fun q => q.2 e1)] at h
    by_cases e2 : signF a0 a1 a2 a3 a4 a5 a6 a7 a8 k2 = a11
    rotate_left
    · rw [if_pos ⟨by decide, e2⟩] at h; omega
    rw [if_neg (fun q => q.2 e2)] at h
    by_cases e3 : signF a0 a1 a2 a3 a4 a5 a6 a7 a8 k3 = a12
    rotate_left
    · rw [if_pos ⟨by decide, e3⟩] at h; omega
    exact ⟨e0.symm, e1.symm, e2.symm, e3.symm⟩
theorem check_yes {a0 a1 a2 a3 a4 a5 a6 a7 a8 a9 a10 a11 a12 k0 k1 k2 k3 : Int} (h : recB a0 a1 a2 a3 a4 a5 a6 a7 a8 = true) : record_Check.f a0 a1 a2 a3 a4 a5 a6 a7 a8 a9 a10 a11 a12 k0 k1 k2 k3 = some (recFrom (signF a0 a1 a2 a3 a4 a5 a6 a7 a8 k0) (signF a0 a1 a2 a3 a4 a5 a6 a7 a8 k1) (signF a0 a1 a2 a3 a4 a5 a6 a7 a8 k2) (signF a0 a1 a2 a3 a4 a5 a6 a7 a8 k3) a9 a10 a11 a12 0) := by
  unfold record_Check.f
  rw [isRec_f, Option.bind_some, h, if_pos rfl]
theorem check_no {a0 a1 a2 a3 a4 a5 a6 a7 a8 a9 a10 a11 a12 k0 k1 k2 k3 : Int} (h : recB a0 a1 a2 a3 a4 a5 a6 a7 a8 = false) : record_Check.f a0 a1 a2 a3 a4 a5 a6 a7 a8 a9 a10 a11 a12 k0 k1 k2 k3 = some 0 := by
  unfold record_Check.f
  rw [isRec_f, Option.bind_some, h, if_neg (by simp)]
theorem check_some (a0 a1 a2 a3 a4 a5 a6 a7 a8 a9 a10 a11 a12 k0 k1 k2 k3 : Int) : ∃ c, record_Check.f a0 a1 a2 a3 a4 a5 a6 a7 a8 a9 a10 a11 a12 k0 k1 k2 k3 = some c := by
  unfold record_Check.f
  rw [isRec_f, Option.bind_some]
  split
  all_goals exact ⟨_, rfl⟩
theorem signF_w {a0 a1 a2 a3 a4 a5 a6 a7 a8 key : Int} (h : W64 key) : W64 (signF a0 a1 a2 a3 a4 a5 a6 a7 a8 key) := linkF_w _ (linkF_w _ (linkF_w _ h 32) 32) 32
theorem signF_state {a0 a1 a2 a3 a4 a5 a6 a7 a8 x y : Int} (hx : W64 x) (hy : W64 y) (h : signF a0 a1 a2 a3 a4 a5 a6 a7 a8 x = signF a0 a1 a2 a3 a4 a5 a6 a7 a8 y) : x = y := by
  unfold signF at h
  exact linkF_state _ hx hy 32 (linkF_state _ (linkF_w _ hx 32) (linkF_w _ hy 32) 32 (linkF_state _ (linkF_w _ (linkF_w _ hx 32) 32) (linkF_w _ (linkF_w _ hy 32) 32) 32 h))
end Go.Proofs.Ytenkffjlpdappaa.Pr
