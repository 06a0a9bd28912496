/- Two different keys lead to different signatures of every record; and if a record is accepted with some keys, then with exactly one other key the party of this key is named. -/
import Derived.Test.YtenkffjlpdappaaPrx18
import Derived.Test.YtenkffjlpdappaaPrOpn
import Derived.Test.YtenkffjlpdappaaPRecord
namespace Go.Proofs.Ytenkffjlpdappaa.Pure
open Go.RowKit Go.Proofs.Ytenkffjlpdappaa.Pr Go.Proofs.YtenkffjlpdappaaW.PrintWords Go.Proofs.YtenkffjlpdappaaW.PrintLast

theorem RecordKeys :
    ∀ (a0_0 : Int) (a0_1 : Int) (a0_2 : Int) (a0_3 : Int) (a0_4 : Int) (a0_5 : Int) (a0_6 : Int) (a0_7 : Int) (a0_8 : Int) (a0_9 : Int) (a0_10 : Int) (a0_11 : Int) (a0_12 : Int) (a1_0 : Int) (a1_1 : Int) (a1_2 : Int) (a1_3 : Int) (a2 : Int) (a3 : Int), (Lit.int .i64 a0_0).wf = true → (Lit.int .i64 a0_1).wf = true → (Lit.int .i64 a0_2).wf = true → (Lit.int .i64 a0_3).wf = true → (Lit.int .i64 a0_4).wf = true → (Lit.int .i64 a0_5).wf = true → (Lit.int .i64 a0_6).wf = true → (Lit.int .i64 a0_7).wf = true → (Lit.int .i64 a0_8).wf = true → (Lit.int .u64 a0_9).wf = true → (Lit.int .u64 a0_10).wf = true → (Lit.int .u64 a0_11).wf = true → (Lit.int .u64 a0_12).wf = true → (Lit.int .u64 a1_0).wf = true → (Lit.int .u64 a1_1).wf = true → (Lit.int .u64 a1_2).wf = true → (Lit.int .u64 a1_3).wf = true → (Lit.int .u8 a2).wf = true → (Lit.int .u64 a3).wf = true → chargeparklaw41_RecordKeys.f a0_0 a0_1 a0_2 a0_3 a0_4 a0_5 a0_6 a0_7 a0_8 a0_9 a0_10 a0_11 a0_12 a1_0 a1_1 a1_2 a1_3 a2 a3 = some true := by
  intro a0 a1 a2 a3 a4 a5 a6 a7 a8 a9 a10 a11 a12 k0 k1 k2 k3 w key _ _ _ _ _ _ _ _ _ _ _ _ _ h0 h1 h2 h3 hw hk
  unfold chargeparklaw41_RecordKeys.f
  have w8 : 0 ≤ w ∧ w < 256 := by simp [Lit.wf, IntKind.min, IntKind.max, IntKind.signed, IntKind.bits] at hw; omega
  rw [head41, Option.bind_some, wrapK (x := w) (by omega) (by omega)]
  have p0 : 0 ≤ Int.tmod w 4 := Int.tmod_nonneg _ w8.1
  have p1 : Int.tmod w 4 < 4 := Int.tmod_lt_of_pos _ (by omega)
  generalize Int.tmod w 4 = j at p0 p1
  have g0 := W64_of_wf h0
  have g1 := W64_of_wf h1
  have g2 := W64_of_wf h2
  have g3 := W64_of_wf h3
  have gk := W64_of_wf hk
  obtain ⟨c, hc⟩ := check_some a0 a1 a2 a3 a4 a5 a6 a7 a8 a9 a10 a11 a12 k0 k1 k2 k3
  unfold record_Sign.f
  have hj : j = 0 ∨ j = 1 ∨ j = 2 ∨ j = 3 := by omega
  rcases hj with rfl | rfl | rfl | rfl
  · rw [if_pos (by decide)]
    by_cases e : k0 = key
    · rw [if_pos e]
    rw [if_neg e, if_pos rfl, Option.bind_some, Option.bind_some, if_neg (fun q => e (signF_state g0 gk q)), hc, Option.bind_some]
    by_cases z : c = -1
    rotate_left
    · rw [if_neg z]
    subst z
    obtain ⟨hb, e0, e1, e2, e3⟩ := check_ok hc
    have hne : ¬ signF a0 a1 a2 a3 a4 a5 a6 a7 a8 key = a9 := fun q => e (signF_state g0 gk (e0.symm.trans q.symm))
    rw [if_pos rfl, check_yes hb, Option.bind_some]
    unfold recFrom
    rw [if_pos ⟨by decide, hne⟩]
    rfl
  · rw [if_neg (by decide)]; rw [if_pos (by decide)]
    by_cases e : k1 = key
    · rw [if_pos e]
    rw [if_neg e, if_pos rfl, Option.bind_some, Option.bind_some, if_neg (fun q => e (signF_state g1 gk q)), hc, Option.bind_some]
    by_cases z : c = -1
    rotate_left
    · rw [if_neg z]
    subst z
    obtain ⟨hb, e0, e1, e2, e3⟩ := check_ok hc
    have hne : ¬ signF a0 a1 a2 a3 a4 a5 a6 a7 a8 key = a10 := fun q => e (signF_state g1 gk (e1.symm.trans q.symm))
    rw [if_pos rfl, check_yes hb, Option.bind_some]
    unfold recFrom
    rw [if_neg (fun q => q.2 e0.symm), if_pos ⟨by decide, hne⟩]
    rfl
  · rw [if_neg (by decide)]; rw [if_neg (by decide)]; rw [if_pos (by decide)]
    by_cases e : k2 = key
    · rw [if_pos e]
    rw [if_neg e, if_pos rfl, Option.bind_some, Option.bind_some, if_neg (fun q => e (signF_state g2 gk q)), hc, Option.bind_some]
    by_cases z : c = -1
    rotate_left
    · rw [if_neg z]
    subst z
    obtain ⟨hb, e0, e1, e2, e3⟩ := check_ok hc
    have hne : ¬ signF a0 a1 a2 a3 a4 a5 a6 a7 a8 key = a11 := fun q => e (signF_state g2 gk (e2.symm.trans q.symm))
    rw [if_pos rfl, check_yes hb, Option.bind_some]
    unfold recFrom
    rw [if_neg (fun q => q.2 e0.symm), if_neg (fun q => q.2 e1.symm), if_pos ⟨by decide, hne⟩]
    rfl
  · rw [if_neg (by decide)]; rw [if_neg (by decide)]; rw [if_neg (by decide)]; rw [if_pos (by decide)]
    by_cases e : k3 = key
    · rw [if_pos e]
    rw [if_neg e, if_pos rfl, Option.bind_some, Option.bind_some, if_neg (fun q => e (signF_state g3 gk q)), hc, Option.bind_some]
    by_cases z : c = -1
    rotate_left
    · rw [if_neg z]
    subst z
    obtain ⟨hb, e0, e1, e2, e3⟩ := check_ok hc
    have hne : ¬ signF a0 a1 a2 a3 a4 a5 a6 a7 a8 key = a12 := fun q => e (signF_state g3 gk (e3.symm.trans q.symm))
    rw [if_pos rfl, check_yes hb, Option.bind_some]
    unfold recFrom
    rw [if_neg (fun q => q.2 e0.symm), if_neg (fun q => q.2 e1.symm), if_neg (fun q => q.2 e2.symm), if_pos ⟨by decide, hne⟩]
    rfl

end Go.Proofs.Ytenkffjlpdappaa.Pure
