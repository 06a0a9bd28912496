/- A record that was closed is accepted with the same keys, has the energy between its readings, and else what it was given; it is closed if and only if all else is valid and its readings are there, and otherwise it is zero (up to 80 readings). -/
import Derived.Test.YtenkffjlpdappaaPrx13
import Derived.Test.YtenkffjlpdappaaPrOpn
import Derived.Test.YtenkffjlpdappaaPRecord
import Derived.Test.YtenkffjlpdappaaPRecordV
import Derived.Test.YtenkffjlpdappaaPChainR
namespace Go.Proofs.Ytenkffjlpdappaa.Pure
open Go.RowKit Go.Proofs.Ytenkffjlpdappaa.Pr Go.Proofs.YtenkffjlpdappaaW.PrintWords Go.Proofs.YtenkffjlpdappaaW.PrintLast

theorem dI_pos {l : List S44} {k : Nat} (h0 : 0 < k) (h : okAt l k = true) : 0 ≤ dI l k := by
  unfold dI
  split
  · rename_i hs
    unfold okAt at h
    simp only [Bool.and_eq_true, Bool.or_eq_true, decide_eq_true_eq] at h
    have hr := h.2.2.2.resolve_left (by omega)
    unfold refusedI at hr
    by_cases c : (rd_T44 l k).f2 < (rd_T44 l ((k : Int) - 1)).f2 ∨ (rd_T44 l k).f0 = (rd_T44 l ((k : Int) - 1)).f0 ∧ (rd_T44 l k).f3 < (rd_T44 l ((k : Int) - 1)).f3
    · rw [if_pos c] at hr; omega
    · have : ¬ (rd_T44 l k).f3 < (rd_T44 l ((k : Int) - 1)).f3 := fun q => c (.inr ⟨hs, q⟩)
      omega
  · omega
theorem en_range {l : List S44} (a b : Int) (h : ∀ j, j < l.length → okAt l j = true) : ∀ n : Nat, n ≤ l.length → 0 ≤ enI l a b n ∧ enI l a b n ≤ 1000000000 * (n : Int)
  | 0, _ => ⟨Int.le_refl _, by simp [enI]⟩
  | n + 1, hn => by
    have ih := en_range a b h n (by omega)
    unfold enI
    split
    · rename_i c
      have h1 := dI_pos c.1 (h n (by omega))
      have h2 := (dI_range c.1 (fun j hj => h j (by omega))).2
      omega
    · omega
theorem ord_len {l : List S44} (h : ordAll l = true) : l.length ≤ 64 := by
  by_cases z : l.length ≤ 64
  · exact z
  · have := ordAll_ok' h 64 (by omega)
    unfold okAt at this
    simp at this
theorem close_yes {l : List S44} {a0 a1 a2 a3 a4 a5 a6 a7 a8 a9 a10 a11 a12 k0 k1 k2 k3 n : Int} (h : recB a0 a1 a2 a3 a4 a5 a6 0 a8 = true) (he : chain_Energy.f l a5 a6 = some (n, 0)) : record_Close.f a0 a1 a2 a3 a4 a5 a6 a7 a8 a9 a10 a11 a12 l k0 k1 k2 k3 = some (a0, a1, a2, a3, a4, a5, a6, n, a8, signF a0 a1 a2 a3 a4 a5 a6 n a8 k0, signF a0 a1 a2 a3 a4 a5 a6 n a8 k1, signF a0 a1 a2 a3 a4 a5 a6 n a8 k2, signF a0 a1 a2 a3 a4 a5 a6 n a8 k3, 0) := by
  unfold record_Close.f
  rw [isRec_f, Option.bind_some, h, if_pos rfl, he, Option.bind_some, if_pos rfl]
theorem close_energy {l : List S44} {a0 a1 a2 a3 a4 a5 a6 a7 a8 a9 a10 a11 a12 k0 k1 k2 k3 n e : Int} (h : recB a0 a1 a2 a3 a4 a5 a6 0 a8 = true) (he : chain_Energy.f l a5 a6 = some (n, e)) (hz : e ≠ 0) : record_Close.f a0 a1 a2 a3 a4 a5 a6 a7 a8 a9 a10 a11 a12 l k0 k1 k2 k3 = some (0, 0, 0, 0, 0, 0, 0, 0, 0, 0, 0, 0, 0, e) := by
  unfold record_Close.f
  rw [isRec_f, Option.bind_some, h, if_pos rfl, he, Option.bind_some, if_neg hz]
theorem close_arg {l : List S44} {a0 a1 a2 a3 a4 a5 a6 a7 a8 a9 a10 a11 a12 k0 k1 k2 k3 : Int} (h : recB a0 a1 a2 a3 a4 a5 a6 0 a8 = false) : record_Close.f a0 a1 a2 a3 a4 a5 a6 a7 a8 a9 a10 a11 a12 l k0 k1 k2 k3 = some (0, 0, 0, 0, 0, 0, 0, 0, 0, 0, 0, 0, 0, 1) := by
  unfold record_Close.f
  rw [isRec_f, Option.bind_some, h, if_neg (by simp)]
theorem RecordClosed :
    ∀ (a0_0 : Int) (a0_1 : Int) (a0_2 : Int) (a0_3 : Int) (a0_4 : Int) (a0_5 : Int) (a0_6 : Int) (a0_7 : Int) (a0_8 : Int) (a0_9 : Int) (a0_10 : Int) (a0_11 : Int) (a0_12 : Int) (l1 : List (S44)) (a2_0 : Int) (a2_1 : Int) (a2_2 : Int) (a2_3 : Int), (Lit.int .i64 a0_0).wf = true → (Lit.int .i64 a0_1).wf = true → (Lit.int .i64 a0_2).wf = true → (Lit.int .i64 a0_3).wf = true → (Lit.int .i64 a0_4).wf = true → (Lit.int .i64 a0_5).wf = true → (Lit.int .i64 a0_6).wf = true → (Lit.int .i64 a0_7).wf = true → (Lit.int .i64 a0_8).wf = true → (Lit.int .u64 a0_9).wf = true → (Lit.int .u64 a0_10).wf = true → (Lit.int .u64 a0_11).wf = true → (Lit.int .u64 a0_12).wf = true → l1.length ≤ maxLen → l1.length * 40 ≤ 140737488351232 → (∀ x ∈ l1, Wf44 x) → (Lit.int .u64 a2_0).wf = true → (Lit.int .u64 a2_1).wf = true → (Lit.int .u64 a2_2).wf = true → (Lit.int .u64 a2_3).wf = true → ∃ k, chargeparklaw41_RecordClosed.f k a0_0 a0_1 a0_2 a0_3 a0_4 a0_5 a0_6 a0_7 a0_8 a0_9 a0_10 a0_11 a0_12 l1 a2_0 a2_1 a2_2 a2_3 = some true := by
  intro a0 a1 a2 a3 a4 a5 a6 a7 a8 a9 a10 a11 a12 l k0 k1 k2 k3
  intros
  refine ⟨1, ?_⟩
  unfold chargeparklaw41_RecordClosed.f
  rw [head41, Option.bind_some]
  by_cases c0 : (l.length : Int) > 80
  · rw [if_pos c0]
  rw [if_neg c0]
  have hv : chargeparkref41_Valid.f 1 a0 a1 a2 a3 a4 a5 a6 0 a8 a9 a10 a11 a12 = some (recB a0 a1 a2 a3 a4 a5 a6 0 a8) := ref_validR 0 a0 a1 a2 a3 a4 a5 a6 0 a8 a9 a10 a11 a12
  obtain ⟨n, e, he⟩ : ∃ n e, chain_Energy.f l a5 a6 = some (n, e) := by
    unfold chain_Energy.f
    split
    all_goals exact ⟨_, _, rfl⟩
  cases hb : recB a0 a1 a2 a3 a4 a5 a6 0 a8 with
  | false =>
    rw [close_arg hb, he, Option.bind_some, Option.bind_some, hv, hb, Option.bind_some]
    simp
  | true =>
    by_cases z : e = 0
    rotate_left
    · rw [close_energy hb he z, he, Option.bind_some, Option.bind_some, hv, hb, Option.bind_some, if_pos rfl, if_neg z]
      simp [z]
    subst z
    rw [close_yes hb he, he, Option.bind_some, Option.bind_some, hv, hb, Option.bind_some, if_pos rfl, if_pos rfl, if_pos rfl, if_pos rfl]
    simp only [beq_self_eq_true, Bool.and_self, if_true]
    have hn : 0 ≤ n ∧ n ≤ 64000000000 := by
      unfold chain_Energy.f at he
      by_cases o : ordAll l = true ∧ 1 ≤ a5 ∧ a5 ≤ a6 ∧ a6 ≤ (l.length : Int)
      · rw [if_pos o] at he
        simp only [Option.some.injEq, Prod.mk.injEq, and_true] at he
        have h1 := en_range a5 a6 (ordAll_ok' o.1) l.length (Nat.le_refl _)
        have h2 := ord_len o.1
        omega
      · rw [if_neg o] at he
        simp at he
    have hr : recB a0 a1 a2 a3 a4 a5 a6 n a8 = true := by have := recB_iff.1 hb; exact recB_iff.2 (by omega)
    rw [check_yes hr, Option.bind_some]
    simp [recFrom]

end Go.Proofs.Ytenkffjlpdappaa.Pure
