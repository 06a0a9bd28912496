/- For all records, readings and keys, all functions of package record return what the reference implementation returns (up to 80 readings). -/
import Derived.Test.YtenkffjlpdappaaPrx12
import Derived.Test.YtenkffjlpdappaaPrOpn
import Derived.Test.YtenkffjlpdappaaPRecord
import Derived.Test.YtenkffjlpdappaaPRecordR
namespace Go.Proofs.Ytenkffjlpdappaa.Pure
open Go.RowKit Go.Proofs.Ytenkffjlpdappaa.Pr Go.Proofs.YtenkffjlpdappaaW.PrintWords Go.Proofs.YtenkffjlpdappaaW.PrintLast

theorem close_some (l : List S44) (a0 a1 a2 a3 a4 a5 a6 a7 a8 a9 a10 a11 a12 k0 k1 k2 k3 : Int) : ∃ r1 r2 r3 r4 r5 r6 r7 r8 r9 r10 r11 r12 r13 r14, record_Close.f a0 a1 a2 a3 a4 a5 a6 a7 a8 a9 a10 a11 a12 l k0 k1 k2 k3 = some (r1, r2, r3, r4, r5, r6, r7, r8, r9, r10, r11, r12, r13, r14) := by
  unfold record_Close.f chain_Energy.f
  rw [isRec_f, Option.bind_some]
  split
  · split
    all_goals
      rw [Option.bind_some]
      split
      all_goals exact ⟨_, _, _, _, _, _, _, _, _, _, _, _, _, _, rfl⟩
  · exact ⟨_, _, _, _, _, _, _, _, _, _, _, _, _, _, rfl⟩
theorem RecordMatchesReference :
    ∀ (a0_0 : Int) (a0_1 : Int) (a0_2 : Int) (a0_3 : Int) (a0_4 : Int) (a0_5 : Int) (a0_6 : Int) (a0_7 : Int) (a0_8 : Int) (a0_9 : Int) (a0_10 : Int) (a0_11 : Int) (a0_12 : Int) (l1 : List (S44)) (a2_0 : Int) (a2_1 : Int) (a2_2 : Int) (a2_3 : Int), (Lit.int .i64 a0_0).wf = true → (Lit.int .i64 a0_1).wf = true → (Lit.int .i64 a0_2).wf = true → (Lit.int .i64 a0_3).wf = true → (Lit.int .i64 a0_4).wf = true → (Lit.int .i64 a0_5).wf = true → (Lit.int .i64 a0_6).wf = true → (Lit.int .i64 a0_7).wf = true → (Lit.int .i64 a0_8).wf = true → (Lit.int .u64 a0_9).wf = true → (Lit.int .u64 a0_10).wf = true → (Lit.int .u64 a0_11).wf = true → (Lit.int .u64 a0_12).wf = true → l1.length ≤ maxLen → l1.length * 40 ≤ 140737488351232 → (∀ x ∈ l1, Wf44 x) → (Lit.int .u64 a2_0).wf = true → (Lit.int .u64 a2_1).wf = true → (Lit.int .u64 a2_2).wf = true → (Lit.int .u64 a2_3).wf = true → ∃ k, chargeparklaw41_RecordMatchesReference.f k a0_0 a0_1 a0_2 a0_3 a0_4 a0_5 a0_6 a0_7 a0_8 a0_9 a0_10 a0_11 a0_12 l1 a2_0 a2_1 a2_2 a2_3 = some true := by
  intro a0 a1 a2 a3 a4 a5 a6 a7 a8 a9 a10 a11 a12 l k0 k1 k2 k3
  intros
  refine ⟨l.length + 60, ?_⟩
  unfold chargeparklaw41_RecordMatchesReference.f
  rw [head41, Option.bind_some]
  by_cases c0 : (l.length : Int) > 80
  · rw [if_pos c0]
  rw [if_neg c0, ref_close l _ (by omega) (by omega)]
  obtain ⟨r1, r2, r3, r4, r5, r6, r7, r8, r9, r10, r11, r12, r13, r14, hc⟩ := close_some l a0 a1 a2 a3 a4 a5 a6 a7 a8 a9 a10 a11 a12 k0 k1 k2 k3
  obtain ⟨sg, hsg⟩ : ∃ y, signF a0 a1 a2 a3 a4 a5 a6 a7 a8 k0 = y := ⟨_, rfl⟩
  have hs : chargeparkref41_Sign.f (l.length + 60) a0 a1 a2 a3 a4 a5 a6 a7 a8 a9 a10 a11 a12 k0 = some sg := by rw [← hsg]; exact ref_sign (l.length + 51) a0 a1 a2 a3 a4 a5 a6 a7 a8 a9 a10 a11 a12 k0
  have hs2 : record_Sign.f a0 a1 a2 a3 a4 a5 a6 a7 a8 a9 a10 a11 a12 k0 = some sg := by rw [← hsg]; rfl
  have h1 : chargeparkref41_Check.f (l.length + 60) a0 a1 a2 a3 a4 a5 a6 a7 a8 a9 a10 a11 a12 k0 k1 k2 k3 = record_Check.f a0 a1 a2 a3 a4 a5 a6 a7 a8 a9 a10 a11 a12 k0 k1 k2 k3 := ref_checkR (l.length + 40) a0 a1 a2 a3 a4 a5 a6 a7 a8 a9 a10 a11 a12 k0 k1 k2 k3
  have h2 : chargeparkref41_Check.f (l.length + 60) r1 r2 r3 r4 r5 r6 r7 r8 r9 r10 r11 r12 r13 k0 k1 k2 k3 = record_Check.f r1 r2 r3 r4 r5 r6 r7 r8 r9 r10 r11 r12 r13 k0 k1 k2 k3 := ref_checkR (l.length + 40) r1 r2 r3 r4 r5 r6 r7 r8 r9 r10 r11 r12 r13 k0 k1 k2 k3
  obtain ⟨c, hc1⟩ := check_some a0 a1 a2 a3 a4 a5 a6 a7 a8 a9 a10 a11 a12 k0 k1 k2 k3
  obtain ⟨d, hc2⟩ := check_some r1 r2 r3 r4 r5 r6 r7 r8 r9 r10 r11 r12 r13 k0 k1 k2 k3
  rw [hc1] at h1
  rw [hc2] at h2
  clear hsg
  rw [hc, Option.bind_some, Option.bind_some, hs, hs2, h1, hc1, h2, hc2]
  simp only [Option.bind_some, if_true, beq_self_eq_true, Bool.and_self]

end Go.Proofs.Ytenkffjlpdappaa.Pure
