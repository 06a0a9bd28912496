/- The energies of two records, from one reading to a second one and from there to a third one, add up to that of the record from the first to the third one (up to 64 readings). -/
import Derived.Test.YtenkffjlpdappaaPrx20
import Derived.Test.YtenkffjlpdappaaPrOpn
import Derived.Test.YtenkffjlpdappaaPRecord
import Derived.Test.YtenkffjlpdappaaPRecordV
import Derived.Test.YtenkffjlpdappaaPChainR
namespace Go.Proofs.Ytenkffjlpdappaa.Pure
open Go.RowKit Go.Proofs.Ytenkffjlpdappaa.Pr Go.Proofs.YtenkffjlpdappaaW.PrintWords Go.Proofs.YtenkffjlpdappaaW.PrintLast

theorem dI_pos {l : List S44} {k : Nat} (h0 : 0 < k) (h : okAt l k = true) : 0 ≤ dI l k := by
  unfold dI
  split
  · rename_i hs
    unfold okAt at h
    simp only [Bool.and_eq_true, Bool.or_eq_true, decide_eq_true_eq] at h
    have hr := h.2.2.2.resolve_left (by omega)
    unfold refusedI at hr
    by_cases c : (rd_T44 l k).f2 < (rd_T44 l ((k : Int) - 1)).f2 ∨ (rd_T44 l k).f0 = (rd_T44 l ((k : Int) - 1)).f0 ∧ (rd_T44 l k).f3 < (rd_T44 l ((k : Int) - 1)).f3
    · rw [if_pos c] at hr; omega
    · have : ¬ (rd_T44 l k).f3 < (rd_T44 l ((k : Int) - 1)).f3 := fun q => c (.inr ⟨hs, q⟩)
      omega
  · omega
theorem en_range {l : List S44} (a b : Int) (h : ∀ j, j < l.length → okAt l j = true) : ∀ n : Nat, n ≤ l.length → 0 ≤ enI l a b n ∧ enI l a b n ≤ 1000000000 * (n : Int)
  | 0, _ => ⟨Int.le_refl _, by simp [enI]⟩
  | n + 1, hn => by
    have ih := en_range a b h n (by omega)
    unfold enI
    split
    · rename_i c
      have h1 := dI_pos c.1 (h n (by omega))
      have h2 := (dI_range c.1 (fun j hj => h j (by omega))).2
      omega
    · omega
theorem ord_len {l : List S44} (h : ordAll l = true) : l.length ≤ 64 := by
  by_cases z : l.length ≤ 64
  · exact z
  · have := ordAll_ok' h 64 (by omega)
    unfold okAt at this
    simp at this
theorem close_yes {l : List S44} {a0 a1 a2 a3 a4 a5 a6 a7 a8 a9 a10 a11 a12 k0 k1 k2 k3 n : Int} (h : recB a0 a1 a2 a3 a4 a5 a6 0 a8 = true) (he : chain_Energy.f l a5 a6 = some (n, 0)) : record_Close.f a0 a1 a2 a3 a4 a5 a6 a7 a8 a9 a10 a11 a12 l k0 k1 k2 k3 = some (a0, a1, a2, a3, a4, a5, a6, n, a8, signF a0 a1 a2 a3 a4 a5 a6 n a8 k0, signF a0 a1 a2 a3 a4 a5 a6 n a8 k1, signF a0 a1 a2 a3 a4 a5 a6 n a8 k2, signF a0 a1 a2 a3 a4 a5 a6 n a8 k3, 0) := by
  unfold record_Close.f
  rw [isRec_f, Option.bind_some, h, if_pos rfl, he, Option.bind_some, if_pos rfl]
theorem close_energy {l : List S44} {a0 a1 a2 a3 a4 a5 a6 a7 a8 a9 a10 a11 a12 k0 k1 k2 k3 n e : Int} (h : recB a0 a1 a2 a3 a4 a5 a6 0 a8 = true) (he : chain_Energy.f l a5 a6 = some (n, e)) (hz : e ≠ 0) : record_Close.f a0 a1 a2 a3 a4 a5 a6 a7 a8 a9 a10 a11 a12 l k0 k1 k2 k3 = some (0, 0, 0, 0, 0, 0, 0, 0, 0, 0, 0, 0, 0, e) := by
  unfold record_Close.f
  rw [isRec_f, Option.bind_some, h, if_pos rfl, he, Option.bind_some, if_neg hz]
theorem close_arg {l : List S44} {a0 a1 a2 a3 a4 a5 a6 a7 a8 a9 a10 a11 a12 k0 k1 k2 k3 : Int} (h : recB a0 a1 a2 a3 a4 a5 a6 0 a8 = false) : record_Close.f a0 a1 a2 a3 a4 a5 a6 a7 a8 a9 a10 a11 a12 l k0 k1 k2 k3 = some (0, 0, 0, 0, 0, 0, 0, 0, 0, 0, 0, 0, 0, 1) := by
  unfold record_Close.f
  rw [isRec_f, Option.bind_some, h, if_neg (by simp)]
theorem en_split (l : List S44) {a b c : Int} (h1 : a ≤ b) (h2 : b ≤ c) : ∀ n : Nat, enI l a b n + enI l b c n = enI l a c n
  | 0 => rfl
  | n + 1 => by
    have ih := en_split l h1 h2 n
    unfold enI
    by_cases z : 0 < n
    · by_cases p : a ≤ (n : Int)
      · by_cases q : (n : Int) < b
        · rw [if_pos ⟨z, p, q⟩, if_neg (by omega), if_pos ⟨z, p, by omega⟩]; omega
        · by_cases r : (n : Int) < c
          · rw [if_neg (by omega), if_pos ⟨z, by omega, r⟩, if_pos ⟨z, p, r⟩]; omega
          · rw [if_neg (by omega), if_neg (by omega), if_neg (by omega)]; omega
      · rw [if_neg (by omega), if_neg (by omega), if_neg (by omega)]; omega
    · rw [if_neg (by omega), if_neg (by omega), if_neg (by omega)]; omega
theorem RecordParts :
    ∀ (a0_0 : Int) (a0_1 : Int) (a0_2 : Int) (a0_3 : Int) (a0_4 : Int) (a0_5 : Int) (a0_6 : Int) (a0_7 : Int) (a0_8 : Int) (a0_9 : Int) (a0_10 : Int) (a0_11 : Int) (a0_12 : Int) (l1 : List (S44)) (a2_0 : Int) (a2_1 : Int) (a2_2 : Int) (a2_3 : Int) (a3 : Int) (a4 : Int) (a5 : Int), (Lit.int .i64 a0_0).wf = true → (Lit.int .i64 a0_1).wf = true → (Lit.int .i64 a0_2).wf = true → (Lit.int .i64 a0_3).wf = true → (Lit.int .i64 a0_4).wf = true → (Lit.int .i64 a0_5).wf = true → (Lit.int .i64 a0_6).wf = true → (Lit.int .i64 a0_7).wf = true → (Lit.int .i64 a0_8).wf = true → (Lit.int .u64 a0_9).wf = true → (Lit.int .u64 a0_10).wf = true → (Lit.int .u64 a0_11).wf = true → (Lit.int .u64 a0_12).wf = true → l1.length ≤ maxLen → l1.length * 40 ≤ 140737488351232 → (∀ x ∈ l1, Wf44 x) → (Lit.int .u64 a2_0).wf = true → (Lit.int .u64 a2_1).wf = true → (Lit.int .u64 a2_2).wf = true → (Lit.int .u64 a2_3).wf = true → (Lit.int .u8 a3).wf = true → (Lit.int .u8 a4).wf = true → (Lit.int .u8 a5).wf = true → ∃ k, chargeparklaw41_RecordParts.f k a0_0 a0_1 a0_2 a0_3 a0_4 a0_5 a0_6 a0_7 a0_8 a0_9 a0_10 a0_11 a0_12 l1 a2_0 a2_1 a2_2 a2_3 a3 a4 a5 = some true := by
  intro a0 a1 a2 a3 a4 a5 a6 a7 a8 a9 a10 a11 a12 l k0 k1 k2 k3 x y w
  intro _ _ _ _ _ _ _ _ _ _ _ _ _ _ _ _ _ _ _ _ hx hy hw
  refine ⟨l.length + 9, ?_⟩
  unfold chargeparklaw41_RecordParts.f
  rw [head41, Option.bind_some]
  by_cases c0 : (l.length : Int) = 0
  · rw [if_pos c0]; simp [chargeparklaw41_RecordParts.j0]
  rw [if_neg c0]
  by_cases c1 : (l.length : Int) > 64
  · rw [if_pos c1]; simp [chargeparklaw41_RecordParts.j0]
  rw [if_neg c1, ref_ordered l _ (by omega) (by omega), Option.bind_some]
  cases ho : ordAll l with
  | false => simp [chargeparklaw41_RecordParts.j0]
  | true =>
  rw [show l.length + 9 = (l.length + 8) + 1 from rfl, chargeparklaw41_RecordParts.j0, if_neg (by simp), if_neg c0]
  have x8 : 0 ≤ x ∧ x < 256 := by simp [Lit.wf, IntKind.min, IntKind.max, IntKind.signed, IntKind.bits] at hx; omega
  have y8 : 0 ≤ y ∧ y < 256 := by simp [Lit.wf, IntKind.min, IntKind.max, IntKind.signed, IntKind.bits] at hy; omega
  have w8 : 0 ≤ w ∧ w < 256 := by simp [Lit.wf, IntKind.min, IntKind.max, IntKind.signed, IntKind.bits] at hw; omega
  rw [wrapK (x := x) (by omega) (by omega), wrapK (x := y) (by omega) (by omega), wrapK (x := w) (by omega) (by omega)]
  have pa0 : 0 ≤ Int.tmod x (l.length : Int) := Int.tmod_nonneg _ x8.1
  have pa1 : Int.tmod x (l.length : Int) < (l.length : Int) := Int.tmod_lt_of_pos _ (by omega)
  have pb0 : 0 ≤ Int.tmod y (l.length : Int) := Int.tmod_nonneg _ y8.1
  have pb1 : Int.tmod y (l.length : Int) < (l.length : Int) := Int.tmod_lt_of_pos _ (by omega)
  have pc0 : 0 ≤ Int.tmod w (l.length : Int) := Int.tmod_nonneg _ w8.1
  have pc1 : Int.tmod w (l.length : Int) < (l.length : Int) := Int.tmod_lt_of_pos _ (by omega)
  generalize Int.tmod x (l.length : Int) = p at pa0 pa1
  generalize Int.tmod y (l.length : Int) = q at pb0 pb1
  generalize Int.tmod w (l.length : Int) = r at pc0 pc1
  rw [wrapK (x := 1 + p) (by omega) (by omega), wrapK (x := 1 + q) (by omega) (by omega), wrapK (x := 1 + r) (by omega) (by omega)]
  obtain ⟨i, hi⟩ : ∃ i, mn (mn (1 + p) (1 + q)) (mn (mx (1 + p) (1 + q)) (1 + r)) = i := ⟨_, rfl⟩
  obtain ⟨k, hk⟩ : ∃ k, mx (mn (1 + p) (1 + q)) (mn (mx (1 + p) (1 + q)) (1 + r)) = k := ⟨_, rfl⟩
  obtain ⟨m, hm⟩ : ∃ m, mx (mx (1 + p) (1 + q)) (1 + r) = m := ⟨_, rfl⟩
  rw [hi, hk, hm]
  have hf : 1 ≤ i ∧ i ≤ k ∧ k ≤ m ∧ m ≤ (l.length : Int) := by
    rw [← hi, ← hk, ← hm]
    unfold mn mx
    repeat' split
    all_goals omega
  clear hi hk hm
  obtain ⟨f1, f2, f3, f4⟩ := hf
  have hv : chargeparkref41_Valid.f (l.length + 8) a0 a1 a2 a3 a4 i k 0 a8 a9 a10 a11 a12 = some (recB a0 a1 a2 a3 a4 i k 0 a8) := ref_validR (l.length + 7) a0 a1 a2 a3 a4 i k 0 a8 a9 a10 a11 a12
  rw [hv, Option.bind_some]
  cases hb : recB a0 a1 a2 a3 a4 i k 0 a8 with
  | false => rw [if_neg (by simp)]
  | true =>
    have hb' := recB_iff.1 hb
    have b2 : recB a0 a1 a2 a3 a4 k m 0 a8 = true := recB_iff.2 (by omega)
    have b3 : recB a0 a1 a2 a3 a4 i m 0 a8 = true := recB_iff.2 (by omega)
    have E : ∀ u v : Int, 1 ≤ u → u ≤ v → v ≤ (l.length : Int) → chain_Energy.f l u v = some (enI l u v l.length, 0) := fun u v q1 q2 q3 => by unfold chain_Energy.f; rw [if_pos ⟨ho, q1, q2, q3⟩]
    rw [if_pos rfl, close_yes hb (E i k (by omega) (by omega) (by omega)), close_yes b2 (E k m (by omega) (by omega) (by omega)), close_yes b3 (E i m (by omega) (by omega) (by omega))]
    simp only [Option.bind_some, if_true]
    have g1 := en_range i k (ordAll_ok' ho) l.length (Nat.le_refl _)
    have g2 := en_range k m (ordAll_ok' ho) l.length (Nat.le_refl _)
    rw [wrapK (by omega) (by omega), en_split l f2 f3]
    simp

end Go.Proofs.Ytenkffjlpdappaa.Pure
