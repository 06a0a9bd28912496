/- For any readings in order, the energy between two of them is not negative, and the sum of those of two parts. -/
import Derived.Test.YtenkffjlpdappaaPrx16
import Derived.Test.YtenkffjlpdappaaPrOpn
import Derived.Test.YtenkffjlpdappaaPChain
namespace Go.Proofs.Ytenkffjlpdappaa.Pure
open Go.RowKit Go.Proofs.Ytenkffjlpdappaa.Pr Go.Proofs.YtenkffjlpdappaaW.PrintWords Go.Proofs.YtenkffjlpdappaaW.PrintLast

theorem dI_nonneg {l : List S44} {k : Nat} (h0 : 0 < k) (h : okAt l k = true) : 0 ≤ dI l k := by
  unfold dI
  split
  · rename_i hs
    unfold okAt at h
    simp only [Bool.and_eq_true, Bool.or_eq_true, decide_eq_true_eq] at h
    have hr := h.2.2.2.resolve_left (by omega)
    unfold refusedI at hr
    by_cases c : (rd_T44 l k).f2 < (rd_T44 l ((k : Int) - 1)).f2 ∨ (rd_T44 l k).f0 = (rd_T44 l ((k : Int) - 1)).f0 ∧ (rd_T44 l k).f3 < (rd_T44 l ((k : Int) - 1)).f3
    · rw [if_pos c] at hr; omega
    · have : ¬ (rd_T44 l k).f3 < (rd_T44 l ((k : Int) - 1)).f3 := fun q => c (.inr ⟨hs, q⟩)
      omega
  · omega
theorem ordAll_ok {l : List S44} (h : ordAll l = true) : ∀ j, j < l.length → okAt l j = true := by
  have hs := firstBad_spec (okAt l) l.length 0
  unfold ordAll at h
  rw [decide_eq_true_eq] at h
  rw [h] at hs
  exact fun j hj => hs.2.2.1 j (Nat.zero_le _) hj
theorem enI_range {l : List S44} (a b : Int) (h : ∀ j, j < l.length → okAt l j = true) : ∀ n : Nat, n ≤ l.length → 0 ≤ enI l a b n ∧ enI l a b n ≤ 1000000000 * (n : Int)
  | 0, _ => ⟨Int.le_refl _, by simp [enI]⟩
  | n + 1, hn => by
    have ih := enI_range a b h n (by omega)
    unfold enI
    split
    · rename_i c
      have h1 := dI_nonneg c.1 (h n (by omega))
      have h2 := (dI_range c.1 (fun j hj => h j (by omega))).2
      omega
    · omega
theorem enI_split (l : List S44) {a b c : Int} (h1 : a ≤ b) (h2 : b ≤ c) : ∀ n : Nat, enI l a b n + enI l b c n = enI l a c n
  | 0 => rfl
  | n + 1 => by
    have ih := enI_split l h1 h2 n
    unfold enI
    by_cases z : 0 < n
    · by_cases p : a ≤ (n : Int)
      · by_cases q : (n : Int) < b
        · rw [if_pos ⟨z, p, q⟩, if_neg (by omega), if_pos ⟨z, p, by omega⟩]; omega
        · by_cases r : (n : Int) < c
          · rw [if_neg (by omega), if_pos ⟨z, by omega, r⟩, if_pos ⟨z, p, r⟩]; omega
          · rw [if_neg (by omega), if_neg (by omega), if_neg (by omega)]; omega
      · rw [if_neg (by omega), if_neg (by omega), if_neg (by omega)]; omega
    · rw [if_neg (by omega), if_neg (by omega), if_neg (by omega)]; omega
theorem ChainParts :
    ∀ (l0 : List (S44)) (a1 : Int) (a2 : Int) (a3 : Int), l0.length ≤ maxLen → l0.length * 40 ≤ 140737488351232 → (∀ x ∈ l0, Wf44 x) → (Lit.int .u8 a1).wf = true → (Lit.int .u8 a2).wf = true → (Lit.int .u8 a3).wf = true → ∃ k, chargeparklaw40_ChainParts.f k l0 a1 a2 a3 = some true := by
  intro l a b c _ _ _ ha hb hc
  refine ⟨1, ?_⟩
  unfold chargeparklaw40_ChainParts.f
  rw [head40, Option.bind_some]
  by_cases c0 : (l.length : Int) = 0
  · rw [if_pos c0]; simp [chargeparklaw40_ChainParts.j0]
  rw [if_neg c0]
  simp only [chargeparklaw40_ChainParts.j0]
  by_cases c1 : (l.length : Int) > 100
  · rw [decide_eq_true c1, if_pos rfl]
  rw [decide_eq_false c1, if_neg (by simp), if_neg c0]
  have a8 : 0 ≤ a ∧ a < 256 := by simp [Lit.wf, IntKind.min, IntKind.max, IntKind.signed, IntKind.bits] at ha; omega
  have b8 : 0 ≤ b ∧ b < 256 := by simp [Lit.wf, IntKind.min, IntKind.max, IntKind.signed, IntKind.bits] at hb; omega
  have c8 : 0 ≤ c ∧ c < 256 := by simp [Lit.wf, IntKind.min, IntKind.max, IntKind.signed, IntKind.bits] at hc; omega
  rw [wrapK (x := a) (by omega) (by omega), wrapK (x := b) (by omega) (by omega), wrapK (x := c) (by omega) (by omega)]
  have pa0 : 0 ≤ Int.tmod a (l.length : Int) := Int.tmod_nonneg _ a8.1
  have pa1 : Int.tmod a (l.length : Int) < (l.length : Int) := Int.tmod_lt_of_pos _ (by omega)
  have pb0 : 0 ≤ Int.tmod b (l.length : Int) := Int.tmod_nonneg _ b8.1
  have pb1 : Int.tmod b (l.length : Int) < (l.length : Int) := Int.tmod_lt_of_pos _ (by omega)
  have pc0 : 0 ≤ Int.tmod c (l.length : Int) := Int.tmod_nonneg _ c8.1
  have pc1 : Int.tmod c (l.length : Int) < (l.length : Int) := Int.tmod_lt_of_pos _ (by omega)
  generalize Int.tmod a (l.length : Int) = p at pa0 pa1
  generalize Int.tmod b (l.length : Int) = q at pb0 pb1
  generalize Int.tmod c (l.length : Int) = r at pc0 pc1
  rw [wrapK (x := 1 + p) (by omega) (by omega), wrapK (x := 1 + q) (by omega) (by omega), wrapK (x := 1 + r) (by omega) (by omega)]
  rw [wrapK (x := 1 + p + (1 + q)) (by omega) (by omega), wrapK (x := 1 + p + (1 + q) + (1 + r)) (by omega) (by omega)]
  obtain ⟨i, hi⟩ : ∃ i, mn (mn (1 + p) (1 + q)) (1 + r) = i := ⟨_, rfl⟩
  obtain ⟨m, hm⟩ : ∃ m, mx (mx (1 + p) (1 + q)) (1 + r) = m := ⟨_, rfl⟩
  rw [hi, hm]
  have hf : 1 ≤ i ∧ i ≤ 1 + p + (1 + q) + (1 + r) - i - m ∧ 1 + p + (1 + q) + (1 + r) - i - m ≤ m ∧ m ≤ (l.length : Int) := by
    rw [← hi, ← hm]
    unfold mn mx
    repeat' split
    all_goals omega
  rw [wrapK (x := 1 + p + (1 + q) + (1 + r) - i) (by omega) (by omega), wrapK (x := 1 + p + (1 + q) + (1 + r) - i - m) (by omega) (by omega)]
  generalize 1 + p + (1 + q) + (1 + r) - i - m = k at hf
  clear hi hm
  obtain ⟨f1, f2, f3, f4⟩ := hf
  unfold chain_Energy.f
  by_cases o : ordAll l = true
  · rw [if_pos ⟨o, f1, f2, by omega⟩, if_pos ⟨o, by omega, f3, f4⟩, if_pos ⟨o, f1, by omega, f4⟩]
    simp only [Option.bind_some, if_true]
    have g1 := enI_range i k (ordAll_ok o) l.length (Nat.le_refl _)
    have g2 := enI_range k m (ordAll_ok o) l.length (Nat.le_refl _)
    rw [if_pos g1.1, if_pos g2.1, wrapK (by omega) (by omega), enI_split l f2 f3]
    simp
  · rw [if_neg (fun h => o h.1), if_neg (fun h => o h.1), if_neg (fun h => o h.1)]
    simp [wrap64]

end Go.Proofs.Ytenkffjlpdappaa.Pure
