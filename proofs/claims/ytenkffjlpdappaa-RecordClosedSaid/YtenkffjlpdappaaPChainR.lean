/- The reference of the chains computes what the program computes. -/
import Derived.Test.YtenkffjlpdappaaPLink
import Derived.Test.YtenkffjlpdappaaHChainE
import Derived.Test.YtenkffjlpdappaaPrx9
import Derived.Test.YtenkffjlpdappaaPrx5
namespace Go.Proofs.Ytenkffjlpdappaa.Pr
open Go.RowKit Go.Proofs.YtenkffjlpdappaaW.PrintWords Go.Proofs.YtenkffjlpdappaaW.PrintLast Go.Proofs.YtenkffjlpdappaaW.PrintMore
set_option linter.unusedVariables false
theorem num_step {N : Int} (h0 : 0 ≤ N) (h1 : N < 18446744073709551616) (n : Int) (hn : IntKind.u64.wrap n = N) (i : Nat) (hi : i < 8) (k : Nat) (y : Int) :
    chargeparkref40_number.l0 (k + 1) y (N * 256 ^ i % 18446744073709551616) (i : Int) = chargeparkref40_number.l0 k (stepK y (byteK n i)) (N * 256 ^ (i + 1) % 18446744073709551616) ((i + 1 : Nat) : Int) := by
  simp only [chargeparkref40_number.l0]
  rw [if_pos (by omega), wrapK (x := (i : Int) + 1) (by omega) (by omega)]
  unfold stepK byteK
  rw [hn, IntKind.wrap_u64, IntKind.wrap_u64, IntKind.wrap_u64]
  have e1 : N * 256 ^ i % 18446744073709551616 / 72057594037927936 = N / 2 ^ (56 - 8 * i) % 256 := by
    have hc : i = 0 ∨ i = 1 ∨ i = 2 ∨ i = 3 ∨ i = 4 ∨ i = 5 ∨ i = 6 ∨ i = 7 := by omega
    rcases hc with rfl | rfl | rfl | rfl | rfl | rfl | rfl | rfl <;> simp <;> omega
  have e2 : N * 256 ^ i % 18446744073709551616 * 256 % 18446744073709551616 = N * 256 ^ (i + 1) % 18446744073709551616 := by
    rw [Int.pow_succ, ← Int.mul_assoc]
    generalize N * 256 ^ i = Q
    omega
  rw [e1, e2, show (i : Int) + 1 = ((i + 1 : Nat) : Int) by omega]
theorem num_link (ns : List Int) (x : Int) (v : Nat) (k : Nat) (n : Int) (hn : ns.getD v 0 = n) : chargeparkref40_number.f (k + 9) (linkF ns x (8 * v)) n = some (linkF ns x (8 * v + 8)) := by
  unfold chargeparkref40_number.f
  have hw : 0 ≤ IntKind.u64.wrap n ∧ IntKind.u64.wrap n < 18446744073709551616 := by rw [IntKind.wrap_u64]; omega
  obtain ⟨N, hN⟩ : ∃ N, IntKind.u64.wrap n = N := ⟨_, rfl⟩
  rw [hN] at hw ⊢
  have st : ∀ (i k : Nat), i < 8 → chargeparkref40_number.l0 (k + 1) (linkF ns x (8 * v + i)) (N * 256 ^ i % 18446744073709551616) (i : Int) = chargeparkref40_number.l0 k (linkF ns x (8 * v + (i + 1))) (N * 256 ^ (i + 1) % 18446744073709551616) ((i + 1 : Nat) : Int) := by
    intro i k hi
    rw [num_step hw.1 hw.2 n hN i hi, show 8 * v + (i + 1) = 8 * v + i + 1 by omega, linkF_succ, show (8 * v + i) / 8 = v by omega, show (8 * v + i) % 8 = i by omega, hn]
  have h0 : N = N * 256 ^ 0 % 18446744073709551616 := by simp; omega
  conv => lhs; rw [h0]
  rw [show (0 : Int) = ((0 : Nat) : Int) from rfl, show linkF ns x (8 * v) = linkF ns x (8 * v + 0) from rfl, st 0 _ (by omega), st 1 _ (by omega), st 2 _ (by omega), st 3 _ (by omega), st 4 _ (by omega), st 5 _ (by omega), st 6 _ (by omega), st 7 _ (by omega)]
  simp only [chargeparkref40_number.l0]
  rw [if_neg (by omega)]
theorem ref_link (k : Nat) (x a b c d e : Int) : chargeparkref40_Link.f (k + 9) x a b c d e = some (linkF [a, b, c, d] x 32) := by
  unfold chargeparkref40_Link.f
  have h1 := num_link [a, b, c, d] x 0 k a rfl
  have h2 := num_link [a, b, c, d] x 1 k b rfl
  have h3 := num_link [a, b, c, d] x 2 k c rfl
  have h4 := num_link [a, b, c, d] x 3 k d rfl
  rw [show linkF [a, b, c, d] x (8 * 0) = x from rfl] at h1
  rw [h1, Option.bind_some, h2, Option.bind_some, h3, Option.bind_some, h4]
  rfl
theorem ref_valid (a b c d e : Int) : chargeparkref40_Valid.f a b c d e = some (rvalidB a b c d) := by
  unfold chargeparkref40_Valid.f rvalidB
  simp only [ge_iff_le]
  by_cases h1 : 1 ≤ a <;> by_cases h2 : a ≤ 1000000 <;> by_cases h3 : 1 ≤ b <;> by_cases h4 : b ≤ 64 <;> by_cases h5 : 0 ≤ c <;> by_cases h6 : c ≤ 52560000 <;> by_cases h7 : 0 ≤ d <;> simp [h1, h2, h3, h4, h5, h6, h7]
theorem ref_follows (a b c d e a' b' c' d' e' : Int) : chargeparkref40_follows.f a b c d e a' b' c' d' e' = some (decide (refusedI a c d a' c' d' = 0)) := by
  unfold chargeparkref40_follows.f refusedI
  by_cases h1 : c < c'
  · rw [if_pos h1, if_pos (.inl h1)]; rfl
  · rw [if_neg h1]
    by_cases h2 : a = a'
    · rw [if_pos h2]
      by_cases h3 : d < d'
      · rw [if_pos (.inr ⟨h2, h3⟩), decide_eq_false (by omega)]; rfl
      · rw [if_neg (by omega), if_neg (fun q => q.1 h2), decide_eq_true (by omega)]; rfl
    · rw [if_neg h2, if_neg (by omega)]
      by_cases h3 : c' < c
      · rw [if_pos ⟨h2, h3⟩, beq_eq_false_iff_ne.2 (by omega)]; rfl
      · rw [if_neg (by omega), beq_iff_eq.2 (by omega)]; rfl
theorem ref_fits (l : List S44) (i : Nat) (hi : i < l.length) (hl : l.length ≤ 1000000) : chargeparkref40_fits.f l (i : Int) = some (okAt l i) := by
  unfold chargeparkref40_fits.f okAt
  by_cases h1 : i < 64
  · rw [if_pos (by omega), if_pos (by omega), if_pos (by omega), ref_valid, Option.bind_some, decide_eq_true h1, Bool.true_and]
    cases hv : rvalidB (rd_T44 l i).f0 (rd_T44 l i).f1 (rd_T44 l i).f2 (rd_T44 l i).f3 with
    | false => rw [if_neg (by simp), Bool.false_and]
    | true =>
      rw [if_pos rfl, Bool.true_and, wrapK (x := (i : Int) + 1) (by omega) (by omega)]
      by_cases h2 : (rd_T44 l i).f1 = (i : Int) + 1
      · rw [if_pos h2, decide_eq_true h2, Bool.true_and]
        by_cases h3 : i = 0
        · rw [if_pos (by omega), decide_eq_true h3, Bool.true_or]
        · rw [if_neg (by omega), decide_eq_false h3, Bool.false_or, wrapK (x := (i : Int) - 1) (by omega) (by omega), if_pos (by omega), if_pos (by omega), ref_follows, Option.bind_some]
      · rw [if_neg h2, decide_eq_false h2, Bool.false_and]
  · rw [if_neg (by omega), decide_eq_false h1, Bool.false_and]
theorem ref_ordered_l0 (l : List S44) (hl : l.length ≤ 1000000) : ∀ (k i : Nat), l.length < i + k → i ≤ l.length → (∀ j, j < i → okAt l j = true) → chargeparkref40_Ordered.l0 k l (i : Int) = some (ordAll l)
  | 0, i, h, h1, _ => by omega
  | k + 1, i, h, h1, hok => by
    simp only [chargeparkref40_Ordered.l0]
    have st : (i < l.length → okAt l i = false) → ordAll l = decide (i = l.length) := fun h3 => by
      unfold ordAll; rw [firstBad_eq (okAt l) l.length 0 i (Nat.zero_le _) (by omega) (fun j _ hj => hok j hj) (fun q => h3 (by omega))]
    by_cases c : (i : Int) < (l.length : Int)
    · rw [if_pos c, ref_fits l i (by omega) hl, Option.bind_some]
      cases ho : okAt l i with
      | false => rw [if_neg (by simp), st (fun _ => ho), decide_eq_false (by omega)]
      | true =>
        rw [if_pos rfl, wrapK (x := (i : Int) + 1) (by omega) (by omega), show (i : Int) + 1 = ((i + 1 : Nat) : Int) by omega]
        exact ref_ordered_l0 l hl k (i + 1) (by omega) (by omega) (fun j hj => by by_cases q : j = i; exact q ▸ ho; exact hok j (by omega))
    · rw [if_neg c, st (fun q => absurd q (by omega)), decide_eq_true (by omega)]
theorem ref_ordered (l : List S44) (k : Nat) (hl : l.length ≤ 1000000) (hk : l.length < k) : chargeparkref40_Ordered.f k l = some (ordAll l) := by
  unfold chargeparkref40_Ordered.f
  exact ref_ordered_l0 l hl k 0 (by omega) (by omega) (fun j hj => absurd hj (Nat.not_lt_zero _))
theorem ordAll_ok' {l : List S44} (h : ordAll l = true) : ∀ j, j < l.length → okAt l j = true := by
  have hs := firstBad_spec (okAt l) l.length 0
  unfold ordAll at h
  rw [decide_eq_true_eq] at h
  rw [h] at hs
  exact fun j hj => hs.2.2.1 j (Nat.zero_le _) hj
/-- What is summed from a reading on. -/
theorem enI_from (l : List S44) (a b : Int) : ∀ n m : Nat, n ≤ m → (∀ j : Nat, n ≤ j → j < m → ¬ (0 < j ∧ a ≤ (j : Int) ∧ (j : Int) < b)) → enI l a b m = enI l a b n
  | n, 0, h, _ => by rw [show n = 0 by omega]
  | n, m + 1, h, hz => by
    by_cases e : n = m + 1
    · rw [e]
    · rw [enI, if_neg (hz m (by omega) (by omega)), Int.add_zero]
      exact enI_from l a b n m (by omega) (fun j h1 h2 => hz j h1 (by omega))
theorem enI_abs (l : List S44) (a b : Int) (h : ∀ j, j < l.length → okAt l j = true) : ∀ n : Nat, n ≤ l.length → -1000000000 * (n : Int) ≤ enI l a b n ∧ enI l a b n ≤ 1000000000 * (n : Int)
  | 0, _ => by simp [enI]
  | n + 1, hn => by
    have ih := enI_abs l a b h n (by omega)
    rw [enI]
    by_cases c : 0 < n ∧ a ≤ (n : Int) ∧ (n : Int) < b
    · rw [if_pos c]
      have := dI_range c.1 (fun j hj => h j (by omega))
      omega
    · rw [if_neg c]; omega
theorem ref_energy_l0 (l : List S44) (hl : l.length ≤ 100) (hok : ∀ j, j < l.length → okAt l j = true) (a b : Int) (h1 : 1 ≤ a) (hb : b ≤ (l.length : Int)) :
    ∀ (k i : Nat), l.length < i + k → a ≤ (i : Int) → (i : Int) ≤ b → chargeparkref40_Energy.l0 k l b (enI l a b i) (i : Int) = some (enI l a b l.length, 0)
  | 0, i, h, _, _ => by omega
  | k + 1, i, h, h2, h3 => by
    simp only [chargeparkref40_Energy.l0]
    by_cases c : (i : Int) < b
    · have hs : enI l a b (i + 1) = enI l a b i + dI l i := by rw [enI, if_pos ⟨by omega, h2, c⟩]
      have hr := enI_abs l a b hok i (by omega)
      have r1 := okAt_reg (hok i (by omega))
      have r2 := okAt_reg (hok (i - 1) (by omega))
      rw [show ((i - 1 : Nat) : Int) = (i : Int) - 1 by omega] at r2
      rw [if_pos c, if_pos (by omega), if_pos (by omega), wrapK (x := (i : Int) - 1) (by omega) (by omega), if_pos (by omega), if_pos (by omega), wrapK (x := (i : Int) + 1) (by omega) (by omega), show (i : Int) + 1 = ((i + 1 : Nat) : Int) by omega]
      have ih := ref_energy_l0 l hl hok a b h1 hb k (i + 1) (by omega) (by omega) (by omega)
      rw [hs] at ih
      unfold dI at ih
      by_cases e : (rd_T44 l i).f0 = (rd_T44 l ((i : Int) - 1)).f0
      · rw [if_pos e, wrapK (x := enI l a b i + (rd_T44 l i).f3) (by omega) (by omega), wrapK (by omega) (by omega)]
        rw [if_pos e] at ih
        rw [← ih]; congr 1; omega
      · rw [if_neg e]
        rw [if_neg e, Int.add_zero] at ih
        exact ih
    · rw [if_neg c]
      rw [enI_from l a b i l.length (by omega) (fun j q1 q2 => by omega)]
theorem ref_energy (l : List S44) (k : Nat) (a b : Int) (hl : l.length ≤ 100) (hk : l.length + 2 < k) : chargeparkref40_Energy.f k l a b = chain_Energy.f l a b := by
  unfold chargeparkref40_Energy.f chain_Energy.f
  obtain ⟨k, rfl⟩ : ∃ k', k = k' + 1 := ⟨k - 1, by omega⟩
  rw [ref_ordered l _ (by omega) (by omega), Option.bind_some]
  by_cases ho : ordAll l = true
  · rw [if_pos ho]
    by_cases g1 : 1 ≤ a
    · by_cases g2 : a ≤ b
      · by_cases g3 : b ≤ (l.length : Int)
        · rw [if_neg (by omega), if_neg (by omega), if_pos ⟨ho, g1, g2, g3⟩, decide_eq_false (by omega)]
          simp only [chargeparkref40_Energy.j0]
          rw [if_neg (by simp)]
          obtain ⟨i, rfl⟩ := Int.eq_ofNat_of_zero_le (show 0 ≤ a by omega)
          have h0 : enI l (i : Int) b i = 0 := (enI_from l _ b 0 i (Nat.zero_le _) (fun j q1 q2 => by omega)).trans rfl
          have := ref_energy_l0 l hl (ordAll_ok' ho) (i : Int) b g1 g3 k i (by omega) (by omega) g2
          rw [h0] at this
          exact this
        · rw [if_neg (by omega), if_neg (by omega), if_neg (fun q => g3 q.2.2.2), decide_eq_true (by omega)]
          simp only [chargeparkref40_Energy.j0]; rfl
      · rw [if_neg (by omega), if_pos (by omega), if_neg (fun q => g2 q.2.2.1)]
        simp only [chargeparkref40_Energy.j0]; rfl
    · rw [if_pos (by omega), if_neg (fun q => g1 q.2.1)]
      simp only [chargeparkref40_Energy.j0]; rfl
  · rw [if_neg ho, if_neg (fun q => ho q.1)]
    simp only [chargeparkref40_Energy.j0]; rfl
end Go.Proofs.Ytenkffjlpdappaa.Pr
