/- Without holidays, the type of a day is that of the day 7 days later; and of 7 days one after the other five are working days, one is a Saturday, and the next one a Sunday: for every calendar that the reference finds valid. -/
import Derived.Test.YtnbfjdfmpadndaaPrx14
import Derived.Test.YtnbfjdfmpadndaaPrOpn
import Derived.Test.YtnbfjdfmpadndaaPDays
namespace Go.Proofs.Ytnbfjdfmpadndaa.Pure
open Go.RowKit Go.Proofs.Ytnbfjdfmpadndaa.Pr Go.Proofs.YtnbfjdfmpadndaaW.PrintWords Go.Proofs.YtnbfjdfmpadndaaW.PrintLast

theorem weeks_type {o : Int} {cs : List S37} (hv : dvalidB o cs [] = true) {d : Int} (h0 : -1 ≤ d) (h1 : d ≤ 36501) : days_Type.f o cs [] d = some (weekOf d, 0) := by
  unfold days_Type.f
  rw [if_pos ⟨h0, h1, hv⟩]
  rfl
theorem weekOf_7 (d : Int) : weekOf (d + 7) = weekOf d := by unfold weekOf; rw [show (d + 7 + 7) % 7 = (d + 7) % 7 by omega]
/-- How many of the first i days from d on are of a kind. -/
def manyI (t d : Int) : Nat → Int
  | 0 => 0
  | i + 1 => manyI t d i + if weekOf (d + i) = t then 1 else 0
theorem many7 (d : Int) : manyI 0 d 7 = 5 ∧ manyI 1 d 7 = 1 := by
  simp only [manyI, weekOf]
  have h : (d + 7) % 7 = 0 ∨ (d + 7) % 7 = 1 ∨ (d + 7) % 7 = 2 ∨ (d + 7) % 7 = 3 ∨ (d + 7) % 7 = 4 ∨ (d + 7) % 7 = 5 ∨ (d + 7) % 7 = 6 := by omega
  rw [show (d + ((0 : Nat) : Int) + 7) % 7 = (d + 7) % 7 by omega, show (d + ((1 : Nat) : Int) + 7) % 7 = ((d + 7) % 7 + 1) % 7 by omega, show (d + ((2 : Nat) : Int) + 7) % 7 = ((d + 7) % 7 + 2) % 7 by omega, show (d + ((3 : Nat) : Int) + 7) % 7 = ((d + 7) % 7 + 3) % 7 by omega, show (d + ((4 : Nat) : Int) + 7) % 7 = ((d + 7) % 7 + 4) % 7 by omega, show (d + ((5 : Nat) : Int) + 7) % 7 = ((d + 7) % 7 + 5) % 7 by omega, show (d + ((6 : Nat) : Int) + 7) % 7 = ((d + 7) % 7 + 6) % 7 by omega]
  rcases h with h | h | h | h | h | h | h <;> rw [h] <;> decide
theorem many_range (t d : Int) : ∀ i : Nat, 0 ≤ manyI t d i ∧ manyI t d i ≤ i
  | 0 => by simp [manyI]
  | i + 1 => by have := many_range t d i; simp only [manyI]; split <;> omega
theorem week_step (d : Int) : (weekOf d == 1) = (weekOf (d + 1) == 2 && weekOf d != 0) ∨ weekOf d = 0 ∨ weekOf d = 2 := by
  unfold weekOf; rw [show (d + 1 + 7) % 7 = ((d + 7) % 7 + 1) % 7 by omega]
  have h : (d + 7) % 7 = 0 ∨ (d + 7) % 7 = 1 ∨ (d + 7) % 7 = 2 ∨ (d + 7) % 7 = 3 ∨ (d + 7) % 7 = 4 ∨ (d + 7) % 7 = 5 ∨ (d + 7) % 7 = 6 := by omega
  rcases h with h | h | h | h | h | h | h <;> rw [h] <;> decide
theorem week_next (d : Int) : (weekOf d == 1) = (weekOf (d + 1) == 2) := by
  unfold weekOf; rw [show (d + 1 + 7) % 7 = ((d + 7) % 7 + 1) % 7 by omega]
  have h : (d + 7) % 7 = 0 ∨ (d + 7) % 7 = 1 ∨ (d + 7) % 7 = 2 ∨ (d + 7) % 7 = 3 ∨ (d + 7) % 7 = 4 ∨ (d + 7) % 7 = 5 ∨ (d + 7) % 7 = 6 := by omega
  rcases h with h | h | h | h | h | h | h <;> rw [h] <;> decide
theorem weeks_l0 (up : Bool) (d o : Int) (cs : List S37) (hv : dvalidB o cs [] = true) (d0 : -1 ≤ d) (d1 : d ≤ 36480) : ∀ (n k i : Nat), i + n = 7 → 2 * n < k →
    chargeparklaw26_DaysWeeks.l0 k up d (manyI 0 d i) (manyI 1 d i) i o cs = some up := by
  intro n
  induction n with
  | zero =>
    intro k i hi hk
    obtain ⟨k, rfl⟩ : ∃ m, k = m + 1 := ⟨k - 1, by omega⟩
    obtain rfl : i = 7 := by omega
    simp only [chargeparklaw26_DaysWeeks.l0]
    rw [if_neg (by omega), (many7 d).1, (many7 d).2]
    cases up <;> rfl
  | succ n ih =>
    intro k i hi hk
    obtain ⟨k, rfl⟩ : ∃ m, k = m + 2 := ⟨k - 2, by omega⟩
    have m0 := many_range 0 d i
    have m1 := many_range 1 d i
    have hih := ih k (i + 1) (by omega) (by omega)
    simp only [chargeparklaw26_DaysWeeks.l0]
    rw [if_pos (by omega), wrap_id (x := d + i) (by omega) (by omega), wrap_id (x := d + i + 7) (by omega) (by omega), wrap_id (x := d + i + 1) (by omega) (by omega), weeks_type hv (by omega) (by omega), weeks_type hv (by omega) (by omega), weeks_type hv (by omega) (by omega), weekOf_7]
    simp only [Option.bind_some, if_true]
    rw [week_next (d + i), bne_self_eq_false]
    simp only [chargeparklaw26_DaysWeeks.j1]
    rw [if_neg (by simp), wrap_id (x := manyI 0 d i + 1) (by omega) (by omega), wrap_id (x := manyI 1 d i + 1) (by omega) (by omega), wrap_id (x := (i : Int) + 1) (by omega) (by omega)]
    simp only [manyI] at hih
    rw [show ((i + 1 : Nat) : Int) = (i : Int) + 1 by omega] at hih
    by_cases c0 : weekOf (d + i) = 0
    · rw [if_pos c0] at hih ⊢
      rw [if_neg (by omega)] at hih ⊢
      rw [Int.add_zero] at hih
      exact hih
    · rw [if_neg c0] at hih ⊢
      rw [Int.add_zero] at hih
      by_cases c1 : weekOf (d + i) = 1
      · rw [if_pos c1] at hih ⊢; exact hih
      · rw [if_neg c1] at hih ⊢; rw [Int.add_zero] at hih; exact hih
theorem DaysWeeks :
    ∀ (a0_0 : Int) (l0_1 : List (S37)) (l0_2 : List Int) (a1 : Int), (Lit.int .i64 a0_0).wf = true → l0_1.length ≤ maxLen → l0_1.length * 16 ≤ 140737488351232 → (∀ x ∈ l0_1, Wf37 x) → l0_2.length ≤ maxLen → l0_2.length * 8 ≤ 140737488351232 → (∀ x ∈ l0_2, (Lit.int .i64 x).wf = true) → (Lit.int .u16 a1).wf = true → ∃ k, chargeparklaw26_DaysWeeks.f k a0_0 l0_1 l0_2 a1 = some true := by
  intro o cs hs n _ _ _ _ _ _ _ hn
  refine ⟨70, ?_⟩
  have hb : 0 ≤ n ∧ n ≤ 65535 := by simp [Lit.wf, IntKind.min, IntKind.max, IntKind.bits, IntKind.signed] at hn; omega
  unfold chargeparklaw26_DaysWeeks.f
  rw [head26 69, Option.bind_some, usable26 _ _ _ _ (by omega), Option.bind_some]
  cases hv : dvalidB o cs [] with
  | false => rfl
  | true =>
    rw [if_pos rfl, wrap_id (x := n) (by omega) (by omega), Int.tmod_eq_emod_of_nonneg (by omega), wrap_id (by omega) (by omega)]
    exact weeks_l0 true (n % 36480 - 1) o cs hv (by omega) (by omega) 7 70 0 (by omega) (by omega)

end Go.Proofs.Ytnbfjdfmpadndaa.Pure
