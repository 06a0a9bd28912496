/- The reference of the records computes what the program computes. -/
import Derived.Test.YtenkffjlpdappaaPRecord
import Derived.Test.YtenkffjlpdappaaPChainR
import Derived.Test.YtenkffjlpdappaaPrx5
import Derived.Test.YtenkffjlpdappaaPrx6
import Derived.Test.YtenkffjlpdappaaPrx11
import Derived.Test.YtenkffjlpdappaaPrx10
namespace Go.Proofs.Ytenkffjlpdappaa.Pr
open Go.RowKit Go.Proofs.YtenkffjlpdappaaW.PrintWords Go.Proofs.YtenkffjlpdappaaW.PrintLast Go.Proofs.YtenkffjlpdappaaW.PrintMore
set_option linter.unusedVariables false
theorem ref_valid_j0 (k : Nat) (b : Bool) (a0 a1 a2 a3 a4 a5 a6 a7 a8 a9 a10 a11 a12 : Int) (hb : b = false ↔ (1 ≤ a0 ∧ a0 ≤ 1000000 ∧ 0 ≤ a1 ∧ a1 ≤ 15 ∧ 1 ≤ a2 ∧ a2 ≤ 1000000)) : chargeparkref41_Valid.j0 (k + 1) b a0 a1 a2 a3 a4 a5 a6 a7 a8 a9 a10 a11 a12 = some (recB a0 a1 a2 a3 a4 a5 a6 a7 a8) := by
  simp only [chargeparkref41_Valid.j0]
  cases b with
  | true => rw [if_pos rfl, recB_no (fun q => by have := hb.2 (by omega); simp at this)]
  | false =>
    have hh := hb.1 rfl
    rw [if_neg (by simp)]
    by_cases h0 : a3 < 0
    · rw [if_pos h0, recB_no (by omega)]
    rw [if_neg h0]
    by_cases h1 : a3 ≥ 8
    · rw [if_pos h1, recB_no (by omega)]
    rw [if_neg h1]
    by_cases h2 : a4 < 0
    · rw [if_pos h2, recB_no (by omega)]
    rw [if_neg h2]
    by_cases h3 : a4 ≥ 8
    · rw [if_pos h3, recB_no (by omega)]
    rw [if_neg h3]
    by_cases h4 : a5 < 1
    · rw [if_pos h4, recB_no (by omega)]
    rw [if_neg h4]
    by_cases h5 : a5 > a6
    · rw [if_pos h5, recB_no (by omega)]
    rw [if_neg h5]
    by_cases h6 : a6 > 64
    · rw [if_pos h6, recB_no (by omega)]
    rw [if_neg h6]
    by_cases g0 : a7 ≥ 0
    rotate_left
    · rw [if_neg g0, recB_no (by omega)]
    rw [if_pos g0]
    by_cases g1 : a7 ≤ 64000000000
    rotate_left
    · rw [if_neg g1, recB_no (by omega)]
    rw [if_pos g1]
    by_cases g2 : a8 ≥ 0
    rotate_left
    · rw [if_neg g2, recB_no (by omega)]
    rw [if_pos g2]
    by_cases g4 : a8 ≤ 1000000000
    · rw [decide_eq_true g4, recB_iff.2 (by omega)]
    · rw [decide_eq_false g4, recB_no (by omega)]
theorem ref_validR (k : Nat) (a0 a1 a2 a3 a4 a5 a6 a7 a8 a9 a10 a11 a12 : Int) : chargeparkref41_Valid.f (k + 1) a0 a1 a2 a3 a4 a5 a6 a7 a8 a9 a10 a11 a12 = some (recB a0 a1 a2 a3 a4 a5 a6 a7 a8) := by
  unfold chargeparkref41_Valid.f
  have T : ∀ b : Bool, (b = false ↔ (1 ≤ a0 ∧ a0 ≤ 1000000 ∧ 0 ≤ a1 ∧ a1 ≤ 15 ∧ 1 ≤ a2 ∧ a2 ≤ 1000000)) → chargeparkref41_Valid.j0 (k + 1) b a0 a1 a2 a3 a4 a5 a6 a7 a8 a9 a10 a11 a12 = some (recB a0 a1 a2 a3 a4 a5 a6 a7 a8) := fun b hb => ref_valid_j0 k b a0 a1 a2 a3 a4 a5 a6 a7 a8 a9 a10 a11 a12 hb
  by_cases h0 : a0 < 1
  · rw [if_pos h0]; exact T true ⟨fun q => by simp at q, fun q => by omega⟩
  rw [if_neg h0]
  by_cases h1 : a0 > 1000000
  · rw [if_pos h1]; exact T true ⟨fun q => by simp at q, fun q => by omega⟩
  rw [if_neg h1]
  by_cases h2 : a2 < 1
  · rw [if_pos h2]; exact T true ⟨fun q => by simp at q, fun q => by omega⟩
  rw [if_neg h2]
  by_cases h3 : a2 > 1000000
  · rw [if_pos h3]; exact T true ⟨fun q => by simp at q, fun q => by omega⟩
  rw [if_neg h3]
  by_cases h4 : a1 < 0
  · rw [if_pos h4]; exact T true ⟨fun q => by simp at q, fun q => by omega⟩
  rw [if_neg h4]
  refine T _ ⟨fun q => ?_, fun q => ?_⟩
  · have := of_decide_eq_false q; omega
  · exact decide_eq_false (by omega)
theorem ref_sign (k : Nat) (a0 a1 a2 a3 a4 a5 a6 a7 a8 a9 a10 a11 a12 key : Int) : chargeparkref41_Sign.f (k + 9) a0 a1 a2 a3 a4 a5 a6 a7 a8 a9 a10 a11 a12 key = some (signF a0 a1 a2 a3 a4 a5 a6 a7 a8 key) := by
  unfold chargeparkref41_Sign.f
  rw [ref_link, Option.bind_some, ref_link, Option.bind_some, ref_link, Option.bind_some]
  rfl
theorem ref_checkR (k : Nat) (a0 a1 a2 a3 a4 a5 a6 a7 a8 a9 a10 a11 a12 k0 k1 k2 k3 : Int) : chargeparkref41_Check.f (k + 20) a0 a1 a2 a3 a4 a5 a6 a7 a8 a9 a10 a11 a12 k0 k1 k2 k3 = record_Check.f a0 a1 a2 a3 a4 a5 a6 a7 a8 a9 a10 a11 a12 k0 k1 k2 k3 := by
  unfold chargeparkref41_Check.f record_Check.f
  rw [show k + 20 = (k + 19) + 1 from rfl, ref_validR, isRec_f, Option.bind_some, Option.bind_some]
  cases recB a0 a1 a2 a3 a4 a5 a6 a7 a8 with
  | false => rw [if_neg (by simp), if_neg (by simp)]
  | true =>
    rw [if_pos rfl, if_pos rfl]
    have E : ∀ n : Nat, chargeparkref41_Sign.f (n + 9) a0 a1 a2 a3 a4 a5 a6 a7 a8 a9 a10 a11 a12 = fun key => some (signF a0 a1 a2 a3 a4 a5 a6 a7 a8 key) := fun n => funext fun key => ref_sign n a0 a1 a2 a3 a4 a5 a6 a7 a8 a9 a10 a11 a12 key
    have w1 : wrap64 (0 + 1) = 1 := wrapK (by omega) (by omega)
    have w2 : wrap64 (1 + 1) = 2 := wrapK (by omega) (by omega)
    have w3 : wrap64 (2 + 1) = 3 := wrapK (by omega) (by omega)
    have w4 : wrap64 (3 + 1) = 4 := wrapK (by omega) (by omega)
    unfold recFrom
    rw [chargeparkref41_Check.l0, if_pos (by decide), if_pos rfl, show k + 19 = (k + 10) + 9 by omega, E, Option.bind_some]
    by_cases e0 : a9 = signF a0 a1 a2 a3 a4 a5 a6 a7 a8 k0
    rotate_left
    · rw [if_neg e0, if_pos ⟨by decide, fun q => e0 q.symm⟩]
    rw [if_pos e0, if_neg (fun q => q.2 e0.symm), w1, show (k + 10) + 9 = (k + 18) + 1 by omega, chargeparkref41_Check.l0, if_pos (by decide), if_neg (by decide), if_pos rfl, show k + 18 = (k + 9) + 9 by omega, E, Option.bind_some]
    by_cases e1 : a10 = signF a0 a1 a2 a3 a4 a5 a6 a7 a8 k1
    rotate_left
    · rw [if_neg e1, if_pos ⟨by decide, fun q => e1 q.symm⟩]
    rw [if_pos e1, if_neg (fun q => q.2 e1.symm), w2, show (k + 9) + 9 = (k + 17) + 1 by omega, chargeparkref41_Check.l0, if_pos (by decide), if_neg (by decide), if_neg (by decide), if_pos rfl, show k + 17 = (k + 8) + 9 by omega, E, Option.bind_some]
    by_cases e2 : a11 = signF a0 a1 a2 a3 a4 a5 a6 a7 a8 k2
    rotate_left
    · rw [if_neg e2, if_pos ⟨by decide, fun q => e2 q.symm⟩]
    rw [if_pos e2, if_neg (fun q => q.2 e2.symm), w3, show (k + 8) + 9 = (k + 16) + 1 by omega, chargeparkref41_Check.l0, if_pos (by decide), if_neg (by decide), if_neg (by decide), if_neg (by decide), if_pos rfl, show k + 16 = (k + 7) + 9 by omega, E, Option.bind_some]
    by_cases e3 : a12 = signF a0 a1 a2 a3 a4 a5 a6 a7 a8 k3
    rotate_left
    · rw [if_neg e3, if_pos ⟨by decide, fun q => e3 q.symm⟩]
    rw [if_pos e3, if_neg (fun q => q.2 e3.symm), w4, show (k + 7) + 9 = (k + 15) + 1 by omega, chargeparkref41_Check.l0, if_neg (by decide)]
theorem ref_close_l0 (k : Nat) (a0 a1 a2 a3 a4 a5 a6 a7 a8 a9 a10 a11 a12 k0 k1 k2 k3 n : Int) : chargeparkref41_Close.l0 (k + 20) 0 a0 a1 a2 a3 a4 a5 a6 n a8 a9 a10 a11 a12 k0 k1 k2 k3 = some (a0, a1, a2, a3, a4, a5, a6, n, a8, signF a0 a1 a2 a3 a4 a5 a6 n a8 k0, signF a0 a1 a2 a3 a4 a5 a6 n a8 k1, signF a0 a1 a2 a3 a4 a5 a6 n a8 k2, signF a0 a1 a2 a3 a4 a5 a6 n a8 k3, 0) := by
  have E : ∀ (m : Nat) (a0 a1 a2 a3 a4 a5 a6 a7 a8 a9 a10 a11 a12 key : Int), chargeparkref41_Sign.f (m + 9) a0 a1 a2 a3 a4 a5 a6 a7 a8 a9 a10 a11 a12 key = some (signF a0 a1 a2 a3 a4 a5 a6 a7 a8 key) := fun m a0 a1 a2 a3 a4 a5 a6 a7 a8 a9 a10 a11 a12 key => ref_sign m a0 a1 a2 a3 a4 a5 a6 a7 a8 a9 a10 a11 a12 key
  have w1 : wrap64 (0 + 1) = 1 := wrapK (by omega) (by omega)
  have w2 : wrap64 (1 + 1) = 2 := wrapK (by omega) (by omega)
  have w3 : wrap64 (2 + 1) = 3 := wrapK (by omega) (by omega)
  have w4 : wrap64 (3 + 1) = 4 := wrapK (by omega) (by omega)
  rw [show k + 20 = (k + 19) + 1 from rfl, chargeparkref41_Close.l0, if_pos (by decide), if_pos rfl, show k + 19 = (k + 10) + 9 by omega, E, Option.bind_some, w1,
    show (k + 10) + 9 = (k + 18) + 1 by omega, chargeparkref41_Close.l0, if_pos (by decide), if_neg (by decide), if_pos rfl, show k + 18 = (k + 9) + 9 by omega, E, Option.bind_some, w2,
    show (k + 9) + 9 = (k + 17) + 1 by omega, chargeparkref41_Close.l0, if_pos (by decide), if_neg (by decide), if_neg (by decide), if_pos rfl, show k + 17 = (k + 8) + 9 by omega, E, Option.bind_some, w3,
    show (k + 8) + 9 = (k + 16) + 1 by omega, chargeparkref41_Close.l0, if_pos (by decide), if_neg (by decide), if_neg (by decide), if_neg (by decide), if_pos rfl, show k + 16 = (k + 7) + 9 by omega, E, Option.bind_some, w4,
    show (k + 7) + 9 = (k + 15) + 1 by omega, chargeparkref41_Close.l0, if_neg (by decide)]
theorem ref_close (l : List S44) (k : Nat) (hl : l.length ≤ 100) (hk : l.length + 30 < k) (a0 a1 a2 a3 a4 a5 a6 a7 a8 a9 a10 a11 a12 k0 k1 k2 k3 : Int) : chargeparkref41_Close.f k a0 a1 a2 a3 a4 a5 a6 a7 a8 a9 a10 a11 a12 l k0 k1 k2 k3 = record_Close.f a0 a1 a2 a3 a4 a5 a6 a7 a8 a9 a10 a11 a12 l k0 k1 k2 k3 := by
  unfold chargeparkref41_Close.f record_Close.f
  obtain ⟨k, rfl⟩ : ∃ k', k = k' + 20 := ⟨k - 20, by omega⟩
  rw [show k + 20 = (k + 19) + 1 from rfl, ref_validR, isRec_f, Option.bind_some, Option.bind_some]
  cases recB a0 a1 a2 a3 a4 a5 a6 0 a8 with
  | false => rw [if_neg (by simp), if_neg (by simp)]
  | true =>
    rw [if_pos rfl, if_pos rfl, show (k + 19) + 1 = k + 20 from rfl, ref_energy l _ a5 a6 hl (by omega)]
    cases chain_Energy.f l a5 a6 with
    | none => rw [Option.bind_none, Option.bind_none]
    | some e =>
      rw [Option.bind_some, Option.bind_some]
      by_cases z : e.2 = 0
      · rw [if_pos z, if_pos z]
        exact ref_close_l0 k a0 a1 a2 a3 a4 a5 a6 a7 a8 a9 a10 a11 a12 k0 k1 k2 k3 e.1
      · rw [if_neg z, if_neg z]
end Go.Proofs.Ytenkffjlpdappaa.Pr
