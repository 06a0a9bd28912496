/- One byte of a number, exclusive or: that byte is another one, the others are the same. -/
import Derived.Test.YtenkffjlpdappaaPLink
import Derived.Test.YtenkffjlpdappaaHChange40
namespace Go.Proofs.Ytenkffjlpdappaa.Pr
open Go.RowKit Go.Proofs.YtenkffjlpdappaaW.PrintWords Go.Proofs.YtenkffjlpdappaaW.PrintLast Go.Proofs.YtenkffjlpdappaaW.PrintMore
set_option linter.unusedVariables false
theorem xorI_u (n v : Int) : IntKind.u64.wrap (Go.bits .xor .i64 n v) = (((n % 18446744073709551616).toNat ^^^ (v % 18446744073709551616).toNat : Nat) : Int) := by
  have hx : (n % 18446744073709551616).toNat ^^^ (v % 18446744073709551616).toNat < 2 ^ 64 := Nat.xor_lt_two_pow (by omega) (by omega)
  show IntKind.u64.wrap (IntKind.i64.wrap ((BitVec.ofInt 64 n ^^^ BitVec.ofInt 64 v).toNat : Int)) = _
  rw [BitVec.toNat_xor, BitVec.toNat_ofInt, BitVec.toNat_ofInt, IntKind.wrap_u64]
  generalize hq : (n % 18446744073709551616).toNat ^^^ (v % 18446744073709551616).toNat = q at hx
  simp [IntKind.wrap, IntKind.bits, IntKind.signed]
  split <;> omega
/-- A byte p places from the end of a number, of which the front byte has index 0. -/
theorem byte_xor {X B : Nat} (k : Nat) : (X ^^^ B) / 2 ^ k % 256 = (X / 2 ^ k % 256) ^^^ (B / 2 ^ k % 256) := by
  rw [← Nat.shiftRight_eq_div_pow, ← Nat.shiftRight_eq_div_pow, ← Nat.shiftRight_eq_div_pow, Nat.shiftRight_xor_distrib]
  exact Nat.xor_mod_two_pow (n := 8)
theorem xor_ne {a b : Nat} (h : b ≠ 0) : a ^^^ b ≠ a := by
  intro e
  have := congrArg (a ^^^ ·) e
  simp only [← Nat.xor_assoc, Nat.xor_self, Nat.zero_xor] at this
  exact h this
/-- by, p bytes up. -/
theorem up_byte {b p q : Nat} (hb : b < 256) (hp : p < 8) (hq : q < 8) : b * 2 ^ (8 * p) / 2 ^ (8 * q) % 256 = if p = q then b else 0 := by
  have hp' : p = 0 ∨ p = 1 ∨ p = 2 ∨ p = 3 ∨ p = 4 ∨ p = 5 ∨ p = 6 ∨ p = 7 := by omega
  have hq' : q = 0 ∨ q = 1 ∨ q = 2 ∨ q = 3 ∨ q = 4 ∨ q = 5 ∨ q = 6 ∨ q = 7 := by omega
  rcases hp' with rfl | rfl | rfl | rfl | rfl | rfl | rfl | rfl <;> rcases hq' with rfl | rfl | rfl | rfl | rfl | rfl | rfl | rfl <;> simp <;> omega
theorem byteK_nat (n : Int) (k : Nat) : byteK n k = (((n % 18446744073709551616).toNat / 2 ^ (56 - 8 * k) % 256 : Nat) : Int) := by
  unfold byteK
  rw [IntKind.wrap_u64]
  obtain ⟨X, hX⟩ := Int.eq_ofNat_of_zero_le (Int.emod_nonneg n (show (18446744073709551616 : Int) ≠ 0 by decide))
  rw [hX]
  simp
theorem byteAt_nat {a2 a3 : Int} (h0 : 0 ≤ a2) (h1 : a2 < 256) (h2 : 0 ≤ a3) (h3 : a3 < 256) : byteAt a2 a3 = ((a3.toNat * 2 ^ (8 * (a2.toNat % 8)) : Nat) : Int) ∧ a3.toNat * 2 ^ (8 * (a2.toNat % 8)) < 18446744073709551616 := by
  obtain ⟨A, rfl⟩ := Int.eq_ofNat_of_zero_le h0
  obtain ⟨B, rfl⟩ := Int.eq_ofNat_of_zero_le h2
  unfold byteAt
  rw [Int.tmod_eq_emod_of_nonneg h0, wrap_u64_small h2 (by omega)]
  have hp : A % 8 < 8 := Nat.mod_lt _ (by omega)
  have e : min (8 * ((A : Int) % 8) % 256).toNat 64 = 8 * (A % 8) := by omega
  rw [e, Int.toNat_natCast, Int.toNat_natCast]
  generalize A % 8 = p at hp
  have hb : B * 2 ^ (8 * p) < 18446744073709551616 := by
    have : 2 ^ (8 * p) ≤ 2 ^ 56 := Nat.pow_le_pow_right (by omega) (by omega)
    have := Nat.mul_le_mul (show B ≤ 255 by omega) this
    omega
  refine ⟨?_, hb⟩
  have c : (B : Int) * 2 ^ (8 * p) = ((B * 2 ^ (8 * p) : Nat) : Int) := by simp
  rw [c, wrap_u64_small (by omega) (by omega)]
/-- The bytes of a number that was changed. -/
theorem changed_byte {n a2 a3 : Int} (h0 : 0 ≤ a2) (h1 : a2 < 256) (h2 : 0 ≤ a3) (h3 : a3 < 256) {k : Nat} (hk : k < 8) :
    (7 - k = a2.toNat % 8 → a3 ≠ 0 → byteK (Go.bits .xor .i64 n (wrap64 (byteAt a2 a3))) k ≠ byteK n k) ∧ (7 - k ≠ a2.toNat % 8 → byteK (Go.bits .xor .i64 n (wrap64 (byteAt a2 a3))) k = byteK n k) := by
  obtain ⟨hB, hlt⟩ := byteAt_nat h0 h1 h2 h3
  have e : byteK (Go.bits .xor .i64 n (wrap64 (byteAt a2 a3))) k = ((((n % 18446744073709551616).toNat ^^^ (a3.toNat * 2 ^ (8 * (a2.toNat % 8)))) / 2 ^ (8 * (7 - k)) % 256 : Nat) : Int) := by
    have hx : (n % 18446744073709551616).toNat ^^^ (a3.toNat * 2 ^ (8 * (a2.toNat % 8))) < 2 ^ 64 := Nat.xor_lt_two_pow (by omega) (by omega)
    unfold byteK
    rw [xorI_u, hB, show (56 - 8 * k) = 8 * (7 - k) by omega]
    have hv : (wrap64 ((a3.toNat * 2 ^ (8 * (a2.toNat % 8)) : Nat) : Int) % 18446744073709551616).toNat = a3.toNat * 2 ^ (8 * (a2.toNat % 8)) := by
      unfold wrap64; omega
    rw [hv]
    simp
  rw [e, byteK_nat, show (56 - 8 * k) = 8 * (7 - k) by omega, byte_xor, up_byte (by omega) (Nat.mod_lt _ (by omega)) (by omega)]
  refine ⟨fun h hz => ?_, fun h => ?_⟩
  · rw [if_pos h.symm]
    intro q
    exact xor_ne (show a3.toNat ≠ 0 by omega) (Int.ofNat.inj q)
  · rw [if_neg (fun q => h q.symm), Nat.xor_zero]
end Go.Proofs.Ytenkffjlpdappaa.Pr
