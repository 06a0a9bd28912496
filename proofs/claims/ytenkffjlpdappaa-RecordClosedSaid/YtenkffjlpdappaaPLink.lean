/- Links, in plain words: injective in the state and in each byte. -/
import Derived.Test.YtenkffjlpdappaaHChain
import Derived.Test.YtenkffjlpdappaaPrOpn
import Derived.Laws.BitsAllLaws
namespace Go.Proofs.Ytenkffjlpdappaa.Pr
open Go.RowKit Go.Proofs.YtenkffjlpdappaaW.PrintWords Go.Proofs.YtenkffjlpdappaaW.PrintLast Go.Proofs.YtenkffjlpdappaaW.PrintMore
set_option linter.unusedVariables false
theorem wrapK {x : Int} (h0 : -9223372036854775808 ≤ x) (h1 : x ≤ 9223372036854775807) : wrap64 x = x := by unfold wrap64; omega
/-- Of 64 bits. -/
def W64 (x : Int) : Prop := 0 ≤ x ∧ x < 18446744073709551616
theorem W64_of_wf {x : Int} (h : (Lit.int .u64 x).wf = true) : W64 x := by
  simp [Lit.wf, IntKind.min, IntKind.max, IntKind.signed, IntKind.bits] at h
  unfold W64
  omega
/-- One byte's step. -/
def stepK (x b : Int) : Int := IntKind.u64.wrap (Go.bits .xor .u64 x b * 1099511628211)
theorem stepK_w (x b : Int) : W64 (stepK x b) := by unfold stepK W64; rw [IntKind.wrap_u64]; omega
theorem mul_inj {a b : Int} (ha : W64 a) (hb : W64 b) (h : a * 1099511628211 % 18446744073709551616 = b * 1099511628211 % 18446744073709551616) : a = b := by
  unfold W64 at ha hb
  obtain ⟨k, hk⟩ := Int.dvd_of_emod_eq_zero (Int.emod_eq_emod_iff_emod_sub_eq_zero.1 h)
  have hPQ : (1099511628211 * 14886173955864302971 : Int) = 1 + 18446744073709551616 * 887285111055 := by decide
  have e1 : (a - b) * (1099511628211 * 14886173955864302971) = 18446744073709551616 * (k * 14886173955864302971) := by rw [← Int.mul_assoc, Int.sub_mul, hk, Int.mul_assoc]
  rw [hPQ, Int.mul_add, Int.mul_one, Int.mul_left_comm] at e1
  have e2 : a - b = 18446744073709551616 * (k * 14886173955864302971 - (a - b) * 887285111055) := by rw [Int.mul_sub]; rw [← e1]; exact (Int.add_sub_cancel _ _).symm
  generalize (k * 14886173955864302971 - (a - b) * 887285111055) = c at e2
  clear e1 hPQ hk h
  omega
theorem xor_w {a b : Int} (ha : W64 a) (hb : W64 b) : W64 (Go.bits .xor .u64 a b) := by
  obtain ⟨a0, a1⟩ := ha; obtain ⟨b0, b1⟩ := hb
  rw [u64_xor a b a0 a1 b0 b1]
  have : a.toNat ^^^ b.toNat < 2 ^ 64 := Nat.xor_lt_two_pow (by omega) (by omega)
  unfold W64
  omega
theorem xor_inj {a b c d : Int} (ha : W64 a) (hb : W64 b) (hc : W64 c) (hd : W64 d) (h : Go.bits .xor .u64 a b = Go.bits .xor .u64 c d) : (a = c ↔ b = d) := by
  obtain ⟨a0, a1⟩ := ha; obtain ⟨b0, b1⟩ := hb; obtain ⟨c0, c1⟩ := hc; obtain ⟨d0, d1⟩ := hd
  rw [u64_xor a b a0 a1 b0 b1, u64_xor c d c0 c1 d0 d1] at h
  have h' : a.toNat ^^^ b.toNat = c.toNat ^^^ d.toNat := by exact_mod_cast h
  constructor
  · rintro rfl
    have := congrArg (a.toNat ^^^ ·) h'
    simp only [← Nat.xor_assoc, Nat.xor_self, Nat.zero_xor] at this
    omega
  · rintro rfl
    have := congrArg (· ^^^ b.toNat) h'
    simp only [Nat.xor_assoc, Nat.xor_self, Nat.xor_zero] at this
    omega
theorem stepK_inj {a b c d : Int} (ha : W64 a) (hb : W64 b) (hc : W64 c) (hd : W64 d) (h : stepK a b = stepK c d) : (a = c ↔ b = d) := by
  unfold stepK at h
  rw [IntKind.wrap_u64, IntKind.wrap_u64] at h
  exact xor_inj ha hb hc hd (mul_inj (xor_w ha hb) (xor_w hc hd) h)
theorem byte_w (n : Int) (k : Nat) : W64 (byteK n k) := by have := byteK_range n k; unfold W64; omega
theorem linkF_succ (ns : List Int) (x : Int) (m : Nat) : linkF ns x (m + 1) = stepK (linkF ns x m) (byteK (ns.getD (m / 8) 0) (m % 8)) := rfl
theorem linkF_w (ns : List Int) {x : Int} (hx : W64 x) : ∀ m, W64 (linkF ns x m)
  | 0 => hx
  | m + 1 => by rw [linkF_succ]; exact stepK_w _ _
/-- Different states lead to different links. -/
theorem linkF_state (ns : List Int) {x y : Int} (hx : W64 x) (hy : W64 y) : ∀ m, linkF ns x m = linkF ns y m → x = y
  | 0, h => h
  | m + 1, h => by
    rw [linkF_succ, linkF_succ] at h
    exact linkF_state ns hx hy m ((stepK_inj (linkF_w ns hx m) (byte_w _ _) (linkF_w ns hy m) (byte_w _ _) h).2 rfl)
/-- If exactly one byte is another one, so is the link. -/
theorem linkF_byte {ns ms : List Int} {x : Int} (hx : W64 x) (j : Nat) (hj : byteK (ns.getD (j / 8) 0) (j % 8) ≠ byteK (ms.getD (j / 8) 0) (j % 8)) (ho : ∀ i, i ≠ j → byteK (ns.getD (i / 8) 0) (i % 8) = byteK (ms.getD (i / 8) 0) (i % 8)) :
    ∀ m, (m ≤ j → linkF ns x m = linkF ms x m) ∧ (j < m → linkF ns x m ≠ linkF ms x m)
  | 0 => ⟨fun _ => rfl, fun h => absurd h (Nat.not_lt_zero _)⟩
  | m + 1 => by
    have ih := linkF_byte hx j hj ho m
    rw [linkF_succ, linkF_succ]
    refine ⟨fun h => by rw [ih.1 (by omega), ho m (by omega)], fun h e => ?_⟩
    have hh := stepK_inj (linkF_w ns hx m) (byte_w _ _) (linkF_w ms hx m) (byte_w _ _) e
    by_cases q : m = j
    · subst q; exact hj (hh.1 (ih.1 (Nat.le_refl _)))
    · exact ih.2 (by omega) (hh.2 (ho m q))
end Go.Proofs.Ytenkffjlpdappaa.Pr
