/- A reading that was changed has another link than the one that it bears. -/
import Derived.Test.YtenkffjlpdappaaPChainX
namespace Go.Proofs.Ytenkffjlpdappaa.Pr
open Go.RowKit Go.Proofs.YtenkffjlpdappaaW.PrintWords Go.Proofs.YtenkffjlpdappaaW.PrintLast Go.Proofs.YtenkffjlpdappaaW.PrintMore
set_option linter.unusedVariables false
theorem link_ne {ns ms : List Int} {st : Int} (hst : W64 st) (w p : Nat) (hw : w < 4) (hp : p < 8) (ho : ∀ v, v ≠ w → ns.getD v 0 = ms.getD v 0)
    (hb : ∀ k, k < 8 → (7 - k = p → byteK (ns.getD w 0) k ≠ byteK (ms.getD w 0) k) ∧ (7 - k ≠ p → byteK (ns.getD w 0) k = byteK (ms.getD w 0) k)) : linkF ns st 32 ≠ linkF ms st 32 := by
  refine (linkF_byte hst (8 * w + (7 - p)) ?_ ?_ 32).2 (by omega)
  · rw [show (8 * w + (7 - p)) / 8 = w by omega, show (8 * w + (7 - p)) % 8 = 7 - p by omega]
    exact (hb (7 - p) (by omega)).1 (by omega)
  · intro i hi
    by_cases e : i / 8 = w
    · rw [e]; exact (hb (i % 8) (by omega)).2 (by omega)
    · rw [ho _ e]
theorem changed_bad {x0 x1 x2 x3 x4 a1 a2 a3 st r1 r2 r3 r4 r5 : Int} (hst : W64 st) (h2 : 0 ≤ a2) (h3 : a2 < 256) (h4 : 0 ≤ a3) (h5 : a3 < 256) (hz : a3 ≠ 0) (hx : x4 = linkF [x0, x1, x2, x3] st 32)
    (hr : chargeparklaw40_changed.f x0 x1 x2 x3 x4 a1 a2 a3 = some (r1, r2, r3, r4, r5)) : r5 ≠ linkF [r1, r2, r3, r4] st 32 := by
  have hb : ∀ n k, k < 8 → (7 - k = a2.toNat % 8 → byteK n k ≠ byteK (Go.bits .xor .i64 n (wrap64 (byteAt a2 a3))) k) ∧ (7 - k ≠ a2.toNat % 8 → byteK n k = byteK (Go.bits .xor .i64 n (wrap64 (byteAt a2 a3))) k) :=
    fun n k hk => ⟨fun e => ((changed_byte h2 h3 h4 h5 hk).1 e hz).symm, fun e => ((changed_byte h2 h3 h4 h5 hk).2 e).symm⟩
  have hp : a2.toNat % 8 < 8 := Nat.mod_lt _ (by omega)
  unfold chargeparklaw40_changed.f at hr
  by_cases g0 : Int.tmod a1 5 = 0
  · rw [if_pos g0] at hr
    simp only [Option.some.injEq, Prod.mk.injEq] at hr
    obtain ⟨rfl, rfl, rfl, rfl, rfl⟩ := hr
    rw [hx]
    exact link_ne hst 0 _ (by omega) hp (fun v hv => by match v with | 0 => exact absurd rfl hv | 1 => rfl | 2 => rfl | 3 => rfl | n + 4 => rfl) (hb x0)
  rw [if_neg g0] at hr
  by_cases g1 : Int.tmod a1 5 = 1
  · rw [if_pos g1] at hr
    simp only [Option.some.injEq, Prod.mk.injEq] at hr
    obtain ⟨rfl, rfl, rfl, rfl, rfl⟩ := hr
    rw [hx]
    exact link_ne hst 1 _ (by omega) hp (fun v hv => by match v with | 0 => rfl | 1 => exact absurd rfl hv | 2 => rfl | 3 => rfl | n + 4 => rfl) (hb x1)
  rw [if_neg g1] at hr
  by_cases g2 : Int.tmod a1 5 = 2
  · rw [if_pos g2] at hr
    simp only [Option.some.injEq, Prod.mk.injEq] at hr
    obtain ⟨rfl, rfl, rfl, rfl, rfl⟩ := hr
    rw [hx]
    exact link_ne hst 2 _ (by omega) hp (fun v hv => by match v with | 0 => rfl | 1 => rfl | 2 => exact absurd rfl hv | 3 => rfl | n + 4 => rfl) (hb x2)
  rw [if_neg g2] at hr
  by_cases g3 : Int.tmod a1 5 = 3
  · rw [if_pos g3] at hr
    simp only [Option.some.injEq, Prod.mk.injEq] at hr
    obtain ⟨rfl, rfl, rfl, rfl, rfl⟩ := hr
    rw [hx]
    exact link_ne hst 3 _ (by omega) hp (fun v hv => by match v with | 0 => rfl | 1 => rfl | 2 => rfl | 3 => exact absurd rfl hv | n + 4 => rfl) (hb x3)
  rw [if_neg g3] at hr
  simp only [Option.some.injEq, Prod.mk.injEq] at hr
  obtain ⟨rfl, rfl, rfl, rfl, rfl⟩ := hr
  rw [← hx]
  have hw : W64 x4 := by rw [hx]; exact linkF_w _ hst 32
  obtain ⟨hB, hlt⟩ := byteAt_nat h2 h3 h4 h5
  rw [hB, u64_xor x4 _ hw.1 hw.2 (by omega) (by omega), Int.toNat_natCast]
  intro e
  have e' : x4.toNat ^^^ (a3.toNat * 2 ^ (8 * (a2.toNat % 8))) = x4.toNat := by have := hw.1; omega
  refine xor_ne ?_ e'
  have : 0 < a3.toNat * 2 ^ (8 * (a2.toNat % 8)) := Nat.mul_pos (by omega) (Nat.pow_pos (by omega))
  omega
end Go.Proofs.Ytenkffjlpdappaa.Pr
