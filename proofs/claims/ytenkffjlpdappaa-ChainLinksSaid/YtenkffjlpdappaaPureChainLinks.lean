/- For any reading, different states lead to different links, and if one byte of one of its numbers is changed, its link after the same state is another one; its own Link does not matter. -/
import Derived.Test.YtenkffjlpdappaaPrx29
import Derived.Test.YtenkffjlpdappaaPrOpn
import Derived.Test.YtenkffjlpdappaaPChain
import Derived.Test.YtenkffjlpdappaaPChainX
import Derived.Test.YtenkffjlpdappaaPChainB
namespace Go.Proofs.Ytenkffjlpdappaa.Pure
open Go.RowKit Go.Proofs.Ytenkffjlpdappaa.Pr Go.Proofs.YtenkffjlpdappaaW.PrintWords Go.Proofs.YtenkffjlpdappaaW.PrintLast

theorem byte_xor0 (n a : Int) (h0 : 0 ≤ a) (h1 : a < 256) (k : Nat) : byteK (Go.bits .xor .i64 n (wrap64 (byteAt a 0))) k = byteK n k := by
  have hB := (byteAt_nat h0 h1 (Int.le_refl 0) (by decide)).1
  unfold byteK
  rw [xorI_u, hB, IntKind.wrap_u64]
  have : (wrap64 (((0 : Int).toNat * 2 ^ (8 * (a.toNat % 8)) : Nat) : Int) % 18446744073709551616).toNat = 0 := by simp [wrap64]
  rw [this, Nat.xor_zero]
  congr 1
  congr 1
  omega
theorem linkF_congr {ns ms : List Int} (x : Int) (h : ∀ v, v < 4 → ∀ k, byteK (ns.getD v 0) k = byteK (ms.getD v 0) k) : ∀ m, m ≤ 32 → linkF ns x m = linkF ms x m
  | 0, _ => rfl
  | m + 1, hm => by rw [linkF_succ, linkF_succ, linkF_congr x h m (by omega), h (m / 8) (by omega)]
theorem swap4 (x0 x1 x2 x3 x4 a2 a3 st : Int) (hst : W64 st) (h2 : 0 ≤ a2) (h3 : a2 < 256) (h4 : 0 ≤ a3) (h5 : a3 < 256) (w : Int) (w0 : 0 ≤ w) (w1 : w < 4) :
    ∃ r1 r2 r3 r4 r5, chargeparklaw40_changed.f x0 x1 x2 x3 x4 w a2 a3 = some (r1, r2, r3, r4, r5) ∧ ((linkF [x0, x1, x2, x3] st 32 == linkF [r1, r2, r3, r4] st 32) = (a3 == 0)) := by
  have hb : ∀ n k, k < 8 → a3 ≠ 0 → (7 - k = a2.toNat % 8 → byteK n k ≠ byteK (Go.bits .xor .i64 n (wrap64 (byteAt a2 a3))) k) ∧ (7 - k ≠ a2.toNat % 8 → byteK n k = byteK (Go.bits .xor .i64 n (wrap64 (byteAt a2 a3))) k) :=
    fun n k hk hz => ⟨fun e => ((changed_byte h2 h3 h4 h5 hk).1 e hz).symm, fun e => ((changed_byte h2 h3 h4 h5 hk).2 e).symm⟩
  have hp : a2.toNat % 8 < 8 := Nat.mod_lt _ (by omega)
  have fin : ∀ r1 r2 r3 r4 : Int, (a3 ≠ 0 → linkF [x0, x1, x2, x3] st 32 ≠ linkF [r1, r2, r3, r4] st 32) → (a3 = 0 → linkF [x0, x1, x2, x3] st 32 = linkF [r1, r2, r3, r4] st 32) → ((linkF [x0, x1, x2, x3] st 32 == linkF [r1, r2, r3, r4] st 32) = (a3 == 0)) := by
    intro r1 r2 r3 r4 q1 q2
    by_cases z : a3 = 0
    · rw [beq_iff_eq.2 (q2 z), beq_iff_eq.2 z]
    · rw [beq_eq_false_iff_ne.2 (q1 z), beq_eq_false_iff_ne.2 z]
  have hw : w = 0 ∨ w = 1 ∨ w = 2 ∨ w = 3 := by omega
  unfold chargeparklaw40_changed.f
  rcases hw with rfl | rfl | rfl | rfl
  · rw [if_pos (by decide)]
    refine ⟨_, _, _, _, _, rfl, fin _ _ _ _ (fun z => link_ne hst 0 _ (by omega) hp (fun v hv => by match v with | 0 => exact absurd rfl hv | 1 => rfl | 2 => rfl | 3 => rfl | n + 4 => rfl) (fun k hk => hb x0 k hk z)) (fun z => ?_)⟩
    subst z
    exact linkF_congr st (fun v hv k => by match v with | 0 => exact (byte_xor0 x0 a2 h2 h3 k).symm | 1 => rfl | 2 => rfl | 3 => rfl | n + 4 => rfl) 32 (Nat.le_refl _)
  · rw [if_neg (by decide), if_pos (by decide)]
    refine ⟨_, _, _, _, _, rfl, fin _ _ _ _ (fun z => link_ne hst 1 _ (by omega) hp (fun v hv => by match v with | 0 => rfl | 1 => exact absurd rfl hv | 2 => rfl | 3 => rfl | n + 4 => rfl) (fun k hk => hb x1 k hk z)) (fun z => ?_)⟩
    subst z
    exact linkF_congr st (fun v hv k => by match v with | 0 => rfl | 1 => exact (byte_xor0 x1 a2 h2 h3 k).symm | 2 => rfl | 3 => rfl | n + 4 => rfl) 32 (Nat.le_refl _)
  · rw [if_neg (by decide), if_neg (by decide), if_pos (by decide)]
    refine ⟨_, _, _, _, _, rfl, fin _ _ _ _ (fun z => link_ne hst 2 _ (by omega) hp (fun v hv => by match v with | 0 => rfl | 1 => rfl | 2 => exact absurd rfl hv | 3 => rfl | n + 4 => rfl) (fun k hk => hb x2 k hk z)) (fun z => ?_)⟩
    subst z
    exact linkF_congr st (fun v hv k => by match v with | 0 => rfl | 1 => rfl | 2 => exact (byte_xor0 x2 a2 h2 h3 k).symm | 3 => rfl | n + 4 => rfl) 32 (Nat.le_refl _)
  · rw [if_neg (by decide), if_neg (by decide), if_neg (by decide), if_pos (by decide)]
    refine ⟨_, _, _, _, _, rfl, fin _ _ _ _ (fun z => link_ne hst 3 _ (by omega) hp (fun v hv => by match v with | 0 => rfl | 1 => rfl | 2 => rfl | 3 => exact absurd rfl hv | n + 4 => rfl) (fun k hk => hb x3 k hk z)) (fun z => ?_)⟩
    subst z
    exact linkF_congr st (fun v hv k => by match v with | 0 => rfl | 1 => rfl | 2 => rfl | 3 => exact (byte_xor0 x3 a2 h2 h3 k).symm | n + 4 => rfl) 32 (Nat.le_refl _)
theorem ChainLinks :
    ∀ (a0 : Int) (a1 : Int) (a2_0 : Int) (a2_1 : Int) (a2_2 : Int) (a2_3 : Int) (a2_4 : Int) (a3 : Int) (a4 : Int) (a5 : Int), (Lit.int .u64 a0).wf = true → (Lit.int .u64 a1).wf = true → (Lit.int .i64 a2_0).wf = true → (Lit.int .i64 a2_1).wf = true → (Lit.int .i64 a2_2).wf = true → (Lit.int .i64 a2_3).wf = true → (Lit.int .u64 a2_4).wf = true → (Lit.int .u8 a3).wf = true → (Lit.int .u8 a4).wf = true → (Lit.int .u8 a5).wf = true → chargeparklaw40_ChainLinks.f a0 a1 a2_0 a2_1 a2_2 a2_3 a2_4 a3 a4 a5 = some true := by
  intro a b x0 x1 x2 x3 x4 w t v ha hb _ _ _ _ _ hw ht hv
  unfold chargeparklaw40_ChainLinks.f
  have wa := W64_of_wf ha
  have wb := W64_of_wf hb
  have w8 : 0 ≤ w ∧ w < 256 := by simp [Lit.wf, IntKind.min, IntKind.max, IntKind.signed, IntKind.bits] at hw; omega
  have t8 : 0 ≤ t ∧ t < 256 := by simp [Lit.wf, IntKind.min, IntKind.max, IntKind.signed, IntKind.bits] at ht; omega
  have v8 : 0 ≤ v ∧ v < 256 := by simp [Lit.wf, IntKind.min, IntKind.max, IntKind.signed, IntKind.bits] at hv; omega
  have p0 : 0 ≤ Int.tmod w 4 := Int.tmod_nonneg _ w8.1
  have p1 : Int.tmod w 4 < 4 := Int.tmod_lt_of_pos _ (by omega)
  obtain ⟨r1, r2, r3, r4, r5, hr, he⟩ := swap4 x0 x1 x2 x3 x4 t v a wa t8.1 t8.2 v8.1 v8.2 _ p0 p1
  have hs : ((linkF [x0, x1, x2, x3] a 32 == linkF [x0, x1, x2, x3] b 32) = (a == b)) := by
    by_cases e : a = b
    · subst e; simp
    · rw [beq_eq_false_iff_ne.2 (fun q => e (linkF_state _ wa wb 32 q)), beq_eq_false_iff_ne.2 e]
  obtain ⟨ya, h1⟩ : ∃ y, linkF [x0, x1, x2, x3] a 32 = y := ⟨_, rfl⟩
  obtain ⟨yb, h2⟩ : ∃ y, linkF [x0, x1, x2, x3] b 32 = y := ⟨_, rfl⟩
  obtain ⟨yr, h3⟩ : ∃ y, linkF [r1, r2, r3, r4] a 32 = y := ⟨_, rfl⟩
  have e1 : ∀ z, chain_Link.f a x0 x1 x2 x3 z = some ya := fun z => by rw [← h1]; rfl
  have e2 : chain_Link.f b x0 x1 x2 x3 x4 = some yb := by rw [← h2]; rfl
  have e3 : chain_Link.f a r1 r2 r3 r4 r5 = some yr := by rw [← h3]; rfl
  rw [h1, h2] at hs
  rw [h1, h3] at he
  clear h1 h2 h3
  rw [head40, Option.bind_some, hr, Option.bind_some, if_pos rfl, e1, e1, e2, e3, Option.bind_some, Option.bind_some, hs, beq_self_eq_true, if_pos rfl, Option.bind_some, Option.bind_some, he, beq_self_eq_true, if_pos rfl, Option.bind_some, Option.bind_some, beq_self_eq_true]

end Go.Proofs.Ytenkffjlpdappaa.Pure
