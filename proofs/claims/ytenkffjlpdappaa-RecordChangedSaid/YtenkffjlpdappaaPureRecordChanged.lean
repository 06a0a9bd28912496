/- If exactly one byte of one of the nine numbers of a record is changed, its signature with every key is another one; and if it was accepted, it is refused for the first party. -/
import Derived.Test.YtenkffjlpdappaaPrx14
import Derived.Test.YtenkffjlpdappaaPrOpn
import Derived.Test.YtenkffjlpdappaaPRecord
import Derived.Test.YtenkffjlpdappaaPChainB
namespace Go.Proofs.Ytenkffjlpdappaa.Pure
open Go.RowKit Go.Proofs.Ytenkffjlpdappaa.Pr Go.Proofs.YtenkffjlpdappaaW.PrintWords Go.Proofs.YtenkffjlpdappaaW.PrintLast

theorem sign_ne {X : Int} (key : Int) (hk : W64 key) (p : Nat) (hp : p < 8) (hb : ∀ n k, k < 8 → (7 - k = p → byteK n k ≠ byteK (Go.bits .xor .i64 n X) k) ∧ (7 - k ≠ p → byteK n k = byteK (Go.bits .xor .i64 n X) k))
    (a0 a1 a2 a3 a4 a5 a6 a7 a8 : Int) :
    (signF a0 a1 a2 a3 a4 a5 a6 a7 a8 key ≠ signF (Go.bits .xor .i64 a0 X) a1 a2 a3 a4 a5 a6 a7 a8 key) ∧ (signF a0 a1 a2 a3 a4 a5 a6 a7 a8 key ≠ signF a0 (Go.bits .xor .i64 a1 X) a2 a3 a4 a5 a6 a7 a8 key) ∧ (signF a0 a1 a2 a3 a4 a5 a6 a7 a8 key ≠ signF a0 a1 (Go.bits .xor .i64 a2 X) a3 a4 a5 a6 a7 a8 key) ∧ (signF a0 a1 a2 a3 a4 a5 a6 a7 a8 key ≠ signF a0 a1 a2 (Go.bits .xor .i64 a3 X) a4 a5 a6 a7 a8 key) ∧ (signF a0 a1 a2 a3 a4 a5 a6 a7 a8 key ≠ signF a0 a1 a2 a3 (Go.bits .xor .i64 a4 X) a5 a6 a7 a8 key) ∧ (signF a0 a1 a2 a3 a4 a5 a6 a7 a8 key ≠ signF a0 a1 a2 a3 a4 (Go.bits .xor .i64 a5 X) a6 a7 a8 key) ∧ (signF a0 a1 a2 a3 a4 a5 a6 a7 a8 key ≠ signF a0 a1 a2 a3 a4 a5 (Go.bits .xor .i64 a6 X) a7 a8 key) ∧ (signF a0 a1 a2 a3 a4 a5 a6 a7 a8 key ≠ signF a0 a1 a2 a3 a4 a5 a6 (Go.bits .xor .i64 a7 X) a8 key) ∧ (signF a0 a1 a2 a3 a4 a5 a6 a7 a8 key ≠ signF a0 a1 a2 a3 a4 a5 a6 a7 (Go.bits .xor .i64 a8 X) key) := by
  refine ⟨?_, ?_, ?_, ?_, ?_, ?_, ?_, ?_, ?_⟩
  · intro q
    unfold signF at q
    exact link_ne (ns := [a0, a1, a2, a3]) (ms := [(Go.bits .xor .i64 a0 X), a1, a2, a3]) hk 0 p (by omega) hp (fun v hv => by match v with | 0 => exact absurd rfl hv | 1 => rfl | 2 => rfl | 3 => rfl | n + 4 => rfl) (hb a0) (linkF_state _ (linkF_w _ hk 32) (linkF_w _ hk 32) 32 (linkF_state _ (linkF_w _ (linkF_w _ hk 32) 32) (linkF_w _ (linkF_w _ hk 32) 32) 32 q))
  · intro q
    unfold signF at q
    exact link_ne (ns := [a0, a1, a2, a3]) (ms := [a0, (Go.bits .xor .i64 a1 X), a2, a3]) hk 1 p (by omega) hp (fun v hv => by match v with | 0 => rfl | 1 => exact absurd rfl hv | 2 => rfl | 3 => rfl | n + 4 => rfl) (hb a1) (linkF_state _ (linkF_w _ hk 32) (linkF_w _ hk 32) 32 (linkF_state _ (linkF_w _ (linkF_w _ hk 32) 32) (linkF_w _ (linkF_w _ hk 32) 32) 32 q))
  · intro q
    unfold signF at q
    exact link_ne (ns := [a0, a1, a2, a3]) (ms := [a0, a1, (Go.bits .xor .i64 a2 X), a3]) hk 2 p (by omega) hp (fun v hv => by match v with | 0 => rfl | 1 => rfl | 2 => exact absurd rfl hv | 3 => rfl | n + 4 => rfl) (hb a2) (linkF_state _ (linkF_w _ hk 32) (linkF_w _ hk 32) 32 (linkF_state _ (linkF_w _ (linkF_w _ hk 32) 32) (linkF_w _ (linkF_w _ hk 32) 32) 32 q))
  · intro q
    unfold signF at q
    exact link_ne (ns := [a0, a1, a2, a3]) (ms := [a0, a1, a2, (Go.bits .xor .i64 a3 X)]) hk 3 p (by omega) hp (fun v hv => by match v with | 0 => rfl | 1 => rfl | 2 => rfl | 3 => exact absurd rfl hv | n + 4 => rfl) (hb a3) (linkF_state _ (linkF_w _ hk 32) (linkF_w _ hk 32) 32 (linkF_state _ (linkF_w _ (linkF_w _ hk 32) 32) (linkF_w _ (linkF_w _ hk 32) 32) 32 q))
  · intro q
    unfold signF at q
    exact link_ne (ns := [a4, a5, a6, a7]) (ms := [(Go.bits .xor .i64 a4 X), a5, a6, a7]) (linkF_w _ hk 32) 0 p (by omega) hp (fun v hv => by match v with | 0 => exact absurd rfl hv | 1 => rfl | 2 => rfl | 3 => rfl | n + 4 => rfl) (hb a4) (linkF_state _ (linkF_w _ (linkF_w _ hk 32) 32) (linkF_w _ (linkF_w _ hk 32) 32) 32 q)
  · intro q
    unfold signF at q
    exact link_ne (ns := [a4, a5, a6, a7]) (ms := [a4, (Go.bits .xor .i64 a5 X), a6, a7]) (linkF_w _ hk 32) 1 p (by omega) hp (fun v hv => by match v with | 0 => rfl | 1 => exact absurd rfl hv | 2 => rfl | 3 => rfl | n + 4 => rfl) (hb a5) (linkF_state _ (linkF_w _ (linkF_w _ hk 32) 32) (linkF_w _ (linkF_w _ hk 32) 32) 32 q)
  · intro q
    unfold signF at q
    exact link_ne (ns := [a4, a5, a6, a7]) (ms := [a4, a5, (Go.bits .xor .i64 a6 X), a7]) (linkF_w _ hk 32) 2 p (by omega) hp (fun v hv => by match v with | 0 => rfl | 1 => rfl | 2 => exact absurd rfl hv | 3 => rfl | n + 4 => rfl) (hb a6) (linkF_state _ (linkF_w _ (linkF_w _ hk 32) 32) (linkF_w _ (linkF_w _ hk 32) 32) 32 q)
  · intro q
    unfold signF at q
    exact link_ne (ns := [a4, a5, a6, a7]) (ms := [a4, a5, a6, (Go.bits .xor .i64 a7 X)]) (linkF_w _ hk 32) 3 p (by omega) hp (fun v hv => by match v with | 0 => rfl | 1 => rfl | 2 => rfl | 3 => exact absurd rfl hv | n + 4 => rfl) (hb a7) (linkF_state _ (linkF_w _ (linkF_w _ hk 32) 32) (linkF_w _ (linkF_w _ hk 32) 32) 32 q)
  · intro q
    unfold signF at q
    exact link_ne (ns := [a8, 0, 0, 0]) (ms := [(Go.bits .xor .i64 a8 X), 0, 0, 0]) (linkF_w _ (linkF_w _ hk 32) 32) 0 p (by omega) hp (fun v hv => by match v with | 0 => exact absurd rfl hv | 1 => rfl | 2 => rfl | 3 => rfl | n + 4 => rfl) (hb a8) q
theorem changed_l0 (k : Nat) (a0 a1 a2 a3 a4 a5 a6 a7 a8 a9 a10 a11 a12 k0 k1 k2 k3 c0 c1 c2 c3 c4 c5 c6 c7 c8 : Int) (h0 : signF a0 a1 a2 a3 a4 a5 a6 a7 a8 k0 ≠ signF c0 c1 c2 c3 c4 c5 c6 c7 c8 k0) (h1 : signF a0 a1 a2 a3 a4 a5 a6 a7 a8 k1 ≠ signF c0 c1 c2 c3 c4 c5 c6 c7 c8 k1) (h2 : signF a0 a1 a2 a3 a4 a5 a6 a7 a8 k2 ≠ signF c0 c1 c2 c3 c4 c5 c6 c7 c8 k2) (h3 : signF a0 a1 a2 a3 a4 a5 a6 a7 a8 k3 ≠ signF c0 c1 c2 c3 c4 c5 c6 c7 c8 k3) :
    chargeparklaw41_RecordChanged.l0 (k + 5) true 0 a0 a1 a2 a3 a4 a5 a6 a7 a8 a9 a10 a11 a12 k0 k1 k2 k3 c0 c1 c2 c3 c4 c5 c6 c7 c8 a9 a10 a11 a12 = some true := by
  have w1 : wrap64 (0 + 1) = 1 := wrapK (by omega) (by omega)
  have w2 : wrap64 (1 + 1) = 2 := wrapK (by omega) (by omega)
  have w3 : wrap64 (2 + 1) = 3 := wrapK (by omega) (by omega)
  have w4 : wrap64 (3 + 1) = 4 := wrapK (by omega) (by omega)
  rw [chargeparklaw41_RecordChanged.l0, if_pos (by decide), if_pos rfl]
  unfold record_Sign.f
  rw [Option.bind_some, Option.bind_some, if_neg h0, w1, chargeparklaw41_RecordChanged.l0, if_pos (by decide), if_neg (by decide), if_pos rfl]
  unfold record_Sign.f
  rw [Option.bind_some, Option.bind_some, if_neg h1, w2, chargeparklaw41_RecordChanged.l0, if_pos (by decide), if_neg (by decide), if_neg (by decide), if_pos rfl]
  unfold record_Sign.f
  rw [Option.bind_some, Option.bind_some, if_neg h2, w3, chargeparklaw41_RecordChanged.l0, if_pos (by decide), if_neg (by decide), if_neg (by decide), if_neg (by decide), if_pos rfl]
  unfold record_Sign.f
  rw [Option.bind_some, Option.bind_some, if_neg h3, w4, chargeparklaw41_RecordChanged.l0, if_neg (by decide), if_pos rfl]
  obtain ⟨c, hc⟩ := check_some a0 a1 a2 a3 a4 a5 a6 a7 a8 a9 a10 a11 a12 k0 k1 k2 k3
  rw [hc, Option.bind_some]
  by_cases z : c = -1
  rotate_left
  · rw [if_neg z]
  subst z
  obtain ⟨hb, e0, e1, e2, e3⟩ := check_ok hc
  rw [if_pos rfl]
  cases hc2 : recB c0 c1 c2 c3 c4 c5 c6 c7 c8 with
  | false => rw [check_no hc2, Option.bind_some]; rfl
  | true =>
    rw [check_yes hc2, Option.bind_some]
    unfold recFrom
    rw [if_pos ⟨by decide, fun q => h0 (e0.symm.trans q.symm)⟩]
    rfl
theorem RecordChanged :
    ∀ (a0_0 : Int) (a0_1 : Int) (a0_2 : Int) (a0_3 : Int) (a0_4 : Int) (a0_5 : Int) (a0_6 : Int) (a0_7 : Int) (a0_8 : Int) (a0_9 : Int) (a0_10 : Int) (a0_11 : Int) (a0_12 : Int) (a1_0 : Int) (a1_1 : Int) (a1_2 : Int) (a1_3 : Int) (a2 : Int) (a3 : Int) (a4 : Int), (Lit.int .i64 a0_0).wf = true → (Lit.int .i64 a0_1).wf = true → (Lit.int .i64 a0_2).wf = true → (Lit.int .i64 a0_3).wf = true → (Lit.int .i64 a0_4).wf = true → (Lit.int .i64 a0_5).wf = true → (Lit.int .i64 a0_6).wf = true → (Lit.int .i64 a0_7).wf = true → (Lit.int .i64 a0_8).wf = true → (Lit.int .u64 a0_9).wf = true → (Lit.int .u64 a0_10).wf = true → (Lit.int .u64 a0_11).wf = true → (Lit.int .u64 a0_12).wf = true → (Lit.int .u64 a1_0).wf = true → (Lit.int .u64 a1_1).wf = true → (Lit.int .u64 a1_2).wf = true → (Lit.int .u64 a1_3).wf = true → (Lit.int .u8 a2).wf = true → (Lit.int .u8 a3).wf = true → (Lit.int .u8 a4).wf = true → ∃ k, chargeparklaw41_RecordChanged.f k a0_0 a0_1 a0_2 a0_3 a0_4 a0_5 a0_6 a0_7 a0_8 a0_9 a0_10 a0_11 a0_12 a1_0 a1_1 a1_2 a1_3 a2 a3 a4 = some true := by
  intro a0 a1 a2 a3 a4 a5 a6 a7 a8 a9 a10 a11 a12 k0 k1 k2 k3 w t v _ _ _ _ _ _ _ _ _ _ _ _ _ g0 g1 g2 g3 hw ht hv
  refine ⟨5, ?_⟩
  unfold chargeparklaw41_RecordChanged.f
  have w8 : 0 ≤ w ∧ w < 256 := by simp [Lit.wf, IntKind.min, IntKind.max, IntKind.signed, IntKind.bits] at hw; omega
  have t8 : 0 ≤ t ∧ t < 256 := by simp [Lit.wf, IntKind.min, IntKind.max, IntKind.signed, IntKind.bits] at ht; omega
  have v8 : 0 ≤ v ∧ v < 256 := by simp [Lit.wf, IntKind.min, IntKind.max, IntKind.signed, IntKind.bits] at hv; omega
  rw [head41, Option.bind_some]
  by_cases z : v = 0
  · rw [if_pos z]
  rw [if_neg z, show shl .u64 (IntKind.u64.wrap v) ((8 * (Int.tmod t 8)) % 256) = byteAt t v from rfl]
  have hp : t.toNat % 8 < 8 := Nat.mod_lt _ (by omega)
  have hb : ∀ n k, k < 8 → (7 - k = t.toNat % 8 → byteK n k ≠ byteK (Go.bits .xor .i64 n (wrap64 (byteAt t v))) k) ∧ (7 - k ≠ t.toNat % 8 → byteK n k = byteK (Go.bits .xor .i64 n (wrap64 (byteAt t v))) k) :=
    fun n k hk => ⟨fun e => ((changed_byte t8.1 t8.2 v8.1 v8.2 hk).1 e z).symm, fun e => ((changed_byte t8.1 t8.2 v8.1 v8.2 hk).2 e).symm⟩
  have d0 := sign_ne k0 (W64_of_wf g0) _ hp hb a0 a1 a2 a3 a4 a5 a6 a7 a8
  have d1 := sign_ne k1 (W64_of_wf g1) _ hp hb a0 a1 a2 a3 a4 a5 a6 a7 a8
  have d2 := sign_ne k2 (W64_of_wf g2) _ hp hb a0 a1 a2 a3 a4 a5 a6 a7 a8
  have d3 := sign_ne k3 (W64_of_wf g3) _ hp hb a0 a1 a2 a3 a4 a5 a6 a7 a8
  unfold chargeparklaw41_changed.f
  rw [if_pos w8]
  by_cases e0 : w % 9 = 0
  · rw [if_pos e0, Option.bind_some]
    exact changed_l0 0 a0 a1 a2 a3 a4 a5 a6 a7 a8 a9 a10 a11 a12 k0 k1 k2 k3 _ _ _ _ _ _ _ _ _ d0.1 d1.1 d2.1 d3.1
  rw [if_neg e0]
  by_cases e1 : w % 9 = 1
  · rw [if_pos e1, Option.bind_some]
    exact changed_l0 0 a0 a1 a2 a3 a4 a5 a6 a7 a8 a9 a10 a11 a12 k0 k1 k2 k3 _ _ _ _ _ _ _ _ _ d0.2.1 d1.2.1 d2.2.1 d3.2.1
  rw [if_neg e1]
  by_cases e2 : w % 9 = 2
  · rw [if_pos e2, Option.bind_some]
    exact changed_l0 0 a0 a1 a2 a3 a4 a5 a6 a7 a8 a9 a10 a11 a12 k0 k1 k2 k3 _ _ _ _ _ _ _ _ _ d0.2.2.1 d1.2.2.1 d2.2.2.1 d3.2.2.1
  rw [if_neg e2]
  by_cases e3 : w % 9 = 3
  · rw [if_pos e3, Option.bind_some]
    exact changed_l0 0 a0 a1 a2 a3 a4 a5 a6 a7 a8 a9 a10 a11 a12 k0 k1 k2 k3 _ _ _ _ _ _ _ _ _ d0.2.2.2.1 d1.2.2.2.1 d2.2.2.2.1 d3.2.2.2.1
  rw [if_neg e3]
  by_cases e4 : w % 9 = 4
  · rw [if_pos e4, Option.bind_some]
    exact changed_l0 0 a0 a1 a2 a3 a4 a5 a6 a7 a8 a9 a10 a11 a12 k0 k1 k2 k3 _ _ _ _ _ _ _ _ _ d0.2.2.2.2.1 d1.2.2.2.2.1 d2.2.2.2.2.1 d3.2.2.2.2.1
  rw [if_neg e4]
  by_cases e5 : w % 9 = 5
  · rw [if_pos e5, Option.bind_some]
    exact changed_l0 0 a0 a1 a2 a3 a4 a5 a6 a7 a8 a9 a10 a11 a12 k0 k1 k2 k3 _ _ _ _ _ _ _ _ _ d0.2.2.2.2.2.1 d1.2.2.2.2.2.1 d2.2.2.2.2.2.1 d3.2.2.2.2.2.1
  rw [if_neg e5]
  by_cases e6 : w % 9 = 6
  · rw [if_pos e6, Option.bind_some]
    exact changed_l0 0 a0 a1 a2 a3 a4 a5 a6 a7 a8 a9 a10 a11 a12 k0 k1 k2 k3 _ _ _ _ _ _ _ _ _ d0.2.2.2.2.2.2.1 d1.2.2.2.2.2.2.1 d2.2.2.2.2.2.2.1 d3.2.2.2.2.2.2.1
  rw [if_neg e6]
  by_cases e7 : w % 9 = 7
  · rw [if_pos e7, Option.bind_some]
    exact changed_l0 0 a0 a1 a2 a3 a4 a5 a6 a7 a8 a9 a10 a11 a12 k0 k1 k2 k3 _ _ _ _ _ _ _ _ _ d0.2.2.2.2.2.2.2.1 d1.2.2.2.2.2.2.2.1 d2.2.2.2.2.2.2.2.1 d3.2.2.2.2.2.2.2.1
  rw [if_neg e7]
  rw [Option.bind_some]
  exact changed_l0 0 a0 a1 a2 a3 a4 a5 a6 a7 a8 a9 a10 a11 a12 k0 k1 k2 k3 _ _ _ _ _ _ _ _ _ d0.2.2.2.2.2.2.2.2 d1.2.2.2.2.2.2.2.2 d2.2.2.2.2.2.2.2.2 d3.2.2.2.2.2.2.2.2

end Go.Proofs.Ytenkffjlpdappaa.Pure
