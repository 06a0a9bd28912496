/- If some of the signatures of a record that is accepted are changed, the first one of them is named; signatures have no influence on other signatures. -/
import Derived.Test.YtenkffjlpdappaaPrx19
import Derived.Test.YtenkffjlpdappaaPrOpn
import Derived.Test.YtenkffjlpdappaaPRecord
import Derived.Test.YtenkffjlpdappaaPChainX
namespace Go.Proofs.Ytenkffjlpdappaa.Pure
open Go.RowKit Go.Proofs.Ytenkffjlpdappaa.Pr Go.Proofs.YtenkffjlpdappaaW.PrintWords Go.Proofs.YtenkffjlpdappaaW.PrintLast

theorem xor_self_iff {a b : Int} (ha : W64 a) (hb : W64 b) : Go.bits .xor .u64 a b = a ↔ b = 0 := by
  rw [u64_xor a b ha.1 ha.2 hb.1 hb.2]
  have h0 := ha.1; have h1 := hb.1
  constructor
  · intro e
    by_cases z : b = 0
    · exact z
    · have e' : a.toNat ^^^ b.toNat = a.toNat := by omega
      exact absurd e' (xor_ne (by omega))
  · rintro rfl
    simp; omega
/-- The first of four numbers that is not zero, or f. -/
def firstOf (b i f : Int) : Int := if b = 0 then f else if f < 0 then i else f
theorem signs_0 (k : Nat) (f a0 a1 a2 a3 a4 a5 a6 a7 a8 a9 a10 a11 a12 k0 k1 k2 k3 b0 b1 b2 b3 c0 c1 c2 c3 c4 c5 c6 c7 c8 c9 c10 c11 c12 : Int) : chargeparklaw41_RecordSigns.l0 (k + 1) true f 0 a0 a1 a2 a3 a4 a5 a6 a7 a8 a9 a10 a11 a12 k0 k1 k2 k3 b0 b1 b2 b3 c0 c1 c2 c3 c4 c5 c6 c7 c8 c9 c10 c11 c12 = chargeparklaw41_RecordSigns.l0 k true (firstOf b0 0 f) 1 a0 a1 a2 a3 a4 a5 a6 a7 a8 a9 a10 a11 a12 k0 k1 k2 k3 b0 b1 b2 b3 c0 c1 c2 c3 c4 c5 c6 c7 c8 (Go.bits .xor .u64 c9 b0) c10 c11 c12 := by
  rw [chargeparklaw41_RecordSigns.l0, if_pos (by decide), if_pos rfl, show wrap64 (0 + 1) = 1 from wrapK (by omega) (by omega)]
  unfold firstOf
  by_cases z : b0 = 0
  · rw [if_pos z, if_pos z]
  · rw [if_neg z, if_neg z]
    by_cases q : f < 0
    · rw [if_pos q, if_pos q]
    · rw [if_neg q, if_neg q]
theorem signs_1 (k : Nat) (f a0 a1 a2 a3 a4 a5 a6 a7 a8 a9 a10 a11 a12 k0 k1 k2 k3 b0 b1 b2 b3 c0 c1 c2 c3 c4 c5 c6 c7 c8 c9 c10 c11 c12 : Int) : chargeparklaw41_RecordSigns.l0 (k + 1) true f 1 a0 a1 a2 a3 a4 a5 a6 a7 a8 a9 a10 a11 a12 k0 k1 k2 k3 b0 b1 b2 b3 c0 c1 c2 c3 c4 c5 c6 c7 c8 c9 c10 c11 c12 = chargeparklaw41_RecordSigns.l0 k true (firstOf b1 1 f) 2 a0 a1 a2 a3 a4 a5 a6 a7 a8 a9 a10 a11 a12 k0 k1 k2 k3 b0 b1 b2 b3 c0 c1 c2 c3 c4 c5 c6 c7 c8 c9 (Go.bits .xor .u64 c10 b1) c11 c12 := by
  rw [chargeparklaw41_RecordSigns.l0, if_pos (by decide), if_neg (by decide), if_pos rfl, show wrap64 (1 + 1) = 2 from wrapK (by omega) (by omega)]
  unfold firstOf
  by_cases z : b1 = 0
  · rw [if_pos z, if_pos z]
  · rw [if_neg z, if_neg z]
    by_cases q : f < 0
    · rw [if_pos q, if_pos q]
    · rw [if_neg q, if_neg q]
theorem signs_2 (k : Nat) (f a0 a1 a2 a3 a4 a5 a6 a7 a8 a9 a10 a11 a12 k0 k1 k2 k3 b0 b1 b2 b3 c0 c1 c2 c3 c4 c5 c6 c7 c8 c9 c10 c11 c12 : Int) : chargeparklaw41_RecordSigns.l0 (k + 1) true f 2 a0 a1 a2 a3 a4 a5 a6 a7 a8 a9 a10 a11 a12 k0 k1 k2 k3 b0 b1 b2 b3 c0 c1 c2 c3 c4 c5 c6 c7 c8 c9 c10 c11 c12 = chargeparklaw41_RecordSigns.l0 k true (firstOf b2 2 f) 3 a0 a1 a2 a3 a4 a5 a6 a7 a8 a9 a10 a11 a12 k0 k1 k2 k3 b0 b1 b2 b3 c0 c1 c2 c3 c4 c5 c6 c7 c8 c9 c10 (Go.bits .xor .u64 c11 b2) c12 := by
  rw [chargeparklaw41_RecordSigns.l0, if_pos (by decide), if_neg (by decide), if_neg (by decide), if_pos rfl, show wrap64 (2 + 1) = 3 from wrapK (by omega) (by omega)]
  unfold firstOf
  by_cases z : b2 = 0
  · rw [if_pos z, if_pos z]
  · rw [if_neg z, if_neg z]
    by_cases q : f < 0
    · rw [if_pos q, if_pos q]
    · rw [if_neg q, if_neg q]
theorem signs_3 (k : Nat) (f a0 a1 a2 a3 a4 a5 a6 a7 a8 a9 a10 a11 a12 k0 k1 k2 k3 b0 b1 b2 b3 c0 c1 c2 c3 c4 c5 c6 c7 c8 c9 c10 c11 c12 : Int) : chargeparklaw41_RecordSigns.l0 (k + 1) true f 3 a0 a1 a2 a3 a4 a5 a6 a7 a8 a9 a10 a11 a12 k0 k1 k2 k3 b0 b1 b2 b3 c0 c1 c2 c3 c4 c5 c6 c7 c8 c9 c10 c11 c12 = chargeparklaw41_RecordSigns.l0 k true (firstOf b3 3 f) 4 a0 a1 a2 a3 a4 a5 a6 a7 a8 a9 a10 a11 a12 k0 k1 k2 k3 b0 b1 b2 b3 c0 c1 c2 c3 c4 c5 c6 c7 c8 c9 c10 c11 (Go.bits .xor .u64 c12 b3) := by
  rw [chargeparklaw41_RecordSigns.l0, if_pos (by decide), if_neg (by decide), if_neg (by decide), if_neg (by decide), if_pos rfl, show wrap64 (3 + 1) = 4 from wrapK (by omega) (by omega)]
  unfold firstOf
  by_cases z : b3 = 0
  · rw [if_pos z, if_pos z]
  · rw [if_neg z, if_neg z]
    by_cases q : f < 0
    · rw [if_pos q, if_pos q]
    · rw [if_neg q, if_neg q]
theorem RecordSigns :
    ∀ (a0_0 : Int) (a0_1 : Int) (a0_2 : Int) (a0_3 : Int) (a0_4 : Int) (a0_5 : Int) (a0_6 : Int) (a0_7 : Int) (a0_8 : Int) (a0_9 : Int) (a0_10 : Int) (a0_11 : Int) (a0_12 : Int) (a1_0 : Int) (a1_1 : Int) (a1_2 : Int) (a1_3 : Int) (a2_0 : Int) (a2_1 : Int) (a2_2 : Int) (a2_3 : Int), (Lit.int .i64 a0_0).wf = true → (Lit.int .i64 a0_1).wf = true → (Lit.int .i64 a0_2).wf = true → (Lit.int .i64 a0_3).wf = true → (Lit.int .i64 a0_4).wf = true → (Lit.int .i64 a0_5).wf = true → (Lit.int .i64 a0_6).wf = true → (Lit.int .i64 a0_7).wf = true → (Lit.int .i64 a0_8).wf = true → (Lit.int .u64 a0_9).wf = true → (Lit.int .u64 a0_10).wf = true → (Lit.int .u64 a0_11).wf = true → (Lit.int .u64 a0_12).wf = true → (Lit.int .u64 a1_0).wf = true → (Lit.int .u64 a1_1).wf = true → (Lit.int .u64 a1_2).wf = true → (Lit.int .u64 a1_3).wf = true → (Lit.int .u64 a2_0).wf = true → (Lit.int .u64 a2_1).wf = true → (Lit.int .u64 a2_2).wf = true → (Lit.int .u64 a2_3).wf = true → ∃ k, chargeparklaw41_RecordSigns.f k a0_0 a0_1 a0_2 a0_3 a0_4 a0_5 a0_6 a0_7 a0_8 a0_9 a0_10 a0_11 a0_12 a1_0 a1_1 a1_2 a1_3 a2_0 a2_1 a2_2 a2_3 = some true := by
  intro a0 a1 a2 a3 a4 a5 a6 a7 a8 a9 a10 a11 a12 k0 k1 k2 k3 b0 b1 b2 b3 _ _ _ _ _ _ _ _ _ s0 s1 s2 s3 _ _ _ _ h0 h1 h2 h3
  refine ⟨5, ?_⟩
  unfold chargeparklaw41_RecordSigns.f
  rw [head41, Option.bind_some, signs_0, signs_1, signs_2, signs_3, chargeparklaw41_RecordSigns.l0, if_neg (by decide), if_pos rfl]
  unfold record_Sign.f
  rw [Option.bind_some, Option.bind_some, if_pos rfl]
  obtain ⟨c, hc⟩ := check_some a0 a1 a2 a3 a4 a5 a6 a7 a8 a9 a10 a11 a12 k0 k1 k2 k3
  rw [hc, Option.bind_some]
  by_cases z : c = -1
  rotate_left
  · rw [if_neg z]
  subst z
  obtain ⟨hb, e0, e1, e2, e3⟩ := check_ok hc
  rw [if_pos rfl, check_yes hb, Option.bind_some]
  have x0 := xor_self_iff (W64_of_wf s0) (W64_of_wf h0)
  have x1 := xor_self_iff (W64_of_wf s1) (W64_of_wf h1)
  have x2 := xor_self_iff (W64_of_wf s2) (W64_of_wf h2)
  have x3 := xor_self_iff (W64_of_wf s3) (W64_of_wf h3)
  rw [← e0, ← e1, ← e2, ← e3]
  generalize Go.bits .xor .u64 a9 b0 = y0 at x0 ⊢
  generalize Go.bits .xor .u64 a10 b1 = y1 at x1 ⊢
  generalize Go.bits .xor .u64 a11 b2 = y2 at x2 ⊢
  generalize Go.bits .xor .u64 a12 b3 = y3 at x3 ⊢
  clear e0 e1 e2 e3 hc hb
  unfold recFrom firstOf
  by_cases z0 : b0 = 0
  rotate_left
  · rw [if_pos ⟨by decide, fun q => z0 (x0.1 q.symm)⟩, if_neg z0]
    simp
  rw [if_neg (fun q => q.2 (x0.2 z0).symm), if_pos z0]
  by_cases z1 : b1 = 0
  rotate_left
  · rw [if_pos ⟨by decide, fun q => z1 (x1.1 q.symm)⟩, if_neg z1]
    simp
  rw [if_neg (fun q => q.2 (x1.2 z1).symm), if_pos z1]
  by_cases z2 : b2 = 0
  rotate_left
  · rw [if_pos ⟨by decide, fun q => z2 (x2.1 q.symm)⟩, if_neg z2]
    simp
  rw [if_neg (fun q => q.2 (x2.2 z2).symm), if_pos z2]
  by_cases z3 : b3 = 0
  rotate_left
  · rw [if_pos ⟨by decide, fun q => z3 (x3.1 q.symm)⟩, if_neg z3]
    simp
  rw [if_neg (fun q => q.2 (x3.2 z3).symm), if_pos z3]
  simp

end Go.Proofs.Ytenkffjlpdappaa.Pure
