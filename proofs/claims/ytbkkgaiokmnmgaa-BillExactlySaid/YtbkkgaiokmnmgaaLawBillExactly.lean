-- Printed by hprint.py (a program of this claim's session over the kit's printer).
import Derived.Test.YtbkkgaiokmnmgaaRows
import Derived.Test.YtbkkgaiokmnmgaaHeadW
import Derived.Test.YtbkkgaiokmnmgaaPrOpn
import Derived.Test.YtbkkgaiokmnmgaaPrx25
import Derived.Test.YtbkkgaiokmnmgaaPureBillExactly
import Derived.WalkKit
import Derived.ProofKit
import Derived.OpenShut
import Derived.ShutString
import Derived.ChangeOld
import Derived.Below
import Derived.SizedLaws
import Derived.Carry
import Derived.Test.YtbkkgaiokmnmgaaWSized
namespace Go.Proofs.Ytbkkgaiokmnmgaa.billExactly
open Go.ChangeShapes Go.WideShapes Go.ChangeAt Go.RowKit Go.Proofs.Ytbkkgaiokmnmgaa.Pr Go.Proofs.Ytbkkgaiokmnmgaa.Opn Go.Proofs.YtbkkgaiokmnmgaaW.PrintWords
open Go.ChangeMaps (open_string shut_string)
set_option linter.unusedVariables false
theorem own : ownKnob Try.prog.godebug = none := by kernel_rfl
theorem laidOut : laidOutB Try.prog = true := by kernel_rfl
set_option maxRecDepth 100000 in
set_option maxHeartbeats 1000000 in
theorem lifted (os : Os) (started : os.Started) (H : Type) (enc : TypeId × Value → H) :
    ReturnsInHanded {} Try.checked os 6 .any (Rows.billExactlySpec.pre6 enc Try.prog Try.f6 Rows.billExactlyRow.domain false) (Rows.billExactlySpec.post enc Try.prog Try.f6 false true false false) := by
  refine returnsInHanded_of_change_sized (C := Try.checked) own started (by kernel_rfl) Try.func6
    (ChangeSpec.witness6 (enc := enc) (C := Try.checked) false ⟨#[], #[.agg #[(.int .i64 0), (.int .i64 0), (.int .i64 0), (.slice none 0 0)], .int .i64 0, .int .i64 0, .int .i64 0], []⟩ 8 (by kernel_rfl) (by kernel_rfl) (by kernel_rfl) (by kernel_rfl)) ?_
  intro W base args ds gs before hval0 hW hcnd hsz0 _
  have hsz : (DataW.weightsEach Try.prog (Try.f6.params.toList ++ Rows.billExactlySpec.plain.varTypes Try.prog) (ds ++ gs)).all (· ≤ reachBytes) = true := hsz0
  have hval : ∀ (j : Nat) t v, Try.f6.params[j]? = some t → args[j]? = some v → Value.okWide Try.prog W .any base t v := hval0
  have hW' := hW
  obtain ⟨p, q, hA0, hV, rfl, hfz, hnd⟩ := hW
  have hA : DataW.TrodAll enc Try.prog W 0 (fun _ => true) true Try.f6.params.toList args.toList ds p := hA0
  rw [Try.params6] at hA hval hsz
  obtain ⟨v0, vs0, d0, ds0, p0, q0, hargs, rfl, rfl, h0, r0⟩ := trodAll_cons hA
  obtain ⟨v1, vs1, d1, ds1, p1, q1, rfl, rfl, rfl, h1, r1⟩ := trodAll_cons r0
  obtain ⟨v2, vs2, d2, ds2, p2, q2, rfl, rfl, rfl, h2, r2⟩ := trodAll_cons r1
  obtain ⟨v3, vs3, d3, ds3, p3, q3, rfl, rfl, rfl, h3, r3⟩ := trodAll_cons r2
  obtain ⟨rfl, rfl, rfl⟩ := trodAll_nil r3
  obtain rfl : args = #[v0, v1, v2, v3] := by cases args; simp_all
  obtain ⟨rfl, rfl⟩ := trodVars_none hV
  have z0 := hsz
  obtain ⟨g0, z1⟩ := weights_head z0
  obtain ⟨g1, z2⟩ := weights_head z1
  obtain ⟨g2, z3⟩ := weights_head z2
  obtain ⟨g3, z4⟩ := weights_head z3
  have k0 := h0
  have lt0 : ∀ x ∈ p0, x.block < W.heap.size := by obtain ⟨m, hm⟩ := k0; exact DataW.trod_lt m _ _ _ hm
  obtain ⟨cs0, x0, rfl, K0, Y0⟩ := Opens_agg opens33 Try.underlying33 (hval 0 33 v0 rfl rfl) h0 g0
  obtain ⟨_, _, rfl, rfl, ⟨_, _, rfl, rfl, ⟨_, _, rfl, rfl, ⟨A0_3, c0_3, rfl, L0_3, C0_3⟩⟩⟩⟩ := K0
  obtain ⟨Y0_0, Y0_1, Y0_2, ⟨Y0_3_0, Y0_3_1, Y0_3_2⟩⟩ := Y0
  skip
  have k1 := h1
  have lt1 : ∀ x ∈ p1, x.block < W.heap.size := by obtain ⟨m, hm⟩ := k1; exact DataW.trod_lt m _ _ _ hm
  obtain ⟨a1, rfl, rfl, rfl, w1⟩ := open_int Try.underlying3 (hval 1 3 v1 rfl rfl) h1
  have k2 := h2
  have lt2 : ∀ x ∈ p2, x.block < W.heap.size := by obtain ⟨m, hm⟩ := k2; exact DataW.trod_lt m _ _ _ hm
  obtain ⟨a2, rfl, rfl, rfl, w2⟩ := open_int Try.underlying3 (hval 2 3 v2 rfl rfl) h2
  have k3 := h3
  have lt3 : ∀ x ∈ p3, x.block < W.heap.size := by obtain ⟨m, hm⟩ := k3; exact DataW.trod_lt m _ _ _ hm
  obtain ⟨a3, rfl, rfl, rfl, w3⟩ := open_int Try.underlying3 (hval 3 3 v3 rfl rfl) h3
  clear hA0 hval0 hsz0 hsz
  obtain ⟨k, hp⟩ := Pure.BillExactly (x0.f0) (x0.f1) (x0.f2) (x0.f3) a1 a2 a3 Y0_0 Y0_1 Y0_2 Y0_3_0 Y0_3_1 Y0_3_2 w1 w2 w3
  refine (chargeparklaw33_BillExactly.calls k (x0.f0) (x0.f1) (x0.f2) _ _ (x0.f3) a1 a2 a3 true W C0_3 L0_3 (Aside0.mk rfl) hp).mono ?_
  rintro e W' ⟨rfl, hd⟩
  have bel : Below W.heap.size W W' := hd
  exact ⟨_, rfl, _, _, _, [], _, [], hW', trodAll_mk1 (shut_bool Try.underlying4 _), (trodAll_cons_mk (Below.trod laidOut (by kernel_rfl) (of_decide_eq_true (by kernel_rfl)) k0 bel lt0) (trodAll_cons_mk (Below.trod laidOut (by kernel_rfl) (of_decide_eq_true (by kernel_rfl)) k1 bel lt1) (trodAll_cons_mk (Below.trod laidOut (by kernel_rfl) (of_decide_eq_true (by kernel_rfl)) k2 bel lt2) (trodAll_cons_mk (Below.trod laidOut (by kernel_rfl) (of_decide_eq_true (by kernel_rfl)) k3 bel lt3) trodAll_mk0)))), rfl, bel.frame _, fun h => by cases h⟩
theorem joined : joinedFacts Try.pinned.checked.prog 6 Try.f6 Rows.billExactlySpec Rows.billExactlyRow = true :=
  HeadW.joined_of Try.prog 6 Try.f6 Rows.billExactlySpec Rows.billExactlyRow HeadW.lf HeadW.me HeadW.mk rfl rfl (by as_aux_lemma => kernel_rfl) (by as_aux_lemma => kernel_rfl) (by as_aux_lemma => kernel_rfl) (by as_aux_lemma => kernel_rfl) (by as_aux_lemma => kernel_rfl) (by as_aux_lemma => kernel_rfl) (by as_aux_lemma => kernel_rfl) (by as_aux_lemma => kernel_rfl)
theorem over : Rows.billExactlyRow.holds Try.pinned (OpenSpec.ofChange Rows.billExactlySpec) :=
  OpenClaim.holds_of_wide 6 Try.f6 rfl rfl rfl rfl rfl rfl rfl ⟨rfl, rfl, rfl, rfl, rfl⟩ rfl rfl rfl rfl rfl (by kernel_rfl) Try.func6 joined
    (of_decide_eq_true (by kernel_rfl)) (by unfold Func.isWrapper; first | (rw [if_pos (by decide +kernel)]; kernel_rfl) | (rw [if_neg (by decide +kernel)]; exact ⟨rfl, rfl⟩))
    (fun os started H enc _ => lifted os started H enc)
theorem proved : Rows.BillExactlySaid := over
#print axioms proved
end Go.Proofs.Ytbkkgaiokmnmgaa.billExactly
namespace Go.Proofs.Ytbkkgaiokmnmgaa
/-- The row, under a short name, for the claim. -/
theorem billExactly_holds : Rows.BillExactlySaid := billExactly.proved
end Go.Proofs.Ytbkkgaiokmnmgaa
