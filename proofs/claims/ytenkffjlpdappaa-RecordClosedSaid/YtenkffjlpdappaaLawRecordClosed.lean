-- Printed by hprint.py (a program of this claim's session over the kit's printer).
import Derived.Test.YtenkffjlpdappaaRows
import Derived.Test.YtenkffjlpdappaaPrOpn
import Derived.Test.YtenkffjlpdappaaPrx13
import Derived.Test.YtenkffjlpdappaaPureRecordClosed
import Derived.WalkKit
import Derived.ProofKit
import Derived.OpenShut
import Derived.ShutString
import Derived.ChangeOld
import Derived.Below
import Derived.SizedLaws
import Derived.Carry
import Derived.Test.YtenkffjlpdappaaWSized
namespace Go.Proofs.Ytenkffjlpdappaa.recordClosed
open Go.ChangeShapes Go.WideShapes Go.ChangeAt Go.RowKit Go.Proofs.Ytenkffjlpdappaa.Pr Go.Proofs.Ytenkffjlpdappaa.Opn Go.Proofs.YtenkffjlpdappaaW.PrintWords
open Go.ChangeMaps (open_string shut_string)
set_option linter.unusedVariables false
theorem own : ownKnob Try.prog.godebug = none := by kernel_rfl
theorem laidOut : laidOutB Try.prog = true := by kernel_rfl
set_option maxRecDepth 100000 in
set_option maxHeartbeats 1000000 in
theorem lifted (os : Os) (started : os.Started) (H : Type) (enc : TypeId × Value → H) :
    ReturnsInHanded {} Try.checked os 4 .any (Rows.recordClosedSpec.pre6 enc Try.prog Try.f4 Rows.recordClosedRow.domain false) (Rows.recordClosedSpec.post enc Try.prog Try.f4 false true false false) := by
  refine returnsInHanded_of_change_sized (C := Try.checked) own started (by kernel_rfl) Try.func4
    (ChangeSpec.witness6 (enc := enc) (C := Try.checked) false ⟨#[], #[.agg #[(.int .i64 0), (.int .i64 0), (.int .i64 0), (.int .i64 0), (.int .i64 0), (.int .i64 0), (.int .i64 0), (.int .i64 0), (.int .i64 0), (.int .u64 0), (.int .u64 0), (.int .u64 0), (.int .u64 0)], .slice none 0 0, .agg #[(.int .u64 0), (.int .u64 0), (.int .u64 0), (.int .u64 0)]], []⟩ 8 (by kernel_rfl) (by kernel_rfl) (by kernel_rfl) (by kernel_rfl)) ?_
  intro W base args ds gs before hval0 hW hcnd hsz0 _
  have hsz : (DataW.weightsEach Try.prog (Try.f4.params.toList ++ Rows.recordClosedSpec.plain.varTypes Try.prog) (ds ++ gs)).all (· ≤ reachBytes) = true := hsz0
  have hval : ∀ (j : Nat) t v, Try.f4.params[j]? = some t → args[j]? = some v → Value.okWide Try.prog W .any base t v := hval0
  have hW' := hW
  obtain ⟨p, q, hA0, hV, rfl, hfz, hnd⟩ := hW
  have hA : DataW.TrodAll enc Try.prog W 0 (fun _ => true) true Try.f4.params.toList args.toList ds p := hA0
  rw [Try.params4] at hA hval hsz
  obtain ⟨v0, vs0, d0, ds0, p0, q0, hargs, rfl, rfl, h0, r0⟩ := trodAll_cons hA
  obtain ⟨v1, vs1, d1, ds1, p1, q1, rfl, rfl, rfl, h1, r1⟩ := trodAll_cons r0
  obtain ⟨v2, vs2, d2, ds2, p2, q2, rfl, rfl, rfl, h2, r2⟩ := trodAll_cons r1
  obtain ⟨rfl, rfl, rfl⟩ := trodAll_nil r2
  obtain rfl : args = #[v0, v1, v2] := by cases args; simp_all
  obtain ⟨rfl, rfl⟩ := trodVars_none hV
  have z0 := hsz
  obtain ⟨g0, z1⟩ := weights_head z0
  obtain ⟨g1, z2⟩ := weights_head z1
  obtain ⟨g2, z3⟩ := weights_head z2
  have k0 := h0
  have lt0 : ∀ x ∈ p0, x.block < W.heap.size := by obtain ⟨m, hm⟩ := k0; exact DataW.trod_lt m _ _ _ hm
  obtain ⟨cs0, x0, rfl, K0, Y0⟩ := Opens_agg opens25 Try.underlying25 (hval 0 25 v0 rfl rfl) h0 g0
  obtain ⟨_, _, rfl, rfl, ⟨_, _, rfl, rfl, ⟨_, _, rfl, rfl, ⟨_, _, rfl, rfl, ⟨_, _, rfl, rfl, ⟨_, _, rfl, rfl, ⟨_, _, rfl, rfl, ⟨_, _, rfl, rfl, ⟨_, _, rfl, rfl, ⟨_, _, rfl, rfl, ⟨_, _, rfl, rfl, ⟨_, _, rfl, rfl, rfl⟩⟩⟩⟩⟩⟩⟩⟩⟩⟩⟩⟩ := K0
  obtain ⟨Y0_0, Y0_1, Y0_2, Y0_3, Y0_4, Y0_5, Y0_6, Y0_7, Y0_8, ⟨Y0_9, Y0_10, Y0_11, Y0_12⟩⟩ := Y0
  skip
  have k1 := h1
  have lt1 : ∀ x ∈ p1, x.block < W.heap.size := by obtain ⟨m, hm⟩ := k1; exact DataW.trod_lt m _ _ _ hm
  obtain ⟨A1, c1, l1, rfl, L1, C1, Y1_0, Y1_1, Y1_2⟩ := Opens_val opens26 Try.underlying26 (hval 1 26 v1 rfl rfl) h1 g1
  have k2 := h2
  have lt2 : ∀ x ∈ p2, x.block < W.heap.size := by obtain ⟨m, hm⟩ := k2; exact DataW.trod_lt m _ _ _ hm
  obtain ⟨cs2, x2, rfl, K2, Y2⟩ := Opens_aggA opens23 Try.underlying23 (hval 2 23 v2 rfl rfl) h2 g2
  obtain ⟨_, _, rfl, rfl, ⟨_, _, rfl, rfl, ⟨_, _, rfl, rfl, rfl⟩⟩⟩ := K2
  obtain ⟨Y2_0, Y2_1, Y2_2, Y2_3⟩ := Y2
  skip
  clear hA0 hval0 hsz0 hsz
  obtain ⟨k, hp⟩ := Pure.RecordClosed (x0.f0) (x0.f1) (x0.f2) (x0.f3) (x0.f4) (x0.f5) (x0.f6) (x0.f7) (x0.f8) (x0.f9.f0) (x0.f9.f1) (x0.f9.f2) (x0.f9.f3) l1 (x2.f0) (x2.f1) (x2.f2) (x2.f3) Y0_0 Y0_1 Y0_2 Y0_3 Y0_4 Y0_5 Y0_6 Y0_7 Y0_8 Y0_9 Y0_10 Y0_11 Y0_12 Y1_0 Y1_1 Y1_2 Y2_0 Y2_1 Y2_2 Y2_3
  refine (chargeparklaw41_RecordClosed.calls k (x0.f0) (x0.f1) (x0.f2) (x0.f3) (x0.f4) (x0.f5) (x0.f6) (x0.f7) (x0.f8) (x0.f9.f0) (x0.f9.f1) (x0.f9.f2) (x0.f9.f3) _ _ l1 (x2.f0) (x2.f1) (x2.f2) (x2.f3) true W C1 L1 (Aside0.mk rfl) hp).mono ?_
  rintro e W' ⟨rfl, hd⟩
  have bel : Below W.heap.size W W' := hd
  exact ⟨_, rfl, _, _, _, [], _, [], hW', trodAll_mk1 (shut_bool Try.underlying4 _), (trodAll_cons_mk (Below.trod laidOut (by kernel_rfl) (of_decide_eq_true (by kernel_rfl)) k0 bel lt0) (trodAll_cons_mk (Below.trod laidOut (by kernel_rfl) (of_decide_eq_true (by kernel_rfl)) k1 bel lt1) (trodAll_cons_mk (Below.trod laidOut (by kernel_rfl) (of_decide_eq_true (by kernel_rfl)) k2 bel lt2) trodAll_mk0))), rfl, bel.frame _, fun h => by cases h⟩
theorem over : Rows.recordClosedRow.holds Try.pinned (OpenSpec.ofChange Rows.recordClosedSpec) :=
  OpenClaim.holds_of_wide 4 Try.f4 rfl rfl rfl rfl rfl rfl rfl ⟨rfl, rfl, rfl, rfl, rfl⟩ rfl rfl rfl rfl rfl (by kernel_rfl) Try.func4 (by kernel_rfl)
    (of_decide_eq_true (by kernel_rfl)) (by unfold Func.isWrapper; first | (rw [if_pos (by decide +kernel)]; kernel_rfl) | (rw [if_neg (by decide +kernel)]; exact ⟨rfl, rfl⟩))
    (fun os started H enc _ => lifted os started H enc)
theorem proved : Rows.RecordClosedSaid := over
#print axioms proved
end Go.Proofs.Ytenkffjlpdappaa.recordClosed
namespace Go.Proofs.Ytenkffjlpdappaa
/-- The row, under a short name, for the claim. -/
theorem recordClosed_holds : Rows.RecordClosedSaid := recordClosed.proved
end Go.Proofs.Ytenkffjlpdappaa
