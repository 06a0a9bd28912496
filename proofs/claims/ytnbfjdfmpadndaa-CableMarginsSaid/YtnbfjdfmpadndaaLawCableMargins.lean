-- Printed by hprint.py (a program of this claim's session over the kit's printer).
import Derived.Test.YtnbfjdfmpadndaaRows
import Derived.Test.YtnbfjdfmpadndaaPrOpn
import Derived.Test.YtnbfjdfmpadndaaPrx23
import Derived.Test.YtnbfjdfmpadndaaPureCableMargins
import Derived.WalkKit
import Derived.ProofKit
import Derived.OpenShut
import Derived.ShutString
import Derived.ChangeOld
import Derived.Below
import Derived.SizedLaws
import Derived.Carry
import Derived.Test.YtnbfjdfmpadndaaWSized
namespace Go.Proofs.Ytnbfjdfmpadndaa.cableMargins
open Go.ChangeShapes Go.WideShapes Go.ChangeAt Go.RowKit Go.Proofs.Ytnbfjdfmpadndaa.Pr Go.Proofs.Ytnbfjdfmpadndaa.Opn Go.Proofs.YtnbfjdfmpadndaaW.PrintWords
open Go.ChangeMaps (open_string shut_string)
set_option linter.unusedVariables false
theorem own : ownKnob Try.prog.godebug = none := by kernel_rfl
theorem laidOut : laidOutB Try.prog = true := by kernel_rfl
set_option maxRecDepth 100000 in
set_option maxHeartbeats 1000000 in
theorem lifted (os : Os) (started : os.Started) (H : Type) (enc : TypeId × Value → H) :
    ReturnsInHanded {} Try.checked os 14 .any (Rows.cableMarginsSpec.pre6 enc Try.prog Try.f14 Rows.cableMarginsRow.domain false) (Rows.cableMarginsSpec.post enc Try.prog Try.f14 false true false false) := by
  refine returnsInHanded_of_change_sized (C := Try.checked) own started (by kernel_rfl) Try.func14
    (ChangeSpec.witness6 (enc := enc) (C := Try.checked) false ⟨#[], #[.agg #[(.int .i64 0), (.int .i64 0), (.int .i64 0), (.int .i64 0), (.int .i64 0)], .agg #[(.int .i64 0), (.int .i64 0), (.int .i64 0), (.int .i64 0), (.int .i64 0)]], []⟩ 8 (by kernel_rfl) (by kernel_rfl) (by kernel_rfl) (by kernel_rfl)) ?_
  intro W base args ds gs before hval0 hW hcnd hsz0 _
  have hsz : (DataW.weightsEach Try.prog (Try.f14.params.toList ++ Rows.cableMarginsSpec.plain.varTypes Try.prog) (ds ++ gs)).all (· ≤ reachBytes) = true := hsz0
  have hval : ∀ (j : Nat) t v, Try.f14.params[j]? = some t → args[j]? = some v → Value.okWide Try.prog W .any base t v := hval0
  have hW' := hW
  obtain ⟨p, q, hA0, hV, rfl, hfz, hnd⟩ := hW
  have hA : DataW.TrodAll enc Try.prog W 0 (fun _ => true) true Try.f14.params.toList args.toList ds p := hA0
  rw [Try.params14] at hA hval hsz
  obtain ⟨v0, vs0, d0, ds0, p0, q0, hargs, rfl, rfl, h0, r0⟩ := trodAll_cons hA
  obtain ⟨v1, vs1, d1, ds1, p1, q1, rfl, rfl, rfl, h1, r1⟩ := trodAll_cons r0
  obtain ⟨rfl, rfl, rfl⟩ := trodAll_nil r1
  obtain rfl : args = #[v0, v1] := by cases args; simp_all
  obtain ⟨rfl, rfl⟩ := trodVars_none hV
  have z0 := hsz
  obtain ⟨g0, z1⟩ := weights_head z0
  obtain ⟨g1, z2⟩ := weights_head z1
  have k0 := h0
  have lt0 : ∀ x ∈ p0, x.block < W.heap.size := by obtain ⟨m, hm⟩ := k0; exact DataW.trod_lt m _ _ _ hm
  obtain ⟨cs0, x0, rfl, K0, Y0⟩ := Opens_agg opens46 Try.underlying46 (hval 0 46 v0 rfl rfl) h0 g0
  obtain ⟨_, _, rfl, rfl, ⟨_, _, rfl, rfl, ⟨_, _, rfl, rfl, ⟨_, _, rfl, rfl, rfl⟩⟩⟩⟩ := K0
  obtain ⟨Y0_0, Y0_1, Y0_2, Y0_3, Y0_4⟩ := Y0
  skip
  have k1 := h1
  have lt1 : ∀ x ∈ p1, x.block < W.heap.size := by obtain ⟨m, hm⟩ := k1; exact DataW.trod_lt m _ _ _ hm
  obtain ⟨cs1, x1, rfl, K1, Y1⟩ := Opens_agg opens46 Try.underlying46 (hval 1 46 v1 rfl rfl) h1 g1
  obtain ⟨_, _, rfl, rfl, ⟨_, _, rfl, rfl, ⟨_, _, rfl, rfl, ⟨_, _, rfl, rfl, rfl⟩⟩⟩⟩ := K1
  obtain ⟨Y1_0, Y1_1, Y1_2, Y1_3, Y1_4⟩ := Y1
  skip
  clear hA0 hval0 hsz0 hsz
  obtain ⟨k, hp⟩ := Pure.CableMargins (x0.f0) (x0.f1) (x0.f2) (x0.f3) (x0.f4) (x1.f0) (x1.f1) (x1.f2) (x1.f3) (x1.f4) Y0_0 Y0_1 Y0_2 Y0_3 Y0_4 Y1_0 Y1_1 Y1_2 Y1_3 Y1_4
  refine (chargeparklaw07_CableMargins.calls k (x0.f0) (x0.f1) (x0.f2) (x0.f3) (x0.f4) (x1.f0) (x1.f1) (x1.f2) (x1.f3) (x1.f4) true W  hp).mono ?_
  rintro e W' ⟨rfl, hd⟩
  have bel : Below W.heap.size W W' := hd
  exact ⟨_, rfl, _, _, _, [], _, [], hW', trodAll_mk1 (shut_bool Try.underlying4 _), (trodAll_cons_mk (Below.trod laidOut (by kernel_rfl) (of_decide_eq_true (by kernel_rfl)) k0 bel lt0) (trodAll_cons_mk (Below.trod laidOut (by kernel_rfl) (of_decide_eq_true (by kernel_rfl)) k1 bel lt1) trodAll_mk0)), rfl, bel.frame _, fun h => by cases h⟩
theorem over : Rows.cableMarginsRow.holds Try.pinned (OpenSpec.ofChange Rows.cableMarginsSpec) :=
  OpenClaim.holds_of_wide 14 Try.f14 rfl rfl rfl rfl rfl rfl rfl ⟨rfl, rfl, rfl, rfl, rfl⟩ rfl rfl rfl rfl rfl (by kernel_rfl) Try.func14 (by kernel_rfl)
    (of_decide_eq_true (by kernel_rfl)) (by unfold Func.isWrapper; first | (rw [if_pos (by decide +kernel)]; kernel_rfl) | (rw [if_neg (by decide +kernel)]; exact ⟨rfl, rfl⟩))
    (fun os started H enc _ => lifted os started H enc)
theorem proved : Rows.CableMarginsSaid := over
#print axioms proved
end Go.Proofs.Ytnbfjdfmpadndaa.cableMargins
namespace Go.Proofs.Ytnbfjdfmpadndaa
/-- The row, under a short name, for the claim. -/
theorem cableMargins_holds : Rows.CableMarginsSaid := cableMargins.proved
end Go.Proofs.Ytnbfjdfmpadndaa
