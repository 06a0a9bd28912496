-- Printed by hprint.py (a program of this claim's session over the kit's printer).
import Derived.Test.YtenkffjlpdappaaOpens
import Derived.Test.YtenkffjlpdappaaPrx0
namespace Go.Proofs.Ytenkffjlpdappaa.Pr
open Go.RowKit Go.Proofs.YtenkffjlpdappaaW.PrintWords Go.Proofs.Ytenkffjlpdappaa.Opn
def Wf23 (x : S23) : Prop := (Lit.int .u64 x.f0).wf = true ∧ (Lit.int .u64 x.f1).wf = true ∧ (Lit.int .u64 x.f2).wf = true ∧ (Lit.int .u64 x.f3).wf = true
def Wf25 (x : S25) : Prop := (Lit.int .i64 x.f0).wf = true ∧ (Lit.int .i64 x.f1).wf = true ∧ (Lit.int .i64 x.f2).wf = true ∧ (Lit.int .i64 x.f3).wf = true ∧ (Lit.int .i64 x.f4).wf = true ∧ (Lit.int .i64 x.f5).wf = true ∧ (Lit.int .i64 x.f6).wf = true ∧ (Lit.int .i64 x.f7).wf = true ∧ (Lit.int .i64 x.f8).wf = true ∧ Wf23 x.f9
def Wf44 (x : S44) : Prop := (Lit.int .i64 x.f0).wf = true ∧ (Lit.int .i64 x.f1).wf = true ∧ (Lit.int .i64 x.f2).wf = true ∧ (Lit.int .i64 x.f3).wf = true ∧ (Lit.int .u64 x.f4).wf = true
theorem opens3 : Opens Try.prog 3 (Kd.int .i64) (fun n => (Lit.int .i64 n).wf = true) := Opens_int Try.underlying3 (by kernel_rfl)
theorem opens22 : Opens Try.prog 22 (Kd.int .u64) (fun n => (Lit.int .u64 n).wf = true) := Opens_int Try.underlying22 (by kernel_rfl)
theorem opens23 : Opens Try.prog 23 k23 Wf23 :=
  Opens_iso (fun x : S23 => (x.f0, x.f1, x.f2, x.f3)) (fun a => (⟨a.1, a.2.1, a.2.2.1, a.2.2.2⟩ : S23)) (fun _ => rfl) (Opens_array4 Try.underlying23 (by kernel_rfl) opens22)
theorem opens25 : Opens Try.prog 25 k25 Wf25 :=
  Opens_iso (fun x : S25 => (x.f0, x.f1, x.f2, x.f3, x.f4, x.f5, x.f6, x.f7, x.f8, x.f9)) (fun a => (⟨a.1, a.2.1, a.2.2.1, a.2.2.2.1, a.2.2.2.2.1, a.2.2.2.2.2.1, a.2.2.2.2.2.2.1, a.2.2.2.2.2.2.2.1, a.2.2.2.2.2.2.2.2.1, a.2.2.2.2.2.2.2.2.2⟩ : S25)) (fun _ => rfl) (Opens_struct Try.underlying25 (by kernel_rfl) (OpensF_cons rfl opens3 (OpensF_cons rfl opens3 (OpensF_cons rfl opens3 (OpensF_cons rfl opens3 (OpensF_cons rfl opens3 (OpensF_cons rfl opens3 (OpensF_cons rfl opens3 (OpensF_cons rfl opens3 (OpensF_cons rfl opens3 (OpensF_one rfl opens23) (by decide)) (by decide)) (by decide)) (by decide)) (by decide)) (by decide)) (by decide)) (by decide)) (by decide)))
theorem opens44 : Opens Try.prog 44 k44 Wf44 :=
  Opens_iso (fun x : S44 => (x.f0, x.f1, x.f2, x.f3, x.f4)) (fun a => (⟨a.1, a.2.1, a.2.2.1, a.2.2.2.1, a.2.2.2.2⟩ : S44)) (fun _ => rfl) (Opens_struct Try.underlying44 (by kernel_rfl) (OpensF_cons rfl opens3 (OpensF_cons rfl opens3 (OpensF_cons rfl opens3 (OpensF_cons rfl opens3 (OpensF_one rfl opens22) (by decide)) (by decide)) (by decide)) (by decide)))
theorem opens26 : Opens Try.prog 26 (Kd.slice 44 k44) (fun xs => xs.length ≤ maxLen ∧ xs.length * 40 ≤ 140737488351232 ∧ ∀ x ∈ xs, Wf44 x) := Opens_slice Try.underlying26 (by kernel_rfl) opens44
end Go.Proofs.Ytenkffjlpdappaa.Pr
