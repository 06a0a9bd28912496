-- Printed by hprint.py (a program of this claim's session over the kit's printer).
import Derived.Test.YtbkkgaiokmnmgaaOpens
import Derived.Test.YtbkkgaiokmnmgaaPrx0
namespace Go.Proofs.Ytbkkgaiokmnmgaa.Pr
open Go.RowKit Go.Proofs.YtbkkgaiokmnmgaaW.PrintWords Go.Proofs.Ytbkkgaiokmnmgaa.Opn
set_option maxRecDepth 100000
def Wf26 (x : S26) : Prop := (Lit.int .i64 x.f0).wf = true ∧ (Lit.int .i64 x.f1).wf = true ∧ (Lit.int .i64 x.f2).wf = true ∧ (Lit.int .i64 x.f3).wf = true ∧ (Lit.int .i64 x.f4).wf = true ∧ (Lit.int .i64 x.f5).wf = true ∧ (Lit.int .i64 x.f6).wf = true
def Wf24 (x : S24) : Prop := x.f0.size ≤ 140737488351232 ∧ (x.f1.length ≤ maxLen ∧ x.f1.length * 56 ≤ 140737488351232 ∧ ∀ yxf1 ∈ x.f1, Wf26 yxf1)
def Wf99 (x : S99) : Prop := (Lit.int .i64 x.f0).wf = true ∧ (Lit.int .i64 x.f1).wf = true
def Wf30 (x : S30) : Prop := (Lit.int .i64 x.f0).wf = true ∧ (x.f1.length ≤ maxLen ∧ x.f1.length * 16 ≤ 140737488351232 ∧ ∀ yxf1 ∈ x.f1, Wf99 yxf1) ∧ (x.f2.length ≤ maxLen ∧ x.f2.length * 8 ≤ 140737488351232 ∧ ∀ yxf2 ∈ x.f2, (Lit.int .i64 yxf2).wf = true)
def Wf50 (x : S50) : Prop := (Lit.int .i64 x.f0).wf = true ∧ (Lit.int .i64 x.f1).wf = true
def Wf33 (x : S33) : Prop := (Lit.int .i64 x.f0).wf = true ∧ (Lit.int .i64 x.f1).wf = true ∧ (Lit.int .i64 x.f2).wf = true ∧ (x.f3.length ≤ maxLen ∧ x.f3.length * 16 ≤ 140737488351232 ∧ ∀ yxf3 ∈ x.f3, Wf50 yxf3)
theorem opens9 : Opens Try.prog 9 Kd.string (fun s => s.size ≤ 140737488351232) := Opens_string Try.underlying9 (by kernel_rfl)
theorem opens3 : Opens Try.prog 3 (Kd.int .i64) (fun n => (Lit.int .i64 n).wf = true) := Opens_int Try.underlying3 (by kernel_rfl)
theorem opens26 : Opens Try.prog 26 k26 Wf26 :=
  Opens_iso (fun x : S26 => (x.f0, x.f1, x.f2, x.f3, x.f4, x.f5, x.f6)) (fun a => (⟨a.1, a.2.1, a.2.2.1, a.2.2.2.1, a.2.2.2.2.1, a.2.2.2.2.2.1, a.2.2.2.2.2.2⟩ : S26)) (fun _ => rfl) (Opens_struct Try.underlying26 (by kernel_rfl) (OpensF_cons rfl opens3 (OpensF_cons rfl opens3 (OpensF_cons rfl opens3 (OpensF_cons rfl opens3 (OpensF_cons rfl opens3 (OpensF_cons rfl opens3 (OpensF_one rfl opens3) (by decide)) (by decide)) (by decide)) (by decide)) (by decide)) (by decide)))
theorem opens22 : Opens Try.prog 22 (Kd.slice 26 k26) (fun xs => xs.length ≤ maxLen ∧ xs.length * 56 ≤ 140737488351232 ∧ ∀ x ∈ xs, Wf26 x) := Opens_slice Try.underlying22 (by kernel_rfl) opens26
theorem opens24 : Opens Try.prog 24 k24 Wf24 :=
  Opens_iso (fun x : S24 => (x.f0, x.f1)) (fun a => (⟨a.1, a.2⟩ : S24)) (fun _ => rfl) (Opens_struct Try.underlying24 (by kernel_rfl) (OpensF_cons rfl opens9 (OpensF_one rfl opens22) (by decide)))
theorem opens99 : Opens Try.prog 99 k99 Wf99 :=
  Opens_iso (fun x : S99 => (x.f0, x.f1)) (fun a => (⟨a.1, a.2⟩ : S99)) (fun _ => rfl) (Opens_struct Try.underlying99 (by kernel_rfl) (OpensF_cons rfl opens3 (OpensF_one rfl opens3) (by decide)))
theorem opens27 : Opens Try.prog 27 (Kd.slice 99 k99) (fun xs => xs.length ≤ maxLen ∧ xs.length * 16 ≤ 140737488351232 ∧ ∀ x ∈ xs, Wf99 x) := Opens_slice Try.underlying27 (by kernel_rfl) opens99
theorem opens28 : Opens Try.prog 28 (Kd.slice 3 (Kd.int .i64)) (fun xs => xs.length ≤ maxLen ∧ xs.length * 8 ≤ 140737488351232 ∧ ∀ x ∈ xs, (Lit.int .i64 x).wf = true) := Opens_slice Try.underlying28 (by kernel_rfl) opens3
theorem opens30 : Opens Try.prog 30 k30 Wf30 :=
  Opens_iso (fun x : S30 => (x.f0, x.f1, x.f2)) (fun a => (⟨a.1, a.2.1, a.2.2⟩ : S30)) (fun _ => rfl) (Opens_struct Try.underlying30 (by kernel_rfl) (OpensF_cons rfl opens3 (OpensF_cons rfl opens27 (OpensF_one rfl opens28) (by decide)) (by decide)))
theorem opens50 : Opens Try.prog 50 k50 Wf50 :=
  Opens_iso (fun x : S50 => (x.f0, x.f1)) (fun a => (⟨a.1, a.2⟩ : S50)) (fun _ => rfl) (Opens_struct Try.underlying50 (by kernel_rfl) (OpensF_cons rfl opens3 (OpensF_one rfl opens3) (by decide)))
theorem opens31 : Opens Try.prog 31 (Kd.slice 50 k50) (fun xs => xs.length ≤ maxLen ∧ xs.length * 16 ≤ 140737488351232 ∧ ∀ x ∈ xs, Wf50 x) := Opens_slice Try.underlying31 (by kernel_rfl) opens50
theorem opens33 : Opens Try.prog 33 k33 Wf33 :=
  Opens_iso (fun x : S33 => (x.f0, x.f1, x.f2, x.f3)) (fun a => (⟨a.1, a.2.1, a.2.2.1, a.2.2.2⟩ : S33)) (fun _ => rfl) (Opens_struct Try.underlying33 (by kernel_rfl) (OpensF_cons rfl opens3 (OpensF_cons rfl opens3 (OpensF_cons rfl opens3 (OpensF_one rfl opens31) (by decide)) (by decide)) (by decide)))
end Go.Proofs.Ytbkkgaiokmnmgaa.Pr
