-- Printed by hprint.py (a program of this claim's session over the kit's printer).
import Derived.Test.YtnbfjdfmpadndaaOpens
import Derived.Test.YtnbfjdfmpadndaaPrx0
namespace Go.Proofs.Ytnbfjdfmpadndaa.Pr
open Go.RowKit Go.Proofs.YtnbfjdfmpadndaaW.PrintWords Go.Proofs.Ytnbfjdfmpadndaa.Opn
def Wf37 (x : S37) : Prop := (Lit.int .i64 x.f0).wf = true ∧ (Lit.int .i64 x.f1).wf = true
def Wf25 (x : S25) : Prop := (Lit.int .i64 x.f0).wf = true ∧ (x.f1.length ≤ maxLen ∧ x.f1.length * 16 ≤ 140737488351232 ∧ ∀ yxf1 ∈ x.f1, Wf37 yxf1) ∧ (x.f2.length ≤ maxLen ∧ x.f2.length * 8 ≤ 140737488351232 ∧ ∀ yxf2 ∈ x.f2, (Lit.int .i64 yxf2).wf = true)
def Wf46 (x : S46) : Prop := (Lit.int .i64 x.f0).wf = true ∧ (Lit.int .i64 x.f1).wf = true ∧ (Lit.int .i64 x.f2).wf = true ∧ (Lit.int .i64 x.f3).wf = true ∧ (Lit.int .i64 x.f4).wf = true
theorem opens3 : Opens Try.prog 3 (Kd.int .i64) (fun n => (Lit.int .i64 n).wf = true) := Opens_int Try.underlying3 (by kernel_rfl)
theorem opens37 : Opens Try.prog 37 k37 Wf37 :=
  Opens_iso (fun x : S37 => (x.f0, x.f1)) (fun a => (⟨a.1, a.2⟩ : S37)) (fun _ => rfl) (Opens_struct Try.underlying37 (by kernel_rfl) (OpensF_cons rfl opens3 (OpensF_one rfl opens3) (by decide)))
theorem opens22 : Opens Try.prog 22 (Kd.slice 37 k37) (fun xs => xs.length ≤ maxLen ∧ xs.length * 16 ≤ 140737488351232 ∧ ∀ x ∈ xs, Wf37 x) := Opens_slice Try.underlying22 (by kernel_rfl) opens37
theorem opens23 : Opens Try.prog 23 (Kd.slice 3 (Kd.int .i64)) (fun xs => xs.length ≤ maxLen ∧ xs.length * 8 ≤ 140737488351232 ∧ ∀ x ∈ xs, (Lit.int .i64 x).wf = true) := Opens_slice Try.underlying23 (by kernel_rfl) opens3
theorem opens25 : Opens Try.prog 25 k25 Wf25 :=
  Opens_iso (fun x : S25 => (x.f0, x.f1, x.f2)) (fun a => (⟨a.1, a.2.1, a.2.2⟩ : S25)) (fun _ => rfl) (Opens_struct Try.underlying25 (by kernel_rfl) (OpensF_cons rfl opens3 (OpensF_cons rfl opens22 (OpensF_one rfl opens23) (by decide)) (by decide)))
theorem opens46 : Opens Try.prog 46 k46 Wf46 :=
  Opens_iso (fun x : S46 => (x.f0, x.f1, x.f2, x.f3, x.f4)) (fun a => (⟨a.1, a.2.1, a.2.2.1, a.2.2.2.1, a.2.2.2.2⟩ : S46)) (fun _ => rfl) (Opens_struct Try.underlying46 (by kernel_rfl) (OpensF_cons rfl opens3 (OpensF_cons rfl opens3 (OpensF_cons rfl opens3 (OpensF_cons rfl opens3 (OpensF_one rfl opens3) (by decide)) (by decide)) (by decide)) (by decide)))
end Go.Proofs.Ytnbfjdfmpadndaa.Pr
