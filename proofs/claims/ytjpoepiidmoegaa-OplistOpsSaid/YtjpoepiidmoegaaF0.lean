import Derived.Test.YtjpoepiidmoegaaQ0
import Derived.Test.YtjpoepiidmoegaaG
namespace Go.Proofs.Ytjpoepiidmoegaa.Q
open Go.RowKit Go.Proofs.YtjpoepiidmoegaaW Go.Proofs.YtjpoepiidmoegaaW.PrintWords Go.Proofs.YtjpoepiidmoegaaW.PrintLast Go.Proofs.YtjpoepiidmoegaaW.PrintMore Go.Proofs.Ytjpoepiidmoegaa.Q
theorem opens3 : Opens Try.prog 3 (Kd.int .i64) (fun n => (Lit.int .i64 n).wf = true) := opens_int Try.underlying3
def g74 (x : S74) : Prop := (Lit.int .i64 x.f0).wf = true ∧ (Lit.int .i64 x.f1).wf = true ∧ (Lit.int .i64 x.f2).wf = true ∧ (Lit.int .i64 x.f3).wf = true ∧ (Lit.int .i64 x.f4).wf = true
theorem opens74 : Opens Try.prog 74 k74 g74 := opens_iso (fun x : S74 => (x.f0, x.f1, x.f2, x.f3, x.f4)) (fun a => (⟨a.1, a.2.1, a.2.2.1, a.2.2.2.1, a.2.2.2.2⟩ : S74)) (fun _ => rfl) (opens_struct Try.underlying74 (by kernel_rfl) (opensFs_cons rfl (by kernel_rfl) opens3 (opensFs_cons rfl (by kernel_rfl) opens3 (opensFs_cons rfl (by kernel_rfl) opens3 (opensFs_cons rfl (by kernel_rfl) opens3 (opensFs_one rfl (by kernel_rfl) opens3))))))
theorem opens22 : Opens Try.prog 22 (Kd.slice 74 k74) (fun l => ∀ y22 ∈ l, g74 y22) := opens_slice Try.underlying22 (by kernel_rfl) opens74
end Go.Proofs.Ytjpoepiidmoegaa.Q
