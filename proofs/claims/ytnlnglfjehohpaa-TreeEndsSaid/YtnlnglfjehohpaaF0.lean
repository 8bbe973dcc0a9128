import Derived.Test.YtnlnglfjehohpaaQ0
import Derived.Test.YtnlnglfjehohpaaG
namespace Go.Proofs.Ytnlnglfjehohpaa.Q
open Go.RowKit Go.Proofs.YtnlnglfjehohpaaW Go.Proofs.YtnlnglfjehohpaaW.PrintWords Go.Proofs.YtnlnglfjehohpaaW.PrintLast Go.Proofs.YtnlnglfjehohpaaW.PrintMore Go.Proofs.Ytnlnglfjehohpaa.Q
theorem opens3 : Opens Try.prog 3 (Kd.int .i64) (fun n => (Lit.int .i64 n).wf = true) := opens_int Try.underlying3
def g47 (x : S47) : Prop := (Lit.int .i64 x.f0).wf = true ∧ (Lit.int .i64 x.f1).wf = true
theorem opens47 : Opens Try.prog 47 k47 g47 := opens_iso (fun x : S47 => (x.f0, x.f1)) (fun a => (⟨a.1, a.2⟩ : S47)) (fun _ => rfl) (opens_struct Try.underlying47 (by kernel_rfl) (opensFs_cons rfl (by kernel_rfl) opens3 (opensFs_one rfl (by kernel_rfl) opens3)))
theorem opens22 : Opens Try.prog 22 (Kd.slice 47 k47) (fun l => ∀ y22 ∈ l, g47 y22) := opens_slice Try.underlying22 (by kernel_rfl) opens47
end Go.Proofs.Ytnlnglfjehohpaa.Q
