import Derived.Test.YtajghkmjgedikaaQ0
import Derived.Test.YtajghkmjgedikaaG
namespace Go.Proofs.Ytajghkmjgedikaa.Q
open Go.RowKit Go.Proofs.YtajghkmjgedikaaW Go.Proofs.YtajghkmjgedikaaW.PrintWords Go.Proofs.YtajghkmjgedikaaW.PrintLast Go.Proofs.YtajghkmjgedikaaW.PrintMore Go.Proofs.Ytajghkmjgedikaa.Q
theorem opens3 : Opens Try.prog 3 (Kd.int .i64) (fun n => (Lit.int .i64 n).wf = true) := opens_int Try.underlying3
def g47 (x : S47) : Prop := (Lit.int .i64 x.f0).wf = true ∧ (Lit.int .i64 x.f1).wf = true ∧ (Lit.int .i64 x.f2).wf = true
theorem opens47 : Opens Try.prog 47 k47 g47 := opens_iso (fun x : S47 => (x.f0, x.f1, x.f2)) (fun a => (⟨a.1, a.2.1, a.2.2⟩ : S47)) (fun _ => rfl) (opens_struct Try.underlying47 (by kernel_rfl) (opensFs_cons rfl (by kernel_rfl) opens3 (opensFs_cons rfl (by kernel_rfl) opens3 (opensFs_one rfl (by kernel_rfl) opens3))))
theorem opens40 : Opens Try.prog 40 (Kd.slice 47 k47) (fun l => ∀ y40 ∈ l, g47 y40) := opens_slice Try.underlying40 (by kernel_rfl) opens47
end Go.Proofs.Ytajghkmjgedikaa.Q
