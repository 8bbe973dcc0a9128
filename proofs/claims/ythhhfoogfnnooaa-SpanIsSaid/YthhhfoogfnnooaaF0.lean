import Derived.Test.YthhhfoogfnnooaaQ0
import Derived.Test.YthhhfoogfnnooaaG
namespace Go.Proofs.Ythhhfoogfnnooaa.Q
open Go.RowKit Go.Proofs.YthhhfoogfnnooaaW Go.Proofs.YthhhfoogfnnooaaW.PrintWords Go.Proofs.YthhhfoogfnnooaaW.PrintLast Go.Proofs.YthhhfoogfnnooaaW.PrintMore Go.Proofs.Ythhhfoogfnnooaa.Q
theorem opens3 : Opens Try.prog 3 (Kd.int .i64) (fun n => (Lit.int .i64 n).wf = true) := opens_int Try.underlying3
def g23 (x : S23) : Prop := (Lit.int .i64 x.f0).wf = true ∧ (Lit.int .i64 x.f1).wf = true
theorem opens23 : Opens Try.prog 23 k23 g23 := opens_iso (fun x : S23 => (x.f0, x.f1)) (fun a => (⟨a.1, a.2⟩ : S23)) (fun _ => rfl) (opens_struct Try.underlying23 (by kernel_rfl) (opensFs_cons rfl (by kernel_rfl) opens3 (opensFs_one rfl (by kernel_rfl) opens3)))
theorem opens24 : Opens Try.prog 24 (Kd.slice 3 (Kd.int .i64)) (fun l => ∀ x ∈ l, (Lit.int .i64 x).wf = true) := opens_slice Try.underlying24 (by kernel_rfl) opens3
theorem opens4 : Opens Try.prog 4 Kd.bool (fun _ => True) := opens_bool Try.underlying4
theorem opens25 : Opens Try.prog 25 (Kd.slice 4 Kd.bool) (fun l => ∀ x ∈ l, True) := opens_slice Try.underlying25 (by kernel_rfl) opens4
end Go.Proofs.Ythhhfoogfnnooaa.Q
