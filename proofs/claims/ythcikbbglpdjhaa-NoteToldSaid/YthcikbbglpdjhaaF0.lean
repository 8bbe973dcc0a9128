import Derived.Test.YthcikbbglpdjhaaQ0
import Derived.Test.YthcikbbglpdjhaaG
namespace Go.Proofs.Ythcikbbglpdjhaa.Q
open Go.RowKit Go.Proofs.YthcikbbglpdjhaaW Go.Proofs.YthcikbbglpdjhaaW.PrintWords Go.Proofs.YthcikbbglpdjhaaW.PrintLast Go.Proofs.YthcikbbglpdjhaaW.PrintMore Go.Proofs.Ythcikbbglpdjhaa.Q
theorem opens5 : Opens Try.prog 5 (Kd.int .u8) (fun n => (Lit.int .u8 n).wf = true) := opens_int Try.underlying5
theorem opens22 : Opens Try.prog 22 (Kd.slice 5 (Kd.int .u8)) (fun l => ∀ y22 ∈ l, (Lit.int .u8 y22).wf = true) := opens_slice Try.underlying22 (by kernel_rfl) opens5
end Go.Proofs.Ythcikbbglpdjhaa.Q
