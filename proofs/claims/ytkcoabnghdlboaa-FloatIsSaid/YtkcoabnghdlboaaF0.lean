import Derived.Test.YtkcoabnghdlboaaQ0
import Derived.Test.YtkcoabnghdlboaaG
namespace Go.Proofs.Ytkcoabnghdlboaa.Q
open Go.RowKit Go.Proofs.YtkcoabnghdlboaaW Go.Proofs.YtkcoabnghdlboaaW.PrintWords Go.Proofs.YtkcoabnghdlboaaW.PrintLast Go.Proofs.YtkcoabnghdlboaaW.PrintMore Go.Proofs.Ytkcoabnghdlboaa.Q
theorem opens22 : Opens Try.prog 22 (Kd.int .u64) (fun n => (Lit.int .u64 n).wf = true) := opens_int Try.underlying22
theorem opens3 : Opens Try.prog 3 (Kd.int .i64) (fun n => (Lit.int .i64 n).wf = true) := opens_int Try.underlying3
end Go.Proofs.Ytkcoabnghdlboaa.Q
