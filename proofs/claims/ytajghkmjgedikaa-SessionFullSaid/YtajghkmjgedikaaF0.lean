import Derived.Test.YtajghkmjgedikaaQ0
import Derived.Test.YtajghkmjgedikaaG
namespace Go.Proofs.Ytajghkmjgedikaa.Q
open Go.RowKit Go.Proofs.YtajghkmjgedikaaW Go.Proofs.YtajghkmjgedikaaW.PrintWords Go.Proofs.YtajghkmjgedikaaW.PrintLast Go.Proofs.YtajghkmjgedikaaW.PrintMore Go.Proofs.Ytajghkmjgedikaa.Q
theorem opens3 : Opens Try.prog 3 (Kd.int .i64) (fun n => (Lit.int .i64 n).wf = true) := opens_int Try.underlying3
end Go.Proofs.Ytajghkmjgedikaa.Q
