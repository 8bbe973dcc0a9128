import Derived.Test.YtajghkmjgedikaaS6
import Derived.Test.YtajghkmjgedikaaB
import Derived.Test.YtajghkmjgedikaaRows
import Derived.Test.YtajghkmjgedikaaF0
import Derived.WalkKit
import Derived.ProofKit
import Derived.OpenShut
import Derived.ShutString
import Derived.ChangeOld
import Derived.Below
import Derived.SizedLaws
namespace Go.Proofs.Ytajghkmjgedikaa.Q
open Go.RowKit Go.Proofs.YtajghkmjgedikaaW Go.Proofs.YtajghkmjgedikaaW.PrintWords Go.Proofs.YtajghkmjgedikaaW.PrintLast Go.Proofs.YtajghkmjgedikaaW.PrintMore
set_option linter.unusedVariables false
set_option linter.unusedSimpArgs false
theorem info31 : (Try.prog.info? 31).map (fun i => (i.zero, i.size, i.bytes)) = some (some (.agg #[(.int .i64 0), (.int .i64 0)]), 2, 16) := by kernel_rfl
end Go.Proofs.Ytajghkmjgedikaa.Q
