/- SessionFull: sixteen Opens fill the table, and each seat that is closed is there again, at every n and k. No condition. -/
import Derived.Test.YtajghkmjgedikaaS7
namespace Go.Proofs.Ytajghkmjgedikaa
theorem sessionFull_holds : Rows.SessionFullSaid := sessionFull.said Q.full_walk
end Go.Proofs.Ytajghkmjgedikaa
