/- SessionStale: what is closed stays closed, and each transaction has one owner, at every row of acts. No condition. -/
import Derived.Test.YtajghkmjgedikaaS27
namespace Go.Proofs.Ytajghkmjgedikaa
theorem sessionStale_holds : Rows.SessionStaleSaid := sessionStale.said fun A c l w hr hc _ => Q.stale_walk A c l w hr hc
end Go.Proofs.Ytajghkmjgedikaa
