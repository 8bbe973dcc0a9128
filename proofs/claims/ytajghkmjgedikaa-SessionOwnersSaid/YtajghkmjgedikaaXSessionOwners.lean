/- SessionOwners: what is owned has one owner, at every row of transactions. No condition. -/
import Derived.Test.YtajghkmjgedikaaS13
namespace Go.Proofs.Ytajghkmjgedikaa
theorem sessionOwners_holds : Rows.SessionOwnersSaid := sessionOwners.said fun A c l w hr hc _ => Q.owners_walk A c l w hr hc
end Go.Proofs.Ytajghkmjgedikaa
