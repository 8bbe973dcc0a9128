import Derived.Test.YtajghkmjgedikaaS18
import Derived.Test.YtajghkmjgedikaaS19
import Derived.Test.YtajghkmjgedikaaS20
import Derived.Test.YtajghkmjgedikaaS21
import Derived.Test.YtajghkmjgedikaaS22
import Derived.Test.YtajghkmjgedikaaS24
import Derived.Test.YtajghkmjgedikaaS25
namespace Go.Proofs.Ytajghkmjgedikaa.Q
open Go.RowKit Go.Proofs.YtajghkmjgedikaaW Go.Proofs.YtajghkmjgedikaaW.PrintWords Go.Proofs.YtajghkmjgedikaaW.PrintLast Go.Proofs.YtajghkmjgedikaaW.PrintMore
set_option linter.unusedVariables false
set_option linter.unusedSimpArgs false
theorem do_walk (w0 : World) (g go : Nat) (m : Mdl) (W : World) (hW : Wd w0 g go m W) (hmx : m.H.length < 999) (a b c : Int) :
    Calls Try.prog 11 #[.pointer (some ⟨g, 0, none⟩), .agg #[.int .i64 a, .int .i64 b, .int .i64 c]] W fun e w' => e = .returned (.bool true) ∧ ∃ m', Wd w0 g go m' w' ∧ m'.H.length ≤ m.H.length + 1 := by
  by_cases h0 : a = 0
  · subst h0; exact do_open0 w0 g go m W hW hmx b c
  by_cases h1 : a = 1
  · subst h1; exact do_open1 w0 g go m W hW hmx b c
  by_cases h2 : a = 2
  · subst h2; exact do_close w0 g go m W hW hmx b c
  by_cases h3 : a = 3
  · subst h3; exact do_own3 w0 g go m W hW hmx b c
  by_cases h4 : a = 4
  · subst h4; exact do_own4 w0 g go m W hW hmx b c
  by_cases h5 : a = 5
  · subst h5; exact do_lose w0 g go m W hW hmx b c
  exact do_none w0 g go m W hW hmx a b c (by simpa using h0) (by simpa using h1) (by simpa using h2) (by simpa using h3) (by simpa using h4) (by simpa using h5)
end Go.Proofs.Ytajghkmjgedikaa.Q
