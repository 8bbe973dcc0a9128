import Derived.Test.YtdnkbmjlcdddcaaQ0
import Derived.Test.YtdnkbmjlcdddcaaG
namespace Go.Proofs.Ytdnkbmjlcdddcaa.Q
open Go.RowKit Go.Proofs.YtdnkbmjlcdddcaaW Go.Proofs.YtdnkbmjlcdddcaaW.PrintWords Go.Proofs.YtdnkbmjlcdddcaaW.PrintLast Go.Proofs.YtdnkbmjlcdddcaaW.PrintMore Go.Proofs.Ytdnkbmjlcdddcaa.Q
theorem opens3 : Opens Try.prog 3 (Kd.int .i64) (fun n => (Lit.int .i64 n).wf = true) := opens_int Try.underlying3
theorem opens22 : Opens Try.prog 22 (Kd.slice 3 (Kd.int .i64)) (fun l => ∀ y22 ∈ l, (Lit.int .i64 y22).wf = true) := opens_slice Try.underlying22 (by kernel_rfl) opens3
end Go.Proofs.Ytdnkbmjlcdddcaa.Q
