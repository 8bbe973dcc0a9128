import Derived.Test.YtjbdlgjhnldfbaaQ0
import Derived.Test.YtjbdlgjhnldfbaaG
namespace Go.Proofs.Ytjbdlgjhnldfbaa.Q
open Go.RowKit Go.Proofs.YtjbdlgjhnldfbaaW Go.Proofs.YtjbdlgjhnldfbaaW.PrintWords Go.Proofs.YtjbdlgjhnldfbaaW.PrintLast Go.Proofs.YtjbdlgjhnldfbaaW.PrintMore Go.Proofs.Ytjbdlgjhnldfbaa.Q
theorem opens29 : Opens Try.prog 29 (Kd.int .u64) (fun n => (Lit.int .u64 n).wf = true) := opens_int Try.underlying29
theorem opens3 : Opens Try.prog 3 (Kd.int .i64) (fun n => (Lit.int .i64 n).wf = true) := opens_int Try.underlying3
def g43 (x : S43) : Prop := (Lit.int .i64 x.f0).wf = true ∧ (Lit.int .u64 x.f1).wf = true ∧ (Lit.int .i64 x.f2).wf = true
theorem opens43 : Opens Try.prog 43 k43 g43 := opens_iso (fun x : S43 => (x.f0, x.f1, x.f2)) (fun a => (⟨a.1, a.2.1, a.2.2⟩ : S43)) (fun _ => rfl) (opens_struct Try.underlying43 (by kernel_rfl) (opensFs_cons rfl (by kernel_rfl) opens3 (opensFs_cons rfl (by kernel_rfl) opens29 (opensFs_one rfl (by kernel_rfl) opens3))))
theorem opens37 : Opens Try.prog 37 (Kd.slice 43 k43) (fun l => ∀ y37 ∈ l, g43 y37) := opens_slice Try.underlying37 (by kernel_rfl) opens43
def g39 (x : S39) : Prop := (∀ y37 ∈ x.f0, g43 y37) ∧ (Lit.int .i64 x.f1).wf = true
theorem opens39 : Opens Try.prog 39 k39 g39 := opens_iso (fun x : S39 => (x.f0, x.f1)) (fun a => (⟨a.1, a.2⟩ : S39)) (fun _ => rfl) (opens_struct Try.underlying39 (by kernel_rfl) (opensFs_cons rfl (by kernel_rfl) opens37 (opensFs_one rfl (by kernel_rfl) opens3)))
theorem opens27 : Opens Try.prog 27 (Kd.slice 3 (Kd.int .i64)) (fun l => ∀ y27 ∈ l, (Lit.int .i64 y27).wf = true) := opens_slice Try.underlying27 (by kernel_rfl) opens3
end Go.Proofs.Ytjbdlgjhnldfbaa.Q
