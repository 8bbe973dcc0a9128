import Derived.Test.YthcikbbglpdjhaaQ0
import Derived.Test.YthcikbbglpdjhaaG
namespace Go.Proofs.Ythcikbbglpdjhaa.Q
open Go.RowKit Go.Proofs.YthcikbbglpdjhaaW Go.Proofs.YthcikbbglpdjhaaW.PrintWords Go.Proofs.YthcikbbglpdjhaaW.PrintLast Go.Proofs.YthcikbbglpdjhaaW.PrintMore Go.Proofs.Ythcikbbglpdjhaa.Q
theorem opens5 : Opens Try.prog 5 (Kd.int .u8) (fun n => (Lit.int .u8 n).wf = true) := opens_int Try.underlying5
theorem opens22 : Opens Try.prog 22 (Kd.slice 5 (Kd.int .u8)) (fun l => ∀ y22 ∈ l, (Lit.int .u8 y22).wf = true) := opens_slice Try.underlying22 (by kernel_rfl) opens5
theorem opens3 : Opens Try.prog 3 (Kd.int .i64) (fun n => (Lit.int .i64 n).wf = true) := opens_int Try.underlying3
def g44 (x : S44) : Prop := (Lit.int .i64 x.f0).wf = true ∧ (∀ y22 ∈ x.f1, (Lit.int .u8 y22).wf = true)
theorem opens44 : Opens Try.prog 44 k44 g44 := opens_iso (fun x : S44 => (x.f0, x.f1)) (fun a => (⟨a.1, a.2⟩ : S44)) (fun _ => rfl) (opens_struct Try.underlying44 (by kernel_rfl) (opensFs_cons rfl (by kernel_rfl) opens3 (opensFs_one rfl (by kernel_rfl) opens22)))
theorem opens24 : Opens Try.prog 24 (Kd.slice 44 k44) (fun l => ∀ y24 ∈ l, g44 y24) := opens_slice Try.underlying24 (by kernel_rfl) opens44
def g46 (x : S46) : Prop := (Lit.int .i64 x.f0).wf = true ∧ (Lit.int .i64 x.f1).wf = true
theorem opens46 : Opens Try.prog 46 k46 g46 := opens_iso (fun x : S46 => (x.f0, x.f1)) (fun a => (⟨a.1, a.2⟩ : S46)) (fun _ => rfl) (opens_struct Try.underlying46 (by kernel_rfl) (opensFs_cons rfl (by kernel_rfl) opens3 (opensFs_one rfl (by kernel_rfl) opens3)))
theorem opens25 : Opens Try.prog 25 (Kd.slice 46 k46) (fun l => ∀ y25 ∈ l, g46 y25) := opens_slice Try.underlying25 (by kernel_rfl) opens46
def g32 (x : S32) : Prop := (Lit.int .i64 x.f0).wf = true ∧ (Lit.int .i64 x.f1).wf = true ∧ (∀ y24 ∈ x.f2, g44 y24) ∧ (∀ y25 ∈ x.f3, g46 y25)
theorem opens32 : Opens Try.prog 32 k32 g32 := opens_iso (fun x : S32 => (x.f0, x.f1, x.f2, x.f3)) (fun a => (⟨a.1, a.2.1, a.2.2.1, a.2.2.2⟩ : S32)) (fun _ => rfl) (opens_struct Try.underlying32 (by kernel_rfl) (opensFs_cons rfl (by kernel_rfl) opens3 (opensFs_cons rfl (by kernel_rfl) opens3 (opensFs_cons rfl (by kernel_rfl) opens24 (opensFs_one rfl (by kernel_rfl) opens25)))))
end Go.Proofs.Ythcikbbglpdjhaa.Q
