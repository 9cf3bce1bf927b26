/- By hand: the inputs' types of this seat. -/
import Derived.Test.YtbamkkdikeedoaaOpens
namespace Go.Proofs.Ytbamkkdikeedoaa.Opens
open Go.RowKit Go.Proofs.YtbamkkdikeedoaaW.PrintWords Go.Proofs.Ytbamkkdikeedoaa.G
variable {W : World}
def wfI (k : IntKind) (n : Int) : Prop := (Lit.int k n).wf = true
def wf26 (y : S26) : Prop := wfI .i64 y.f0 ∧ wfI .i64 y.f1 ∧ wfI .i64 y.f2 ∧ wfI .i64 y.f3 ∧ True ∧ True ∧ True
theorem opens26 : Opens Try.prog W 26 k26 wf26 :=
 of_struct (fun x : S26 => (x.f0, x.f1, x.f2, x.f3, x.f4, x.f5, x.f6)) (fun y => ⟨y.1, y.2.1, y.2.2.1, y.2.2.2.1, y.2.2.2.2.1, y.2.2.2.2.2.1, y.2.2.2.2.2.2⟩) (fun _ => rfl) Try.underlying26 (by kernel_rfl)
  (of_cons (by kernel_rfl) rfl (by decide) (of_int Try.underlying3) (of_cons (by kernel_rfl) rfl (by decide) (of_int Try.underlying3) (of_cons (by kernel_rfl) rfl (by decide) (of_int Try.underlying3) (of_cons (by kernel_rfl) rfl (by decide) (of_int Try.underlying2)
   (of_cons (by kernel_rfl) rfl (by decide) (of_bool Try.underlying4) (of_cons (by kernel_rfl) rfl (by decide) (of_bool Try.underlying4) (of_last (by kernel_rfl) rfl (of_bool Try.underlying4))))))))
theorem opens22 : Opens Try.prog W 22 (Kd.slice 26 k26) (fun l => ∀ y ∈ l, wf26 y) := of_slice Try.underlying22 (by kernel_rfl) opens26
theorem opens33 : Opens Try.prog W 33 (Kd.slice 3 (Kd.int .i64)) (fun l => ∀ y ∈ l, wfI .i64 y) := of_slice Try.underlying33 (by kernel_rfl) (of_int Try.underlying3)
end Go.Proofs.Ytbamkkdikeedoaa.Opens
