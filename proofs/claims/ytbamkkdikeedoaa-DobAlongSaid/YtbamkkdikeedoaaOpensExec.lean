/- By hand: what an input that is what threads do has in its cells. -/
import Derived.Test.YtbamkkdikeedoaaOpensAt
namespace Go.Proofs.Ytbamkkdikeedoaa.Opens
open Go.RowKit Go.Proofs.YtbamkkdikeedoaaW.PrintWords Go.Proofs.Ytbamkkdikeedoaa.G
variable {W : World}
theorem opens27 : Opens Try.prog W 27 (Kd.slice 52 (Kd.int .u32)) (fun l => ∀ y ∈ l, wfI .u32 y) := of_slice Try.underlying27 (by kernel_rfl) (of_int Try.underlying52)
theorem c22 : Try.prog.cellsOf 22 = 1 := by kernel_rfl
theorem c27 : Try.prog.cellsOf 27 = 1 := by kernel_rfl
theorem c29 : Try.prog.cellsOf 29 = 1 := by kernel_rfl
theorem c76 : Try.prog.cellsOf 76 = 7 := by kernel_rfl
end Go.Proofs.Ytbamkkdikeedoaa.Opens
