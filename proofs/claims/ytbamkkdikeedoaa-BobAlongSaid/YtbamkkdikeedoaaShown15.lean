/- Plain: the example at the head of layer 15's statements. -/
import Derived.Test.YtbamkkdikeedoaaGCupolalaw15
namespace Go.Proofs.Ytbamkkdikeedoaa.G
open Go.RowKit Go.Proofs.YtbamkkdikeedoaaW.PrintWords Go.Proofs.YtbamkkdikeedoaaW.PrintLast Go.Proofs.YtbamkkdikeedoaaW.PrintMore
theorem shown15_eq : cupolalaw15_shown.f 60 = some true := by decide +kernel
theorem shown15_ev : Ev (fun k => cupolalaw15_shown.f k) true := Ev.of (fun k => cupolalaw15_shown.mono k) shown15_eq
end Go.Proofs.Ytbamkkdikeedoaa.G
