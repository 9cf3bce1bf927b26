/- Plain: the example at the head of layer 5's statements. -/
import Derived.Test.YtbamkkdikeedoaaGCupolalaw05
namespace Go.Proofs.Ytbamkkdikeedoaa.G
open Go.RowKit Go.Proofs.YtbamkkdikeedoaaW.PrintWords Go.Proofs.YtbamkkdikeedoaaW.PrintLast Go.Proofs.YtbamkkdikeedoaaW.PrintMore
theorem shown05_eq : cupolalaw05_shown.f 40 = some true := by decide +kernel
theorem shown05_ev : Ev (fun k => cupolalaw05_shown.f k) true := Ev.of (fun k => cupolalaw05_shown.mono k) shown05_eq
end Go.Proofs.Ytbamkkdikeedoaa.G
