/- Plain: the example at the head of layer 11's statements. -/
import Derived.Test.YtbamkkdikeedoaaGCupolalaw11
namespace Go.Proofs.Ytbamkkdikeedoaa.G
open Go.RowKit Go.Proofs.YtbamkkdikeedoaaW.PrintWords Go.Proofs.YtbamkkdikeedoaaW.PrintLast Go.Proofs.YtbamkkdikeedoaaW.PrintMore
theorem shown11_eq : cupolalaw11_shown.f 40 = some true := by decide +kernel
theorem shown11_ev : Ev (fun k => cupolalaw11_shown.f k) true := Ev.of (fun k => cupolalaw11_shown.mono k) shown11_eq
end Go.Proofs.Ytbamkkdikeedoaa.G
