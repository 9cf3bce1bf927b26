/- Plain: the example at the head of layer 14's statements. -/
import Derived.Test.YtbamkkdikeedoaaGCupolalaw14
namespace Go.Proofs.Ytbamkkdikeedoaa.G
open Go.RowKit Go.Proofs.YtbamkkdikeedoaaW.PrintWords Go.Proofs.YtbamkkdikeedoaaW.PrintLast Go.Proofs.YtbamkkdikeedoaaW.PrintMore
theorem shown14_eq : cupolalaw14_shown.f 60 = some true := by decide +kernel
theorem shown14_ev : Ev (fun k => cupolalaw14_shown.f k) true := Ev.of (fun k => cupolalaw14_shown.mono k) shown14_eq
end Go.Proofs.Ytbamkkdikeedoaa.G
