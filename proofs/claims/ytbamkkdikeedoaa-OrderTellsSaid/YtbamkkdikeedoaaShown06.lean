/- Plain: the example at the head of layer 6's statements. -/
import Derived.Test.YtbamkkdikeedoaaGCupolalaw06
namespace Go.Proofs.Ytbamkkdikeedoaa.G
open Go.RowKit Go.Proofs.YtbamkkdikeedoaaW.PrintWords Go.Proofs.YtbamkkdikeedoaaW.PrintLast Go.Proofs.YtbamkkdikeedoaaW.PrintMore
theorem shown06_eq : cupolalaw06_shown.f 40 = some true := by decide +kernel
theorem shown06_ev : Ev (fun k => cupolalaw06_shown.f k) true := Ev.of (fun k => cupolalaw06_shown.mono k) shown06_eq
end Go.Proofs.Ytbamkkdikeedoaa.G
