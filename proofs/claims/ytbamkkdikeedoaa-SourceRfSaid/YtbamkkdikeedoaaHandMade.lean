/- By hand: what lays what it was handed in a struct. -/
import Derived.Test.YtbamkkdikeedoaaG0
import Derived.Test.YtbamkkdikeedoaaHandCz
namespace Go.Proofs.Ytbamkkdikeedoaa.G
open Go.RowKit Go.Proofs.YtbamkkdikeedoaaW.PrintWords Go.Proofs.YtbamkkdikeedoaaW.PrintLast Go.Proofs.YtbamkkdikeedoaaW.PrintMore
set_option linter.unusedVariables false
set_option linter.unusedSimpArgs false

def cupolalaw11_made.f (l0 : List (S26)) : Option Unit := some ()
set_option maxHeartbeats 8000000 in
set_option maxRecDepth 100000 in
theorem cupolalaw11_made.calls (A0 : Option Addr) (c0 : Nat) (l0 : List (S26)) {r : Unit} (w : World) (hr0 : Kd.C k26 w A0 l0.length l0) (hc0 : l0.length ≤ c0) (h : cupolalaw11_made.f l0 = some r) : Calls Try.prog 31 #[.slice A0 l0.length c0] w fun e w' => e = .returned (.agg #[.slice A0 l0.length c0, .slice none 0 0, .slice none 0 0, .slice none 0 0, .slice none 0 0, .slice none 0 0, .slice none 0 0]) ∧ Below w.heap.size w w' := by
 have hu31 := Try.underlying31
 have hu76 := Try.underlying76
 go_enter Try.func31, Try.ntmps31
 go_wp2
 refine bodyPost_ret (results_cell_row rfl _ _ w.heap.size 31 #[.slice A0 l0.length c0, .slice none 0 0, .slice none 0 0, .slice none 0 0, .slice none 0 0, .slice none 0 0, .slice none 0 0] (0, 0) _ rfl (blk_new _ _) Try.underlying31 rfl (by kernel_rfl)) rfl ?_
 exact ⟨rfl, below_alloc (Below.refl _ _) _⟩

end Go.Proofs.Ytbamkkdikeedoaa.G
