/-
  No cell of these rows narrows 'for every input' (looked for: loops, veiled, ifaces, maps, wideKeys, modest, calm, conditions, laid).
  DERIVED. THE GIVEN ROWS OF THIS SEAT. 27 by the template 'for every input the law returns true; each argument reads behind the call as it read before'; 0 by the template 'total and deterministic' (their statements: YtbamkkdikeedoaaTotals.lean).
  GIVEN WITH THE SEED: the statements are not yours to turn. If you find one false, say at which input.
  Laid BY PROGRAM, IN A SANDBOX (cutbox-rows.mjs): the forced cells as the released guide's own fill.sh prints them over the translation d564a4fd14504897… (all of the seat's roots in one cut). By AI agents, Wed Nov 11 2026. No macro, syntax, notation, axiom, sorry.
-/
import Derived.Test.YtbamkkdikeedoaaChecked
import GoSem.Claim
import GoSem.ClaimJoined
import GoSem.ClaimMapViews
import Derived.JoinedTies
import Derived.KernelRfl
namespace Go.Proofs.Ytbamkkdikeedoaa
/- THE CELL 'sum', in the pinned program and in every row, IS THE sha256 OF THE DUMP (.gsa) THAT YtbamkkdikeedoaaProg.lean LOADS. Nothing in Lean hashes anything: it is a label: what it is worth is what the hold of that sum in a sandbox is worth. -/
noncomputable def Try.pinned : Pinned := { name := "ytbamkkdikeedoaa", sum := "d564a4fd14504897965f7d31eef9ab6c8785483efd6bb475d45fe020086e46e9", checked := Try.checked }
namespace Rows
def none {H : Type} : Left H := { results := [], args := [] }

/-- 'cupolalaw11.SourceNone': WHATEVER THE INPUT: true; the input reads as it did. -/
def sourceNoneSpec : ChangeSpec := { name := "sourceNone", fn := fun _ => fun
  | [d1, d2, d3] => { results := [.lit (.bool true)], args := [d1, d2, d3] }
  | _ => none }
def sourceNoneRow : OpenClaim := { program := "ytbamkkdikeedoaa", sum := "d564a4fd14504897965f7d31eef9ab6c8785483efd6bb475d45fe020086e46e9", func := "cupola/cupolalaw11.SourceNone", spec := "sourceNone", unfollowed := true, recurses := true, apart := false }
def SourceNoneSaid : Prop := sourceNoneRow.holds Try.pinned (OpenSpec.ofChange sourceNoneSpec)

/-- ITS FALSE NEIGHBOUR: 'it returns false'. Refute it at one input. -/
def sourceNoneWrong : ChangeSpec := { name := "sourceNone", fn := fun _ => fun
  | [d1, d2, d3] => { results := [.lit (.bool false)], args := [d1, d2, d3] }
  | _ => none }
def SourceNoneWrongFalsely : Prop := sourceNoneRow.holds Try.pinned (OpenSpec.ofChange sourceNoneWrong)

/-- 'cupolalaw11.SourceMore': WHATEVER THE INPUT: true; the input reads as it did. -/
def sourceMoreSpec : ChangeSpec := { name := "sourceMore", fn := fun _ => fun
  | [d1, d2, d3, d4] => { results := [.lit (.bool true)], args := [d1, d2, d3, d4] }
  | _ => none }
def sourceMoreRow : OpenClaim := { program := "ytbamkkdikeedoaa", sum := "d564a4fd14504897965f7d31eef9ab6c8785483efd6bb475d45fe020086e46e9", func := "cupola/cupolalaw11.SourceMore", spec := "sourceMore", unfollowed := true, recurses := true, apart := false }
def SourceMoreSaid : Prop := sourceMoreRow.holds Try.pinned (OpenSpec.ofChange sourceMoreSpec)

/-- ITS FALSE NEIGHBOUR: 'it returns false'. Refute it at one input. -/
def sourceMoreWrong : ChangeSpec := { name := "sourceMore", fn := fun _ => fun
  | [d1, d2, d3, d4] => { results := [.lit (.bool false)], args := [d1, d2, d3, d4] }
  | _ => none }
def SourceMoreWrongFalsely : Prop := sourceMoreRow.holds Try.pinned (OpenSpec.ofChange sourceMoreWrong)

/-- 'cupolalaw11.SourceInit': WHATEVER THE INPUT: true; the input reads as it did. -/
def sourceInitSpec : ChangeSpec := { name := "sourceInit", fn := fun _ => fun
  | [d1, d2, d3, d4] => { results := [.lit (.bool true)], args := [d1, d2, d3, d4] }
  | _ => none }
def sourceInitRow : OpenClaim := { program := "ytbamkkdikeedoaa", sum := "d564a4fd14504897965f7d31eef9ab6c8785483efd6bb475d45fe020086e46e9", func := "cupola/cupolalaw11.SourceInit", spec := "sourceInit", unfollowed := true, recurses := true, apart := false }
def SourceInitSaid : Prop := sourceInitRow.holds Try.pinned (OpenSpec.ofChange sourceInitSpec)

/-- ITS FALSE NEIGHBOUR: 'it returns false'. Refute it at one input. -/
def sourceInitWrong : ChangeSpec := { name := "sourceInit", fn := fun _ => fun
  | [d1, d2, d3, d4] => { results := [.lit (.bool false)], args := [d1, d2, d3, d4] }
  | _ => none }
def SourceInitWrongFalsely : Prop := sourceInitRow.holds Try.pinned (OpenSpec.ofChange sourceInitWrong)

/-- 'cupolalaw05.RelPairs': WHATEVER THE INPUT: true; the input reads as it did. -/
def relPairsSpec : ChangeSpec := { name := "relPairs", fn := fun _ => fun
  | [d1, d2, d3] => { results := [.lit (.bool true)], args := [d1, d2, d3] }
  | _ => none }
def relPairsRow : OpenClaim := { program := "ytbamkkdikeedoaa", sum := "d564a4fd14504897965f7d31eef9ab6c8785483efd6bb475d45fe020086e46e9", func := "cupola/cupolalaw05.RelPairs", spec := "relPairs", apart := false }
def RelPairsSaid : Prop := relPairsRow.holds Try.pinned (OpenSpec.ofChange relPairsSpec)

/-- ITS FALSE NEIGHBOUR: 'it returns false'. Refute it at one input. -/
def relPairsWrong : ChangeSpec := { name := "relPairs", fn := fun _ => fun
  | [d1, d2, d3] => { results := [.lit (.bool false)], args := [d1, d2, d3] }
  | _ => none }
def RelPairsWrongFalsely : Prop := relPairsRow.holds Try.pinned (OpenSpec.ofChange relPairsWrong)

/-- 'cupolalaw11.SourceFits': WHATEVER THE INPUT: true; the input reads as it did. -/
def sourceFitsSpec : ChangeSpec := { name := "sourceFits", fn := fun _ => fun
  | [d1, d2] => { results := [.lit (.bool true)], args := [d1, d2] }
  | _ => none }
def sourceFitsRow : OpenClaim := { program := "ytbamkkdikeedoaa", sum := "d564a4fd14504897965f7d31eef9ab6c8785483efd6bb475d45fe020086e46e9", func := "cupola/cupolalaw11.SourceFits", spec := "sourceFits", unfollowed := true, recurses := true, apart := false }
def SourceFitsSaid : Prop := sourceFitsRow.holds Try.pinned (OpenSpec.ofChange sourceFitsSpec)

/-- ITS FALSE NEIGHBOUR: 'it returns false'. Refute it at one input. -/
def sourceFitsWrong : ChangeSpec := { name := "sourceFits", fn := fun _ => fun
  | [d1, d2] => { results := [.lit (.bool false)], args := [d1, d2] }
  | _ => none }
def SourceFitsWrongFalsely : Prop := sourceFitsRow.holds Try.pinned (OpenSpec.ofChange sourceFitsWrong)

/-- 'cupolalaw05.RelOne': WHATEVER THE INPUT: true; the input reads as it did. -/
def relOneSpec : ChangeSpec := { name := "relOne", fn := fun _ => fun
  | [d1, d2, d3, d4, d5] => { results := [.lit (.bool true)], args := [d1, d2, d3, d4, d5] }
  | _ => none }
def relOneRow : OpenClaim := { program := "ytbamkkdikeedoaa", sum := "d564a4fd14504897965f7d31eef9ab6c8785483efd6bb475d45fe020086e46e9", func := "cupola/cupolalaw05.RelOne", spec := "relOne", apart := false }
def RelOneSaid : Prop := relOneRow.holds Try.pinned (OpenSpec.ofChange relOneSpec)

/-- ITS FALSE NEIGHBOUR: 'it returns false'. Refute it at one input. -/
def relOneWrong : ChangeSpec := { name := "relOne", fn := fun _ => fun
  | [d1, d2, d3, d4, d5] => { results := [.lit (.bool false)], args := [d1, d2, d3, d4, d5] }
  | _ => none }
def RelOneWrongFalsely : Prop := relOneRow.holds Try.pinned (OpenSpec.ofChange relOneWrong)

/-- 'cupolalaw05.RelTwo': WHATEVER THE INPUT: true; the input reads as it did. -/
def relTwoSpec : ChangeSpec := { name := "relTwo", fn := fun _ => fun
  | [d1, d2] => { results := [.lit (.bool true)], args := [d1, d2] }
  | _ => none }
def relTwoRow : OpenClaim := { program := "ytbamkkdikeedoaa", sum := "d564a4fd14504897965f7d31eef9ab6c8785483efd6bb475d45fe020086e46e9", func := "cupola/cupolalaw05.RelTwo", spec := "relTwo", unfollowed := true, recurses := true, apart := false }
def RelTwoSaid : Prop := relTwoRow.holds Try.pinned (OpenSpec.ofChange relTwoSpec)

/-- ITS FALSE NEIGHBOUR: 'it returns false'. Refute it at one input. -/
def relTwoWrong : ChangeSpec := { name := "relTwo", fn := fun _ => fun
  | [d1, d2] => { results := [.lit (.bool false)], args := [d1, d2] }
  | _ => none }
def RelTwoWrongFalsely : Prop := relTwoRow.holds Try.pinned (OpenSpec.ofChange relTwoWrong)

/-- 'cupolalaw11.SourceRf': WHATEVER THE INPUT: true; the input reads as it did. -/
def sourceRfSpec : ChangeSpec := { name := "sourceRf", fn := fun _ => fun
  | [d1, d2, d3] => { results := [.lit (.bool true)], args := [d1, d2, d3] }
  | _ => none }
def sourceRfRow : OpenClaim := { program := "ytbamkkdikeedoaa", sum := "d564a4fd14504897965f7d31eef9ab6c8785483efd6bb475d45fe020086e46e9", func := "cupola/cupolalaw11.SourceRf", spec := "sourceRf", unfollowed := true, recurses := true, apart := false }
def SourceRfSaid : Prop := sourceRfRow.holds Try.pinned (OpenSpec.ofChange sourceRfSpec)

/-- ITS FALSE NEIGHBOUR: 'it returns false'. Refute it at one input. -/
def sourceRfWrong : ChangeSpec := { name := "sourceRf", fn := fun _ => fun
  | [d1, d2, d3] => { results := [.lit (.bool false)], args := [d1, d2, d3] }
  | _ => none }
def SourceRfWrongFalsely : Prop := sourceRfRow.holds Try.pinned (OpenSpec.ofChange sourceRfWrong)

/-- 'cupolalaw05.RelAlgebra': WHATEVER THE INPUT: true; the input reads as it did. -/
def relAlgebraSpec : ChangeSpec := { name := "relAlgebra", fn := fun _ => fun
  | [d1, d2, d3] => { results := [.lit (.bool true)], args := [d1, d2, d3] }
  | _ => none }
def relAlgebraRow : OpenClaim := { program := "ytbamkkdikeedoaa", sum := "d564a4fd14504897965f7d31eef9ab6c8785483efd6bb475d45fe020086e46e9", func := "cupola/cupolalaw05.RelAlgebra", spec := "relAlgebra", unfollowed := true, recurses := true, apart := false }
def RelAlgebraSaid : Prop := relAlgebraRow.holds Try.pinned (OpenSpec.ofChange relAlgebraSpec)

/-- ITS FALSE NEIGHBOUR: 'it returns false'. Refute it at one input. -/
def relAlgebraWrong : ChangeSpec := { name := "relAlgebra", fn := fun _ => fun
  | [d1, d2, d3] => { results := [.lit (.bool false)], args := [d1, d2, d3] }
  | _ => none }
def RelAlgebraWrongFalsely : Prop := relAlgebraRow.holds Try.pinned (OpenSpec.ofChange relAlgebraWrong)

/-- 'cupolalaw05.RelOnly': WHATEVER THE INPUT: true; the input reads as it did. -/
def relOnlySpec : ChangeSpec := { name := "relOnly", fn := fun _ => fun
  | [d1, d2, d3, d4, d5] => { results := [.lit (.bool true)], args := [d1, d2, d3, d4, d5] }
  | _ => none }
def relOnlyRow : OpenClaim := { program := "ytbamkkdikeedoaa", sum := "d564a4fd14504897965f7d31eef9ab6c8785483efd6bb475d45fe020086e46e9", func := "cupola/cupolalaw05.RelOnly", spec := "relOnly", unfollowed := true, recurses := true, apart := false }
def RelOnlySaid : Prop := relOnlyRow.holds Try.pinned (OpenSpec.ofChange relOnlySpec)

/-- ITS FALSE NEIGHBOUR: 'it returns false'. Refute it at one input. -/
def relOnlyWrong : ChangeSpec := { name := "relOnly", fn := fun _ => fun
  | [d1, d2, d3, d4, d5] => { results := [.lit (.bool false)], args := [d1, d2, d3, d4, d5] }
  | _ => none }
def RelOnlyWrongFalsely : Prop := relOnlyRow.holds Try.pinned (OpenSpec.ofChange relOnlyWrong)

/-- 'cupolalaw11.SourceTells': WHATEVER THE INPUT: true; the input reads as it did. -/
def sourceTellsSpec : ChangeSpec := { name := "sourceTells", fn := fun _ => fun
  | [d1, d2, d3, d4] => { results := [.lit (.bool true)], args := [d1, d2, d3, d4] }
  | _ => none }
def sourceTellsRow : OpenClaim := { program := "ytbamkkdikeedoaa", sum := "d564a4fd14504897965f7d31eef9ab6c8785483efd6bb475d45fe020086e46e9", func := "cupola/cupolalaw11.SourceTells", spec := "sourceTells", unfollowed := true, recurses := true, apart := false }
def SourceTellsSaid : Prop := sourceTellsRow.holds Try.pinned (OpenSpec.ofChange sourceTellsSpec)

/-- ITS FALSE NEIGHBOUR: 'it returns false'. Refute it at one input. -/
def sourceTellsWrong : ChangeSpec := { name := "sourceTells", fn := fun _ => fun
  | [d1, d2, d3, d4] => { results := [.lit (.bool false)], args := [d1, d2, d3, d4] }
  | _ => none }
def SourceTellsWrongFalsely : Prop := sourceTellsRow.holds Try.pinned (OpenSpec.ofChange sourceTellsWrong)

/-- 'cupolalaw05.RelClosed': WHATEVER THE INPUT: true; the input reads as it did. -/
def relClosedSpec : ChangeSpec := { name := "relClosed", fn := fun _ => fun
  | [d1, d2] => { results := [.lit (.bool true)], args := [d1, d2] }
  | _ => none }
def relClosedRow : OpenClaim := { program := "ytbamkkdikeedoaa", sum := "d564a4fd14504897965f7d31eef9ab6c8785483efd6bb475d45fe020086e46e9", func := "cupola/cupolalaw05.RelClosed", spec := "relClosed", unfollowed := true, recurses := true, apart := false }
def RelClosedSaid : Prop := relClosedRow.holds Try.pinned (OpenSpec.ofChange relClosedSpec)

/-- ITS FALSE NEIGHBOUR: 'it returns false'. Refute it at one input. -/
def relClosedWrong : ChangeSpec := { name := "relClosed", fn := fun _ => fun
  | [d1, d2] => { results := [.lit (.bool false)], args := [d1, d2] }
  | _ => none }
def RelClosedWrongFalsely : Prop := relClosedRow.holds Try.pinned (OpenSpec.ofChange relClosedWrong)

/-- 'cupolalaw15.BobWeak': WHATEVER THE INPUT: true; the input reads as it did. -/
def bobWeakSpec : ChangeSpec := { name := "bobWeak", fn := fun _ => fun
  | [d] => { results := [.lit (.bool true)], args := [d] }
  | _ => none }
def bobWeakRow : OpenClaim := { program := "ytbamkkdikeedoaa", sum := "d564a4fd14504897965f7d31eef9ab6c8785483efd6bb475d45fe020086e46e9", func := "cupola/cupolalaw15.BobWeak", spec := "bobWeak", unfollowed := true, recurses := true, apart := false }
def BobWeakSaid : Prop := bobWeakRow.holds Try.pinned (OpenSpec.ofChange bobWeakSpec)

/-- ITS FALSE NEIGHBOUR: 'it returns false'. Refute it at one input. -/
def bobWeakWrong : ChangeSpec := { name := "bobWeak", fn := fun _ => fun
  | [d] => { results := [.lit (.bool false)], args := [d] }
  | _ => none }
def BobWeakWrongFalsely : Prop := bobWeakRow.holds Try.pinned (OpenSpec.ofChange bobWeakWrong)

/-- 'cupolalaw15.BobSame': WHATEVER THE INPUT: true; the input reads as it did. -/
def bobSameSpec : ChangeSpec := { name := "bobSame", fn := fun _ => fun
  | [d1, d2, d3] => { results := [.lit (.bool true)], args := [d1, d2, d3] }
  | _ => none }
def bobSameRow : OpenClaim := { program := "ytbamkkdikeedoaa", sum := "d564a4fd14504897965f7d31eef9ab6c8785483efd6bb475d45fe020086e46e9", func := "cupola/cupolalaw15.BobSame", spec := "bobSame", unfollowed := true, recurses := true, apart := false }
def BobSameSaid : Prop := bobSameRow.holds Try.pinned (OpenSpec.ofChange bobSameSpec)

/-- ITS FALSE NEIGHBOUR: 'it returns false'. Refute it at one input. -/
def bobSameWrong : ChangeSpec := { name := "bobSame", fn := fun _ => fun
  | [d1, d2, d3] => { results := [.lit (.bool false)], args := [d1, d2, d3] }
  | _ => none }
def BobSameWrongFalsely : Prop := bobSameRow.holds Try.pinned (OpenSpec.ofChange bobSameWrong)

/-- 'cupolalaw14.DobTells': WHATEVER THE INPUT: true; the input reads as it did. -/
def dobTellsSpec : ChangeSpec := { name := "dobTells", fn := fun _ => fun
  | [d1, d2, d3] => { results := [.lit (.bool true)], args := [d1, d2, d3] }
  | _ => none }
def dobTellsRow : OpenClaim := { program := "ytbamkkdikeedoaa", sum := "d564a4fd14504897965f7d31eef9ab6c8785483efd6bb475d45fe020086e46e9", func := "cupola/cupolalaw14.DobTells", spec := "dobTells", unfollowed := true, recurses := true, apart := false }
def DobTellsSaid : Prop := dobTellsRow.holds Try.pinned (OpenSpec.ofChange dobTellsSpec)

/-- ITS FALSE NEIGHBOUR: 'it returns false'. Refute it at one input. -/
def dobTellsWrong : ChangeSpec := { name := "dobTells", fn := fun _ => fun
  | [d1, d2, d3] => { results := [.lit (.bool false)], args := [d1, d2, d3] }
  | _ => none }
def DobTellsWrongFalsely : Prop := dobTellsRow.holds Try.pinned (OpenSpec.ofChange dobTellsWrong)

/-- 'cupolalaw06.OrderBack': WHATEVER THE INPUT: true; the input reads as it did. -/
def orderBackSpec : ChangeSpec := { name := "orderBack", fn := fun _ => fun
  | [d] => { results := [.lit (.bool true)], args := [d] }
  | _ => none }
def orderBackRow : OpenClaim := { program := "ytbamkkdikeedoaa", sum := "d564a4fd14504897965f7d31eef9ab6c8785483efd6bb475d45fe020086e46e9", func := "cupola/cupolalaw06.OrderBack", spec := "orderBack", unfollowed := true, recurses := true, apart := false }
def OrderBackSaid : Prop := orderBackRow.holds Try.pinned (OpenSpec.ofChange orderBackSpec)

/-- ITS FALSE NEIGHBOUR: 'it returns false'. Refute it at one input. -/
def orderBackWrong : ChangeSpec := { name := "orderBack", fn := fun _ => fun
  | [d] => { results := [.lit (.bool false)], args := [d] }
  | _ => none }
def OrderBackWrongFalsely : Prop := orderBackRow.holds Try.pinned (OpenSpec.ofChange orderBackWrong)

/-- 'cupolalaw14.DobIsb': WHATEVER THE INPUT: true; the input reads as it did. -/
def dobIsbSpec : ChangeSpec := { name := "dobIsb", fn := fun _ => fun
  | [d] => { results := [.lit (.bool true)], args := [d] }
  | _ => none }
def dobIsbRow : OpenClaim := { program := "ytbamkkdikeedoaa", sum := "d564a4fd14504897965f7d31eef9ab6c8785483efd6bb475d45fe020086e46e9", func := "cupola/cupolalaw14.DobIsb", spec := "dobIsb", unfollowed := true, recurses := true, apart := false }
def DobIsbSaid : Prop := dobIsbRow.holds Try.pinned (OpenSpec.ofChange dobIsbSpec)

/-- ITS FALSE NEIGHBOUR: 'it returns false'. Refute it at one input. -/
def dobIsbWrong : ChangeSpec := { name := "dobIsb", fn := fun _ => fun
  | [d] => { results := [.lit (.bool false)], args := [d] }
  | _ => none }
def DobIsbWrongFalsely : Prop := dobIsbRow.holds Try.pinned (OpenSpec.ofChange dobIsbWrong)

/-- 'cupolalaw14.DobMore': WHATEVER THE INPUT: true; the input reads as it did. -/
def dobMoreSpec : ChangeSpec := { name := "dobMore", fn := fun _ => fun
  | [d1, d2, d3] => { results := [.lit (.bool true)], args := [d1, d2, d3] }
  | _ => none }
def dobMoreRow : OpenClaim := { program := "ytbamkkdikeedoaa", sum := "d564a4fd14504897965f7d31eef9ab6c8785483efd6bb475d45fe020086e46e9", func := "cupola/cupolalaw14.DobMore", spec := "dobMore", unfollowed := true, recurses := true, apart := false }
def DobMoreSaid : Prop := dobMoreRow.holds Try.pinned (OpenSpec.ofChange dobMoreSpec)

/-- ITS FALSE NEIGHBOUR: 'it returns false'. Refute it at one input. -/
def dobMoreWrong : ChangeSpec := { name := "dobMore", fn := fun _ => fun
  | [d1, d2, d3] => { results := [.lit (.bool false)], args := [d1, d2, d3] }
  | _ => none }
def DobMoreWrongFalsely : Prop := dobMoreRow.holds Try.pinned (OpenSpec.ofChange dobMoreWrong)

/-- 'cupolalaw14.DobRead': WHATEVER THE INPUT: true; the input reads as it did. -/
def dobReadSpec : ChangeSpec := { name := "dobRead", fn := fun _ => fun
  | [d] => { results := [.lit (.bool true)], args := [d] }
  | _ => none }
def dobReadRow : OpenClaim := { program := "ytbamkkdikeedoaa", sum := "d564a4fd14504897965f7d31eef9ab6c8785483efd6bb475d45fe020086e46e9", func := "cupola/cupolalaw14.DobRead", spec := "dobRead", unfollowed := true, recurses := true, apart := false }
def DobReadSaid : Prop := dobReadRow.holds Try.pinned (OpenSpec.ofChange dobReadSpec)

/-- ITS FALSE NEIGHBOUR: 'it returns false'. Refute it at one input. -/
def dobReadWrong : ChangeSpec := { name := "dobRead", fn := fun _ => fun
  | [d] => { results := [.lit (.bool false)], args := [d] }
  | _ => none }
def DobReadWrongFalsely : Prop := dobReadRow.holds Try.pinned (OpenSpec.ofChange dobReadWrong)

/-- 'cupolalaw15.BobTells': WHATEVER THE INPUT: true; the input reads as it did. -/
def bobTellsSpec : ChangeSpec := { name := "bobTells", fn := fun _ => fun
  | [d1, d2, d3] => { results := [.lit (.bool true)], args := [d1, d2, d3] }
  | _ => none }
def bobTellsRow : OpenClaim := { program := "ytbamkkdikeedoaa", sum := "d564a4fd14504897965f7d31eef9ab6c8785483efd6bb475d45fe020086e46e9", func := "cupola/cupolalaw15.BobTells", spec := "bobTells", unfollowed := true, recurses := true, apart := false }
def BobTellsSaid : Prop := bobTellsRow.holds Try.pinned (OpenSpec.ofChange bobTellsSpec)

/-- ITS FALSE NEIGHBOUR: 'it returns false'. Refute it at one input. -/
def bobTellsWrong : ChangeSpec := { name := "bobTells", fn := fun _ => fun
  | [d1, d2, d3] => { results := [.lit (.bool false)], args := [d1, d2, d3] }
  | _ => none }
def BobTellsWrongFalsely : Prop := bobTellsRow.holds Try.pinned (OpenSpec.ofChange bobTellsWrong)

/-- 'cupolalaw06.OrderAll': WHATEVER THE INPUT: true; the input reads as it did. -/
def orderAllSpec : ChangeSpec := { name := "orderAll", fn := fun _ => fun
  | [d] => { results := [.lit (.bool true)], args := [d] }
  | _ => none }
def orderAllRow : OpenClaim := { program := "ytbamkkdikeedoaa", sum := "d564a4fd14504897965f7d31eef9ab6c8785483efd6bb475d45fe020086e46e9", func := "cupola/cupolalaw06.OrderAll", spec := "orderAll", unfollowed := true, recurses := true, apart := false }
def OrderAllSaid : Prop := orderAllRow.holds Try.pinned (OpenSpec.ofChange orderAllSpec)

/-- ITS FALSE NEIGHBOUR: 'it returns false'. Refute it at one input. -/
def orderAllWrong : ChangeSpec := { name := "orderAll", fn := fun _ => fun
  | [d] => { results := [.lit (.bool false)], args := [d] }
  | _ => none }
def OrderAllWrongFalsely : Prop := orderAllRow.holds Try.pinned (OpenSpec.ofChange orderAllWrong)

/-- 'cupolalaw06.OrderMany': WHATEVER THE INPUT: true; the input reads as it did. -/
def orderManySpec : ChangeSpec := { name := "orderMany", fn := fun _ => fun
  | [d] => { results := [.lit (.bool true)], args := [d] }
  | _ => none }
def orderManyRow : OpenClaim := { program := "ytbamkkdikeedoaa", sum := "d564a4fd14504897965f7d31eef9ab6c8785483efd6bb475d45fe020086e46e9", func := "cupola/cupolalaw06.OrderMany", spec := "orderMany", unfollowed := true, recurses := true, apart := false }
def OrderManySaid : Prop := orderManyRow.holds Try.pinned (OpenSpec.ofChange orderManySpec)

/-- ITS FALSE NEIGHBOUR: 'it returns false'. Refute it at one input. -/
def orderManyWrong : ChangeSpec := { name := "orderMany", fn := fun _ => fun
  | [d] => { results := [.lit (.bool false)], args := [d] }
  | _ => none }
def OrderManyWrongFalsely : Prop := orderManyRow.holds Try.pinned (OpenSpec.ofChange orderManyWrong)

/-- 'cupolalaw15.BobMasks': WHATEVER THE INPUT: true; the input reads as it did. -/
def bobMasksSpec : ChangeSpec := { name := "bobMasks", fn := fun _ => fun
  | [d1, d2, d3] => { results := [.lit (.bool true)], args := [d1, d2, d3] }
  | _ => none }
def bobMasksRow : OpenClaim := { program := "ytbamkkdikeedoaa", sum := "d564a4fd14504897965f7d31eef9ab6c8785483efd6bb475d45fe020086e46e9", func := "cupola/cupolalaw15.BobMasks", spec := "bobMasks", unfollowed := true, recurses := true, apart := false }
def BobMasksSaid : Prop := bobMasksRow.holds Try.pinned (OpenSpec.ofChange bobMasksSpec)

/-- ITS FALSE NEIGHBOUR: 'it returns false'. Refute it at one input. -/
def bobMasksWrong : ChangeSpec := { name := "bobMasks", fn := fun _ => fun
  | [d1, d2, d3] => { results := [.lit (.bool false)], args := [d1, d2, d3] }
  | _ => none }
def BobMasksWrongFalsely : Prop := bobMasksRow.holds Try.pinned (OpenSpec.ofChange bobMasksWrong)

/-- 'cupolalaw06.OrderTells': WHATEVER THE INPUT: true; the input reads as it did. -/
def orderTellsSpec : ChangeSpec := { name := "orderTells", fn := fun _ => fun
  | [d1, d2, d3] => { results := [.lit (.bool true)], args := [d1, d2, d3] }
  | _ => none }
def orderTellsRow : OpenClaim := { program := "ytbamkkdikeedoaa", sum := "d564a4fd14504897965f7d31eef9ab6c8785483efd6bb475d45fe020086e46e9", func := "cupola/cupolalaw06.OrderTells", spec := "orderTells", unfollowed := true, recurses := true, apart := false }
def OrderTellsSaid : Prop := orderTellsRow.holds Try.pinned (OpenSpec.ofChange orderTellsSpec)

/-- ITS FALSE NEIGHBOUR: 'it returns false'. Refute it at one input. -/
def orderTellsWrong : ChangeSpec := { name := "orderTells", fn := fun _ => fun
  | [d1, d2, d3] => { results := [.lit (.bool false)], args := [d1, d2, d3] }
  | _ => none }
def OrderTellsWrongFalsely : Prop := orderTellsRow.holds Try.pinned (OpenSpec.ofChange orderTellsWrong)

/-- 'cupolalaw14.DobAlong': WHATEVER THE INPUT: true; the input reads as it did. -/
def dobAlongSpec : ChangeSpec := { name := "dobAlong", fn := fun _ => fun
  | [d1, d2, d3] => { results := [.lit (.bool true)], args := [d1, d2, d3] }
  | _ => none }
def dobAlongRow : OpenClaim := { program := "ytbamkkdikeedoaa", sum := "d564a4fd14504897965f7d31eef9ab6c8785483efd6bb475d45fe020086e46e9", func := "cupola/cupolalaw14.DobAlong", spec := "dobAlong", unfollowed := true, recurses := true, apart := false }
def DobAlongSaid : Prop := dobAlongRow.holds Try.pinned (OpenSpec.ofChange dobAlongSpec)

/-- ITS FALSE NEIGHBOUR: 'it returns false'. Refute it at one input. -/
def dobAlongWrong : ChangeSpec := { name := "dobAlong", fn := fun _ => fun
  | [d1, d2, d3] => { results := [.lit (.bool false)], args := [d1, d2, d3] }
  | _ => none }
def DobAlongWrongFalsely : Prop := dobAlongRow.holds Try.pinned (OpenSpec.ofChange dobAlongWrong)

/-- 'cupolalaw15.BobAlong': WHATEVER THE INPUT: true; the input reads as it did. -/
def bobAlongSpec : ChangeSpec := { name := "bobAlong", fn := fun _ => fun
  | [d1, d2] => { results := [.lit (.bool true)], args := [d1, d2] }
  | _ => none }
def bobAlongRow : OpenClaim := { program := "ytbamkkdikeedoaa", sum := "d564a4fd14504897965f7d31eef9ab6c8785483efd6bb475d45fe020086e46e9", func := "cupola/cupolalaw15.BobAlong", spec := "bobAlong", unfollowed := true, recurses := true, apart := false }
def BobAlongSaid : Prop := bobAlongRow.holds Try.pinned (OpenSpec.ofChange bobAlongSpec)

/-- ITS FALSE NEIGHBOUR: 'it returns false'. Refute it at one input. -/
def bobAlongWrong : ChangeSpec := { name := "bobAlong", fn := fun _ => fun
  | [d1, d2] => { results := [.lit (.bool false)], args := [d1, d2] }
  | _ => none }
def BobAlongWrongFalsely : Prop := bobAlongRow.holds Try.pinned (OpenSpec.ofChange bobAlongWrong)

/-- 'cupolalaw06.OrderOf': WHATEVER THE INPUT: true; the input reads as it did. -/
def orderOfSpec : ChangeSpec := { name := "orderOf", fn := fun _ => fun
  | [d1, d2, d3] => { results := [.lit (.bool true)], args := [d1, d2, d3] }
  | _ => none }
def orderOfRow : OpenClaim := { program := "ytbamkkdikeedoaa", sum := "d564a4fd14504897965f7d31eef9ab6c8785483efd6bb475d45fe020086e46e9", func := "cupola/cupolalaw06.OrderOf", spec := "orderOf", unfollowed := true, recurses := true, apart := false }
def OrderOfSaid : Prop := orderOfRow.holds Try.pinned (OpenSpec.ofChange orderOfSpec)

/-- ITS FALSE NEIGHBOUR: 'it returns false'. Refute it at one input. -/
def orderOfWrong : ChangeSpec := { name := "orderOf", fn := fun _ => fun
  | [d1, d2, d3] => { results := [.lit (.bool false)], args := [d1, d2, d3] }
  | _ => none }
def OrderOfWrongFalsely : Prop := orderOfRow.holds Try.pinned (OpenSpec.ofChange orderOfWrong)

/- THE SECOND FORM. 'bulk': how many values and letters a reading holds, each counted each time it is reached (what is shared counts as often as it is met; a slice's spare places count too). A statement '..UptoSaid' is the law's where the arguments, and the package variables that the reading takes, are together of bulk at most 1048576: NARROWER than '..Said'. Prove '..Said' where nothing that the law and all that it calls make is longer than what came in: it says more and counts as full. Else prove '..UptoSaid'. A law counts once. -/
mutual
def uptoBulk {H : Type} : DataW H → Nat
  | .lit (.string bytes) => bytes.length + 1
  | .lit _ => 1
  | .nil => 1
  | .ptr d => uptoBulk d + 1
  | .slice elems spare => uptoBulkAll elems + uptoBulkAll spare + 1
  | .agg parts => uptoBulkAll parts + 1
  | .iface _ d => uptoBulk d + 1
  | .map entries => uptoBulkEntries entries + 1
  | .held _ => 1
def uptoBulkAll {H : Type} : List (DataW H) → Nat
  | [] => 0
  | d :: r => uptoBulk d + uptoBulkAll r
def uptoBulkEntries {H : Type} : List (Lit × DataW H) → Nat
  | [] => 0
  | x :: r => uptoBulkEntry x + uptoBulkEntries r
def uptoBulkEntry {H : Type} : Lit × DataW H → Nat
  | (.string bytes, d) => bytes.length + uptoBulk d + 1
  | (_, d) => uptoBulk d + 1
 end
def uptoSmall : (H : Type) → List (DataW H) → Bool := fun _ ds => decide (uptoBulkAll ds ≤ 1048576)
def OpenSpec.upto (s : _root_.Go.ChangeSpec) : _root_.Go.OpenSpec := { _root_.Go.OpenSpec.ofChange s with cond := some uptoSmall }

/-- 'cupolalaw11.SourceNone', WHERE WHAT IT READS IS OF BULK AT MOST 1048576: true; the input reads as it did. -/
def sourceNoneUptoRow : OpenClaim := { program := "ytbamkkdikeedoaa", sum := "d564a4fd14504897965f7d31eef9ab6c8785483efd6bb475d45fe020086e46e9", func := "cupola/cupolalaw11.SourceNone", spec := "sourceNone", unfollowed := true, recurses := true, apart := false, narrowed := true }
def SourceNoneUptoSaid : Prop := sourceNoneUptoRow.holds Try.pinned (OpenSpec.upto sourceNoneSpec)

/-- 'cupolalaw11.SourceMore', WHERE WHAT IT READS IS OF BULK AT MOST 1048576: true; the input reads as it did. -/
def sourceMoreUptoRow : OpenClaim := { program := "ytbamkkdikeedoaa", sum := "d564a4fd14504897965f7d31eef9ab6c8785483efd6bb475d45fe020086e46e9", func := "cupola/cupolalaw11.SourceMore", spec := "sourceMore", unfollowed := true, recurses := true, apart := false, narrowed := true }
def SourceMoreUptoSaid : Prop := sourceMoreUptoRow.holds Try.pinned (OpenSpec.upto sourceMoreSpec)

/-- 'cupolalaw11.SourceInit', WHERE WHAT IT READS IS OF BULK AT MOST 1048576: true; the input reads as it did. -/
def sourceInitUptoRow : OpenClaim := { program := "ytbamkkdikeedoaa", sum := "d564a4fd14504897965f7d31eef9ab6c8785483efd6bb475d45fe020086e46e9", func := "cupola/cupolalaw11.SourceInit", spec := "sourceInit", unfollowed := true, recurses := true, apart := false, narrowed := true }
def SourceInitUptoSaid : Prop := sourceInitUptoRow.holds Try.pinned (OpenSpec.upto sourceInitSpec)

/-- 'cupolalaw05.RelPairs', WHERE WHAT IT READS IS OF BULK AT MOST 1048576: true; the input reads as it did. -/
def relPairsUptoRow : OpenClaim := { program := "ytbamkkdikeedoaa", sum := "d564a4fd14504897965f7d31eef9ab6c8785483efd6bb475d45fe020086e46e9", func := "cupola/cupolalaw05.RelPairs", spec := "relPairs", apart := false, narrowed := true }
def RelPairsUptoSaid : Prop := relPairsUptoRow.holds Try.pinned (OpenSpec.upto relPairsSpec)

/-- 'cupolalaw11.SourceFits', WHERE WHAT IT READS IS OF BULK AT MOST 1048576: true; the input reads as it did. -/
def sourceFitsUptoRow : OpenClaim := { program := "ytbamkkdikeedoaa", sum := "d564a4fd14504897965f7d31eef9ab6c8785483efd6bb475d45fe020086e46e9", func := "cupola/cupolalaw11.SourceFits", spec := "sourceFits", unfollowed := true, recurses := true, apart := false, narrowed := true }
def SourceFitsUptoSaid : Prop := sourceFitsUptoRow.holds Try.pinned (OpenSpec.upto sourceFitsSpec)

/-- 'cupolalaw05.RelOne', WHERE WHAT IT READS IS OF BULK AT MOST 1048576: true; the input reads as it did. -/
def relOneUptoRow : OpenClaim := { program := "ytbamkkdikeedoaa", sum := "d564a4fd14504897965f7d31eef9ab6c8785483efd6bb475d45fe020086e46e9", func := "cupola/cupolalaw05.RelOne", spec := "relOne", apart := false, narrowed := true }
def RelOneUptoSaid : Prop := relOneUptoRow.holds Try.pinned (OpenSpec.upto relOneSpec)

/-- 'cupolalaw05.RelTwo', WHERE WHAT IT READS IS OF BULK AT MOST 1048576: true; the input reads as it did. -/
def relTwoUptoRow : OpenClaim := { program := "ytbamkkdikeedoaa", sum := "d564a4fd14504897965f7d31eef9ab6c8785483efd6bb475d45fe020086e46e9", func := "cupola/cupolalaw05.RelTwo", spec := "relTwo", unfollowed := true, recurses := true, apart := false, narrowed := true }
def RelTwoUptoSaid : Prop := relTwoUptoRow.holds Try.pinned (OpenSpec.upto relTwoSpec)

/-- 'cupolalaw11.SourceRf', WHERE WHAT IT READS IS OF BULK AT MOST 1048576: true; the input reads as it did. -/
def sourceRfUptoRow : OpenClaim := { program := "ytbamkkdikeedoaa", sum := "d564a4fd14504897965f7d31eef9ab6c8785483efd6bb475d45fe020086e46e9", func := "cupola/cupolalaw11.SourceRf", spec := "sourceRf", unfollowed := true, recurses := true, apart := false, narrowed := true }
def SourceRfUptoSaid : Prop := sourceRfUptoRow.holds Try.pinned (OpenSpec.upto sourceRfSpec)

/-- 'cupolalaw05.RelAlgebra', WHERE WHAT IT READS IS OF BULK AT MOST 1048576: true; the input reads as it did. -/
def relAlgebraUptoRow : OpenClaim := { program := "ytbamkkdikeedoaa", sum := "d564a4fd14504897965f7d31eef9ab6c8785483efd6bb475d45fe020086e46e9", func := "cupola/cupolalaw05.RelAlgebra", spec := "relAlgebra", unfollowed := true, recurses := true, apart := false, narrowed := true }
def RelAlgebraUptoSaid : Prop := relAlgebraUptoRow.holds Try.pinned (OpenSpec.upto relAlgebraSpec)

/-- 'cupolalaw05.RelOnly', WHERE WHAT IT READS IS OF BULK AT MOST 1048576: true; the input reads as it did. -/
def relOnlyUptoRow : OpenClaim := { program := "ytbamkkdikeedoaa", sum := "d564a4fd14504897965f7d31eef9ab6c8785483efd6bb475d45fe020086e46e9", func := "cupola/cupolalaw05.RelOnly", spec := "relOnly", unfollowed := true, recurses := true, apart := false, narrowed := true }
def RelOnlyUptoSaid : Prop := relOnlyUptoRow.holds Try.pinned (OpenSpec.upto relOnlySpec)

/-- 'cupolalaw11.SourceTells', WHERE WHAT IT READS IS OF BULK AT MOST 1048576: true; the input reads as it did. -/
def sourceTellsUptoRow : OpenClaim := { program := "ytbamkkdikeedoaa", sum := "d564a4fd14504897965f7d31eef9ab6c8785483efd6bb475d45fe020086e46e9", func := "cupola/cupolalaw11.SourceTells", spec := "sourceTells", unfollowed := true, recurses := true, apart := false, narrowed := true }
def SourceTellsUptoSaid : Prop := sourceTellsUptoRow.holds Try.pinned (OpenSpec.upto sourceTellsSpec)

/-- 'cupolalaw05.RelClosed', WHERE WHAT IT READS IS OF BULK AT MOST 1048576: true; the input reads as it did. -/
def relClosedUptoRow : OpenClaim := { program := "ytbamkkdikeedoaa", sum := "d564a4fd14504897965f7d31eef9ab6c8785483efd6bb475d45fe020086e46e9", func := "cupola/cupolalaw05.RelClosed", spec := "relClosed", unfollowed := true, recurses := true, apart := false, narrowed := true }
def RelClosedUptoSaid : Prop := relClosedUptoRow.holds Try.pinned (OpenSpec.upto relClosedSpec)

/-- 'cupolalaw15.BobWeak', WHERE WHAT IT READS IS OF BULK AT MOST 1048576: true; the input reads as it did. -/
def bobWeakUptoRow : OpenClaim := { program := "ytbamkkdikeedoaa", sum := "d564a4fd14504897965f7d31eef9ab6c8785483efd6bb475d45fe020086e46e9", func := "cupola/cupolalaw15.BobWeak", spec := "bobWeak", unfollowed := true, recurses := true, apart := false, narrowed := true }
def BobWeakUptoSaid : Prop := bobWeakUptoRow.holds Try.pinned (OpenSpec.upto bobWeakSpec)

/-- 'cupolalaw15.BobSame', WHERE WHAT IT READS IS OF BULK AT MOST 1048576: true; the input reads as it did. -/
def bobSameUptoRow : OpenClaim := { program := "ytbamkkdikeedoaa", sum := "d564a4fd14504897965f7d31eef9ab6c8785483efd6bb475d45fe020086e46e9", func := "cupola/cupolalaw15.BobSame", spec := "bobSame", unfollowed := true, recurses := true, apart := false, narrowed := true }
def BobSameUptoSaid : Prop := bobSameUptoRow.holds Try.pinned (OpenSpec.upto bobSameSpec)

/-- 'cupolalaw14.DobTells', WHERE WHAT IT READS IS OF BULK AT MOST 1048576: true; the input reads as it did. -/
def dobTellsUptoRow : OpenClaim := { program := "ytbamkkdikeedoaa", sum := "d564a4fd14504897965f7d31eef9ab6c8785483efd6bb475d45fe020086e46e9", func := "cupola/cupolalaw14.DobTells", spec := "dobTells", unfollowed := true, recurses := true, apart := false, narrowed := true }
def DobTellsUptoSaid : Prop := dobTellsUptoRow.holds Try.pinned (OpenSpec.upto dobTellsSpec)

/-- 'cupolalaw06.OrderBack', WHERE WHAT IT READS IS OF BULK AT MOST 1048576: true; the input reads as it did. -/
def orderBackUptoRow : OpenClaim := { program := "ytbamkkdikeedoaa", sum := "d564a4fd14504897965f7d31eef9ab6c8785483efd6bb475d45fe020086e46e9", func := "cupola/cupolalaw06.OrderBack", spec := "orderBack", unfollowed := true, recurses := true, apart := false, narrowed := true }
def OrderBackUptoSaid : Prop := orderBackUptoRow.holds Try.pinned (OpenSpec.upto orderBackSpec)

/-- 'cupolalaw14.DobIsb', WHERE WHAT IT READS IS OF BULK AT MOST 1048576: true; the input reads as it did. -/
def dobIsbUptoRow : OpenClaim := { program := "ytbamkkdikeedoaa", sum := "d564a4fd14504897965f7d31eef9ab6c8785483efd6bb475d45fe020086e46e9", func := "cupola/cupolalaw14.DobIsb", spec := "dobIsb", unfollowed := true, recurses := true, apart := false, narrowed := true }
def DobIsbUptoSaid : Prop := dobIsbUptoRow.holds Try.pinned (OpenSpec.upto dobIsbSpec)

/-- 'cupolalaw14.DobMore', WHERE WHAT IT READS IS OF BULK AT MOST 1048576: true; the input reads as it did. -/
def dobMoreUptoRow : OpenClaim := { program := "ytbamkkdikeedoaa", sum := "d564a4fd14504897965f7d31eef9ab6c8785483efd6bb475d45fe020086e46e9", func := "cupola/cupolalaw14.DobMore", spec := "dobMore", unfollowed := true, recurses := true, apart := false, narrowed := true }
def DobMoreUptoSaid : Prop := dobMoreUptoRow.holds Try.pinned (OpenSpec.upto dobMoreSpec)

/-- 'cupolalaw14.DobRead', WHERE WHAT IT READS IS OF BULK AT MOST 1048576: true; the input reads as it did. -/
def dobReadUptoRow : OpenClaim := { program := "ytbamkkdikeedoaa", sum := "d564a4fd14504897965f7d31eef9ab6c8785483efd6bb475d45fe020086e46e9", func := "cupola/cupolalaw14.DobRead", spec := "dobRead", unfollowed := true, recurses := true, apart := false, narrowed := true }
def DobReadUptoSaid : Prop := dobReadUptoRow.holds Try.pinned (OpenSpec.upto dobReadSpec)

/-- 'cupolalaw15.BobTells', WHERE WHAT IT READS IS OF BULK AT MOST 1048576: true; the input reads as it did. -/
def bobTellsUptoRow : OpenClaim := { program := "ytbamkkdikeedoaa", sum := "d564a4fd14504897965f7d31eef9ab6c8785483efd6bb475d45fe020086e46e9", func := "cupola/cupolalaw15.BobTells", spec := "bobTells", unfollowed := true, recurses := true, apart := false, narrowed := true }
def BobTellsUptoSaid : Prop := bobTellsUptoRow.holds Try.pinned (OpenSpec.upto bobTellsSpec)

/-- 'cupolalaw06.OrderAll', WHERE WHAT IT READS IS OF BULK AT MOST 1048576: true; the input reads as it did. -/
def orderAllUptoRow : OpenClaim := { program := "ytbamkkdikeedoaa", sum := "d564a4fd14504897965f7d31eef9ab6c8785483efd6bb475d45fe020086e46e9", func := "cupola/cupolalaw06.OrderAll", spec := "orderAll", unfollowed := true, recurses := true, apart := false, narrowed := true }
def OrderAllUptoSaid : Prop := orderAllUptoRow.holds Try.pinned (OpenSpec.upto orderAllSpec)

/-- 'cupolalaw06.OrderMany', WHERE WHAT IT READS IS OF BULK AT MOST 1048576: true; the input reads as it did. -/
def orderManyUptoRow : OpenClaim := { program := "ytbamkkdikeedoaa", sum := "d564a4fd14504897965f7d31eef9ab6c8785483efd6bb475d45fe020086e46e9", func := "cupola/cupolalaw06.OrderMany", spec := "orderMany", unfollowed := true, recurses := true, apart := false, narrowed := true }
def OrderManyUptoSaid : Prop := orderManyUptoRow.holds Try.pinned (OpenSpec.upto orderManySpec)

/-- 'cupolalaw15.BobMasks', WHERE WHAT IT READS IS OF BULK AT MOST 1048576: true; the input reads as it did. -/
def bobMasksUptoRow : OpenClaim := { program := "ytbamkkdikeedoaa", sum := "d564a4fd14504897965f7d31eef9ab6c8785483efd6bb475d45fe020086e46e9", func := "cupola/cupolalaw15.BobMasks", spec := "bobMasks", unfollowed := true, recurses := true, apart := false, narrowed := true }
def BobMasksUptoSaid : Prop := bobMasksUptoRow.holds Try.pinned (OpenSpec.upto bobMasksSpec)

/-- 'cupolalaw06.OrderTells', WHERE WHAT IT READS IS OF BULK AT MOST 1048576: true; the input reads as it did. -/
def orderTellsUptoRow : OpenClaim := { program := "ytbamkkdikeedoaa", sum := "d564a4fd14504897965f7d31eef9ab6c8785483efd6bb475d45fe020086e46e9", func := "cupola/cupolalaw06.OrderTells", spec := "orderTells", unfollowed := true, recurses := true, apart := false, narrowed := true }
def OrderTellsUptoSaid : Prop := orderTellsUptoRow.holds Try.pinned (OpenSpec.upto orderTellsSpec)

/-- 'cupolalaw14.DobAlong', WHERE WHAT IT READS IS OF BULK AT MOST 1048576: true; the input reads as it did. -/
def dobAlongUptoRow : OpenClaim := { program := "ytbamkkdikeedoaa", sum := "d564a4fd14504897965f7d31eef9ab6c8785483efd6bb475d45fe020086e46e9", func := "cupola/cupolalaw14.DobAlong", spec := "dobAlong", unfollowed := true, recurses := true, apart := false, narrowed := true }
def DobAlongUptoSaid : Prop := dobAlongUptoRow.holds Try.pinned (OpenSpec.upto dobAlongSpec)

/-- 'cupolalaw15.BobAlong', WHERE WHAT IT READS IS OF BULK AT MOST 1048576: true; the input reads as it did. -/
def bobAlongUptoRow : OpenClaim := { program := "ytbamkkdikeedoaa", sum := "d564a4fd14504897965f7d31eef9ab6c8785483efd6bb475d45fe020086e46e9", func := "cupola/cupolalaw15.BobAlong", spec := "bobAlong", unfollowed := true, recurses := true, apart := false, narrowed := true }
def BobAlongUptoSaid : Prop := bobAlongUptoRow.holds Try.pinned (OpenSpec.upto bobAlongSpec)

/-- 'cupolalaw06.OrderOf', WHERE WHAT IT READS IS OF BULK AT MOST 1048576: true; the input reads as it did. -/
def orderOfUptoRow : OpenClaim := { program := "ytbamkkdikeedoaa", sum := "d564a4fd14504897965f7d31eef9ab6c8785483efd6bb475d45fe020086e46e9", func := "cupola/cupolalaw06.OrderOf", spec := "orderOf", unfollowed := true, recurses := true, apart := false, narrowed := true }
def OrderOfUptoSaid : Prop := orderOfUptoRow.holds Try.pinned (OpenSpec.upto orderOfSpec)

end Rows
end Go.Proofs.Ytbamkkdikeedoaa
