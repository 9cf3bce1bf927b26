/- What the rows ask of the translation's head, piece by piece. -/
import Derived.Test.YtbamkkdikeedoaaRows
import Derived.WalkKit
import Derived.ProofKit
import Derived.JoinedOf
namespace Go.Proofs.Ytbamkkdikeedoaa.Head
set_option maxRecDepth 100000
def signs : List Char := ([104, 97, 114, 110, 101, 115, 115, 32, 97, 100, 57, 101, 54, 99, 49, 57, 50, 57, 56, 97, 102, 52, 97, 101, 53, 49, 51, 97, 98, 48, 99, 53, 53, 55, 100, 56, 97, 57, 54, 57, 52, 54, 48, 57, 56, 49, 52, 51, 100, 98, 48, 99, 50, 100, 53, 55, 98, 56, 97, 55, 49, 56, 57, 101, 98, 97, 48, 50, 97, 97, 53, 55, 32, 99, 117, 116, 32, 97, 116, 32, 99, 117, 112, 111, 108, 97, 47, 99, 117, 112, 111, 108, 97, 108, 97, 119, 49, 49, 46, 83, 111, 117, 114, 99, 101, 78, 111, 110, 101, 32, 99, 117, 112, 111, 108, 97, 47, 99, 117, 112, 111, 108, 97, 108, 97, 119, 49, 49, 46, 83, 111, 117, 114, 99, 101, 77, 111, 114, 101, 32, 99, 117, 112, 111, 108, 97, 47, 99, 117, 112, 111, 108, 97, 108, 97, 119, 49, 49, 46, 83, 111, 117, 114, 99, 101, 73, 110, 105, 116, 32, 99, 117, 112, 111, 108, 97, 47, 99, 117, 112, 111, 108, 97, 108, 97, 119, 48, 53, 46, 82, 101, 108, 80, 97, 105, 114, 115, 32, 99, 117, 112, 111, 108, 97, 47, 99, 117, 112, 111, 108, 97, 108, 97, 119, 49, 49, 46, 83, 111, 117, 114, 99, 101, 70, 105, 116, 115, 32, 99, 117, 112, 111, 108, 97, 47, 99, 117, 112, 111, 108, 97, 108, 97, 119, 48, 53, 46, 82, 101, 108, 79, 110, 101, 32, 99, 117, 112, 111, 108, 97, 47, 99, 117, 112, 111, 108, 97, 108, 97, 119, 48, 53, 46, 82, 101, 108, 84, 119, 111, 32, 99, 117, 112, 111, 108, 97, 47, 99, 117, 112, 111, 108, 97, 108, 97, 119, 49, 49, 46, 83, 111, 117, 114, 99, 101, 82, 102, 32, 99, 117, 112, 111, 108, 97, 47, 99, 117, 112, 111, 108, 97, 108, 97, 119, 48, 53, 46, 82, 101, 108, 65, 108, 103, 101, 98, 114, 97, 32, 99, 117, 112, 111, 108, 97, 47, 99, 117, 112, 111, 108, 97, 108, 97, 119, 48, 53, 46, 82, 101, 108, 79, 110, 108, 121, 32, 99, 117, 112, 111, 108, 97, 47, 99, 117, 112, 111, 108, 97, 108, 97, 119, 49, 49, 46, 83, 111, 117, 114, 99, 101, 84, 101, 108, 108, 115, 32, 99, 117, 112, 111, 108, 97, 47, 99, 117, 112, 111, 108, 97, 108, 97, 119, 48, 53, 46, 82, 101, 108, 67, 108, 111, 115, 101, 100, 32, 99, 117, 112, 111, 108, 97, 47, 99, 117, 112, 111, 108, 97, 108, 97, 119, 49, 53, 46, 66, 111, 98, 87, 101, 97, 107, 32, 99, 117, 112, 111, 108, 97, 47, 99, 117, 112, 111, 108, 97, 108, 97, 119, 49, 53, 46, 66, 111, 98, 83, 97, 109, 101, 32, 99, 117, 112, 111, 108, 97, 47, 99, 117, 112, 111, 108, 97, 108, 97, 119, 49, 52, 46, 68, 111, 98, 84, 101, 108, 108, 115, 32, 99, 117, 112, 111, 108, 97, 47, 99, 117, 112, 111, 108, 97, 108, 97, 119, 48, 54, 46, 79, 114, 100, 101, 114, 66, 97, 99, 107, 32, 99, 117, 112, 111, 108, 97, 47, 99, 117, 112, 111, 108, 97, 108, 97, 119, 49, 52, 46, 68, 111, 98, 73, 115, 98, 32, 99, 117, 112, 111, 108, 97, 47, 99, 117, 112, 111, 108, 97, 108, 97, 119, 49, 52, 46, 68, 111, 98, 77, 111, 114, 101, 32, 99, 117, 112, 111, 108, 97, 47, 99, 117, 112, 111, 108, 97, 108, 97, 119, 49, 52, 46, 68, 111, 98, 82, 101, 97, 100, 32, 99, 117, 112, 111, 108, 97, 47, 99, 117, 112, 111, 108, 97, 108, 97, 119, 49, 53, 46, 66, 111, 98, 84, 101, 108, 108, 115, 32, 99, 117, 112, 111, 108, 97, 47, 99, 117, 112, 111, 108, 97, 108, 97, 119, 48, 54, 46, 79, 114, 100, 101, 114, 65, 108, 108, 32, 99, 117, 112, 111, 108, 97, 47, 99, 117, 112, 111, 108, 97, 108, 97, 119, 48, 54, 46, 79, 114, 100, 101, 114, 77, 97, 110, 121, 32, 99, 117, 112, 111, 108, 97, 47, 99, 117, 112, 111, 108, 97, 108, 97, 119, 49, 53, 46, 66, 111, 98, 77, 97, 115, 107, 115, 32, 99, 117, 112, 111, 108, 97, 47, 99, 117, 112, 111, 108, 97, 108, 97, 119, 48, 54, 46, 79, 114, 100, 101, 114, 84, 101, 108, 108, 115, 32, 99, 117, 112, 111, 108, 97, 47, 99, 117, 112, 111, 108, 97, 108, 97, 119, 49, 52, 46, 68, 111, 98, 65, 108, 111, 110, 103, 32, 99, 117, 112, 111, 108, 97, 47, 99, 117, 112, 111, 108, 97, 108, 97, 119, 49, 53, 46, 66, 111, 98, 65, 108, 111, 110, 103, 32, 99, 117, 112, 111, 108, 97, 47, 99, 117, 112, 111, 108, 97, 108, 97, 119, 48, 54, 46, 79, 114, 100, 101, 114, 79, 102] : List Nat).map Char.ofNat
theorem head_is : Try.prog.initOrder = "harness ad9e6c19298af4ae513ab0c557d8a96946098143db0c2d57b8a7189eba02aa57 cut at cupola/cupolalaw11.SourceNone cupola/cupolalaw11.SourceMore cupola/cupolalaw11.SourceInit cupola/cupolalaw05.RelPairs cupola/cupolalaw11.SourceFits cupola/cupolalaw05.RelOne cupola/cupolalaw05.RelTwo cupola/cupolalaw11.SourceRf cupola/cupolalaw05.RelAlgebra cupola/cupolalaw05.RelOnly cupola/cupolalaw11.SourceTells cupola/cupolalaw05.RelClosed cupola/cupolalaw15.BobWeak cupola/cupolalaw15.BobSame cupola/cupolalaw14.DobTells cupola/cupolalaw06.OrderBack cupola/cupolalaw14.DobIsb cupola/cupolalaw14.DobMore cupola/cupolalaw14.DobRead cupola/cupolalaw15.BobTells cupola/cupolalaw06.OrderAll cupola/cupolalaw06.OrderMany cupola/cupolalaw15.BobMasks cupola/cupolalaw06.OrderTells cupola/cupolalaw14.DobAlong cupola/cupolalaw15.BobAlong cupola/cupolalaw06.OrderOf" := by kernel_rfl
theorem head_of : "harness ad9e6c19298af4ae513ab0c557d8a96946098143db0c2d57b8a7189eba02aa57 cut at cupola/cupolalaw11.SourceNone cupola/cupolalaw11.SourceMore cupola/cupolalaw11.SourceInit cupola/cupolalaw05.RelPairs cupola/cupolalaw11.SourceFits cupola/cupolalaw05.RelOne cupola/cupolalaw05.RelTwo cupola/cupolalaw11.SourceRf cupola/cupolalaw05.RelAlgebra cupola/cupolalaw05.RelOnly cupola/cupolalaw11.SourceTells cupola/cupolalaw05.RelClosed cupola/cupolalaw15.BobWeak cupola/cupolalaw15.BobSame cupola/cupolalaw14.DobTells cupola/cupolalaw06.OrderBack cupola/cupolalaw14.DobIsb cupola/cupolalaw14.DobMore cupola/cupolalaw14.DobRead cupola/cupolalaw15.BobTells cupola/cupolalaw06.OrderAll cupola/cupolalaw06.OrderMany cupola/cupolalaw15.BobMasks cupola/cupolalaw06.OrderTells cupola/cupolalaw14.DobAlong cupola/cupolalaw15.BobAlong cupola/cupolalaw06.OrderOf" = String.ofList signs := by kernel_rfl
theorem head_signs : Try.prog.initOrder.toList = signs := by rw [head_is, head_of, String.toList_ofList]
def restW : List (List Char) := (behindMainWord (wordsSigns signs)).tail
theorem head_cut : behindMainWord (wordsSigns signs) = "cut".toList :: restW := by kernel_rfl
theorem head_bare : stripLifts liftWords ("cut".toList :: restW) = ([], "cut".toList :: restW) := by kernel_rfl
theorem no_gc : ("cut".toList == "gc".toList) = false := by decide +kernel
theorem no_spec : ("cut".toList == "spec".toList) = false := by decide +kernel
theorem no_carried : ("cut".toList == "carried".toList) = false := by decide +kernel
theorem no_carried' : (some "cut".toList == some "carried".toList) = false := by decide +kernel
theorem may_of (P : Program) (ws : List (List Char)) (h : behindMainWord (wordsSigns P.initOrder.toList) = "cut".toList :: ws) (h2 : stripLifts liftWords ("cut".toList :: ws) = ([], "cut".toList :: ws)) (h3 : P.laysLater = false) (h4 : P.bearsReflect = false) (h5 : P.doorFits [] = true) : P.mayEnter = true := by
  unfold Program.mayEnter
  rw [h]
  dsimp only
  rw [h2, h3, h4, h5, no_gc, no_spec, no_carried]
  rfl
theorem make_of (P : Program) (ws : List (List Char)) (h : behindMainWord (wordsSigns P.initOrder.toList) = "cut".toList :: ws) : P.make = some .cut := by
  unfold Program.make
  rw [h]
  dsimp only
  rw [no_gc, no_spec]
  rfl
theorem fin_of (P : Program) (ws : List (List Char)) (h : behindMainWord (wordsSigns P.initOrder.toList) = "cut".toList :: ws) (h2 : stripLifts liftWords ("cut".toList :: ws) = ([], "cut".toList :: ws)) : P.liftsFinal = false := by
  unfold Program.liftsFinal Program.headLifts
  rw [h]
  dsimp only
  rw [h2]
  simp only [List.head?_cons, no_carried']
  rfl
theorem head_now : behindMainWord (wordsSigns Try.prog.initOrder.toList) = "cut".toList :: restW := by rw [head_signs, head_cut]
theorem may : Try.prog.mayEnter = true := may_of _ _ head_now head_bare (by kernel_rfl) (by kernel_rfl) (by kernel_rfl)
theorem fin : Try.prog.liftsFinal = false := fin_of _ _ head_now head_bare
theorem make : Try.prog.make = some .cut := make_of _ _ head_now
theorem and_t {a b : Bool} (ha : a = true) (hb : b = true) : (a && b) = true := by rw [ha, hb]; rfl
end Go.Proofs.Ytbamkkdikeedoaa.Head
