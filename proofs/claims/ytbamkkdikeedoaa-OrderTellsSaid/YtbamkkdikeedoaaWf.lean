/- Plain: what a row says of its numbers. -/
import Derived.Test.YtbamkkdikeedoaaBits
namespace Go.Proofs.Ytbamkkdikeedoaa.G
open Go.RowKit
theorem wf_u32 {x : Int} (h : (Lit.int .u32 x).wf = true) : U32 x := by
  simp [Lit.wf, IntKind.min, IntKind.max, IntKind.bits, IntKind.signed] at h
  unfold U32; omega
theorem wf_u32s {l : List Int} (h : ∀ x ∈ l, (Lit.int .u32 x).wf = true) : ∀ x ∈ l, U32 x := fun x hx => wf_u32 (h x hx)
end Go.Proofs.Ytbamkkdikeedoaa.G
