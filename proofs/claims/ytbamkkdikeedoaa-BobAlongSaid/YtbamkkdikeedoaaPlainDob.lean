/- Plain: what the program's package dob computes, as matrices. -/
import Derived.Test.YtbamkkdikeedoaaGDob
import Derived.Test.YtbamkkdikeedoaaAlg
namespace Go.Proofs.Ytbamkkdikeedoaa.G
open Go.RowKit Go.Proofs.YtbamkkdikeedoaaW.PrintWords Go.Proofs.YtbamkkdikeedoaaW.PrintLast Go.Proofs.YtbamkkdikeedoaaW.PrintMore

def evp (p : S26 → Bool) (l : List S26) (i : Nat) : Bool := (l[i]?).any p
theorem tb_maskW (p : S26 → Bool) (l : List S26) {i : Nat} (h : i < 32) : tb (maskW p l) i = evp p l i := by unfold maskW evp; rw [tb_word]; simp [h]
theorem maskW_u32 (p : S26 → Bool) (l : List S26) : U32 (maskW p l) := word_u32 _
theorem full_is : (4294967295 : Int) = mask 32 := by decide
theorem full_u32 : U32 4294967295 := ⟨by decide, by decide⟩
theorem tb_full {i : Nat} (h : i < 32) : tb 4294967295 i = true := by rw [full_is, tb_mask (by decide)]; simp [h]
theorem new_at {n : Nat} (hn : n ≤ 32) : rel_New.f (n : Int) = some (ofM n fun _ _ => false) := by rw [new_eq, if_pos (by omega), Int.toNat_natCast]
theorem rdL7 (l : List (List Int)) (i : Nat) (h : i < l.length) : rd_L7 l (i : Int) = l[i] := by simp [rd_L7, List.getD_eq_getElem?_getD, List.getElem?_eq_getElem h]
def memM (l : List S26) (M : Nat → Nat → Bool) (i k : Nat) : Bool := evp (isK [1, 2]) l i && evp (isK [1, 2]) l k && M i k
def anyM (ls : List (List Int)) (i k : Nat) : Bool := ls.any fun r => mat r i k

section
variable {n : Nat} (hn : n ≤ 32) (l : List S26) (n1 n2 n3 n4 n5 : List Int) (n6 : List (List Int))
include hn
theorem memory_ev {r : List Int} (hr : sz r = n) : Ev (fun k => dob_Memory.f k l n1 n2 n3 n4 n5 n6 r) (ofM n (memM l (mat r))) := by
 unfold dob_Memory.f
 refine Ev.bindv rfl ?_
 have h := only_at hr (maskW (isK [1, 2]) l) (maskW_u32 (isK [1, 2]) l)
 have e : (ofM n fun i k => mat r i k && (tb (maskW (isK [1, 2]) l) i && tb (maskW (isK [1, 2]) l) k)) = ofM n (memM l (mat r)) := by
  refine ofM_congr fun i k hi hk => ?_
  rw [tb_maskW _ _ (by omega), tb_maskW _ _ (by omega)]
  unfold memM
  rw [Bool.and_comm]
 rw [e] at h
 exact Ev.bind h (Ev.now _)
omit hn in
theorem any_take (ls : List (List Int)) (i : Nat) (h : i < ls.length) (a b : Nat) : anyM (ls.take (i + 1)) a b = (anyM (ls.take i) a b || mat ls[i] a b) := by
 unfold anyM
 rw [List.take_add_one, List.getElem?_eq_getElem h, List.any_append]
 simp
theorem mem_any (ls : List (List Int)) : ofM n (memM l (mat (ofM n (anyM ls)))) = ofM n (memM l (anyM ls)) := by
 refine ofM_congr fun i k hi hk => ?_
 unfold memM
 rw [mat_in hn hi hk]
theorem within_at (hl : l.length = n) {r : List Int} (hr : sz r = n) : derive_Within.f l n1 n2 n3 n4 n5 n6 r = some (ofM n fun i k => mat r i k && innM l i k) := by
 unfold derive_Within.f exec_Inner.f
 have hu : u32n l.length = n := by unfold u32n; rw [hl, if_pos hn]
 rw [Option.bind_some, hu, and_at hr (sz_ofM hn _), Option.bind_some]
 refine congrArg some (ofM_congr fun i k hi hk => ?_)
 rw [mat_in hn hi hk]
theorem coi_at (hl : l.length = n) {r : List Int} (hr : sz r = n) : dob_Coi.f l n1 n2 n3 n4 n5 n6 r = some (ofM n fun i k => mat r i k && innM l i k) := by
 unfold dob_Coi.f
 rw [within_at hn l n1 n2 n3 n4 n5 n6 hl hr, Option.bind_some]
end
end Go.Proofs.Ytbamkkdikeedoaa.G
