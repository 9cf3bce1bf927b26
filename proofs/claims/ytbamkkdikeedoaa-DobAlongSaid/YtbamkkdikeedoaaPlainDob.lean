/- Plain: what the program's package dob computes, as matrices. -/
import Derived.Test.YtbamkkdikeedoaaGDob
import Derived.Test.YtbamkkdikeedoaaAlg
namespace Go.Proofs.Ytbamkkdikeedoaa.G
open Go.RowKit Go.Proofs.YtbamkkdikeedoaaW.PrintWords Go.Proofs.YtbamkkdikeedoaaW.PrintLast Go.Proofs.YtbamkkdikeedoaaW.PrintMore

def evp (p : S26 → Bool) (l : List S26) (i : Nat) : Bool := (l[i]?).any p
theorem tb_maskW (p : S26 → Bool) (l : List S26) {i : Nat} (h : i < 32) : tb (maskW p l) i = evp p l i := by unfold maskW evp; rw [tb_word]; simp [h]
theorem maskW_u32 (p : S26 → Bool) (l : List S26) : U32 (maskW p l) := word_u32 _
theorem full_is : (4294967295 : Int) = mask 32 := by decide
theorem full_u32 : U32 4294967295 := ⟨by decide, by decide⟩
theorem tb_full {i : Nat} (h : i < 32) : tb 4294967295 i = true := by rw [full_is, tb_mask (by decide)]; simp [h]
theorem new_at {n : Nat} (hn : n ≤ 32) : rel_New.f (n : Int) = some (ofM n fun _ _ => false) := by rw [new_eq, if_pos (by omega), Int.toNat_natCast]
theorem rdL7 (l : List (List Int)) (i : Nat) (h : i < l.length) : rd_L7 l (i : Int) = l[i] := by simp [rd_L7, List.getD_eq_getElem?_getD, List.getElem?_eq_getElem h]
def memM (l : List S26) (M : Nat → Nat → Bool) (i k : Nat) : Bool := evp (isK [1, 2]) l i && evp (isK [1, 2]) l k && M i k
def anyM (ls : List (List Int)) (i k : Nat) : Bool := ls.any fun r => mat r i k

section
variable {n : Nat} (hn : n ≤ 32) (l : List S26) (n1 n2 n3 n4 n5 : List Int) (n6 : List (List Int))
include hn
theorem memory_ev {r : List Int} (hr : sz r = n) : Ev (fun k => dob_Memory.f k l n1 n2 n3 n4 n5 n6 r) (ofM n (memM l (mat r))) := by
 unfold dob_Memory.f
 refine Ev.bindv rfl ?_
 have h := only_at hr (maskW (isK [1, 2]) l) (maskW_u32 (isK [1, 2]) l)
 have e : (ofM n fun i k => mat r i k && (tb (maskW (isK [1, 2]) l) i && tb (maskW (isK [1, 2]) l) k)) = ofM n (memM l (mat r)) := by
  refine ofM_congr fun i k hi hk => ?_
  rw [tb_maskW _ _ (by omega), tb_maskW _ _ (by omega)]
  unfold memM
  rw [Bool.and_comm]
 rw [e] at h
 exact Ev.bind h (Ev.now _)
omit hn in
theorem any_take (ls : List (List Int)) (i : Nat) (h : i < ls.length) (a b : Nat) : anyM (ls.take (i + 1)) a b = (anyM (ls.take i) a b || mat ls[i] a b) := by
 unfold anyM
 rw [List.take_add_one, List.getElem?_eq_getElem h, List.any_append]
 simp
theorem mem_any (ls : List (List Int)) : ofM n (memM l (mat (ofM n (anyM ls)))) = ofM n (memM l (anyM ls)) := by
 refine ofM_congr fun i k hi hk => ?_
 unfold memM
 rw [mat_in hn hi hk]
theorem dall_loop (ls : List (List Int)) (hls : ∀ r ∈ ls, sz r = n) (hlen : ls.length < 1000) : ∀ d i : Nat, i + d = ls.length →
  Ev (fun k => dob_all.l0 k (ofM n (anyM (ls.take i))) ls (ls.length : Int) (i : Int) l n1 n2 n3 n4 n5 n6) (ofM n (memM l (anyM ls))) := by
 intro d
 induction d with
 | zero =>
  intro i hi
  obtain rfl : i = ls.length := by omega
  refine Ev.step (fun k => by rw [dob_all.l0]) ?_
  refine Ev.neg (by omega) ?_
  rw [List.take_length]
  have h := memory_ev hn l n1 n2 n3 n4 n5 n6 (sz_ofM hn (anyM ls))
  rw [mem_any hn] at h
  exact Ev.bind h (Ev.now _)
 | succ d ih =>
  intro i hi
  have hlt : i < ls.length := by omega
  refine Ev.step (fun k => by rw [dob_all.l0]) ?_
  refine Ev.pos (by omega) (Ev.pos (by omega) (Ev.pos (by omega) ?_))
  rw [rdL7 ls i hlt, wrap64_succ i (by omega)]
  refine Ev.bindv (or_at (sz_ofM hn _) (hls _ (List.getElem_mem hlt))) ?_
  have e : (ofM n fun a b => mat (ofM n (anyM (ls.take i))) a b || mat ls[i] a b) = ofM n (anyM (ls.take (i + 1))) := by
   refine ofM_congr fun a b ha hb => ?_
   rw [mat_in hn ha hb, any_take ls i hlt]
  rw [e]
  exact ih (i + 1) (by omega)
theorem dall_ev (hl : l.length = n) (ls : List (List Int)) (hls : ∀ r ∈ ls, sz r = n) (hlen : ls.length < 1000) : Ev (fun k => dob_all.f k l n1 n2 n3 n4 n5 n6 ls) (ofM n (memM l (anyM ls))) := by
 unfold dob_all.f
 rw [hl]
 refine Ev.bindv (new_at hn) ?_
 exact dall_loop hn l n1 n2 n3 n4 n5 n6 ls hls hlen ls.length 0 (by omega)
theorem to_ev {r : List Int} (hr : sz r = n) (a : Int) : Ev (fun k => dob_to.f k l n1 n2 n3 n4 n5 n6 r a) (ofM n fun i k => mat r i k && evp (isK [a]) l k) := by
 unfold dob_to.f
 refine Ev.bindv rfl ?_
 have h := only_at hr (maskW (isK [a]) l) full_u32
 have e : (ofM n fun i k => mat r i k && (tb 4294967295 i && tb (maskW (isK [a]) l) k)) = ofM n fun i k => mat r i k && evp (isK [a]) l k := by
  refine ofM_congr fun i k hi hk => ?_
  rw [tb_full (by omega), tb_maskW _ _ (by omega), Bool.true_and]
 rw [e] at h
 exact Ev.bind h (Ev.now _)
def stM (n : Nat) (l : List S26) (po addr data ctrl : List Int) (i k : Nat) : Bool :=
 mat addr i k || (mat data i k || ((mat ctrl i k && evp (isK [2]) l k) || ((seqM n (fun i j => (mat ctrl i j || seqM n (mat addr) (mat po) i j) && evp (isK [6]) l j) (mat po) i k && evp (isK [1]) l k) || (seqM n (mat addr) (mat po) i k && evp (isK [2]) l k))))
theorem static_ev (hl : l.length = n) {po addr data ctrl : List Int} (hp : sz po = n) (ha : sz addr = n) (hd : sz data = n) (hc : sz ctrl = n) (rmw : List Int) : Ev (fun k => dob_Static.f k l po addr data ctrl rmw n6) (ofM n (memM l (stM n l po addr data ctrl))) := by
 unfold dob_Static.f
 refine Ev.bindv (seq_at ha hp) ?_
 have z1 := sz_ofM hn (seqM n (mat addr) (mat po))
 have m1 : ∀ i k, i < n → k < n → mat (ofM n (seqM n (mat addr) (mat po))) i k = seqM n (mat addr) (mat po) i k := fun i k hi hk => mat_in hn hi hk
 generalize ofM n (seqM n (mat addr) (mat po)) = t1 at *
 refine Ev.bindv (or_at hc z1) ?_
 have z2 := sz_ofM hn (fun i k => mat ctrl i k || mat t1 i k)
 have m2 : ∀ i k, i < n → k < n → mat (ofM n fun i k => mat ctrl i k || mat t1 i k) i k = (mat ctrl i k || mat t1 i k) := fun i k hi hk => mat_in hn hi hk
 generalize (ofM n fun i k => mat ctrl i k || mat t1 i k) = t2 at *
 refine Ev.bind (to_ev hn l po addr data ctrl rmw n6 z2 6) ?_
 have z3 := sz_ofM hn (fun i k => mat t2 i k && evp (isK [6]) l k)
 have m3 : ∀ i k, i < n → k < n → mat (ofM n fun i k => mat t2 i k && evp (isK [6]) l k) i k = (mat t2 i k && evp (isK [6]) l k) := fun i k hi hk => mat_in hn hi hk
 generalize (ofM n fun i k => mat t2 i k && evp (isK [6]) l k) = t3 at *
 refine Ev.bindv (seq_at z3 hp) ?_
 have z4 := sz_ofM hn (seqM n (mat t3) (mat po))
 have m4 : ∀ i k, i < n → k < n → mat (ofM n (seqM n (mat t3) (mat po))) i k = seqM n (mat t3) (mat po) i k := fun i k hi hk => mat_in hn hi hk
 generalize ofM n (seqM n (mat t3) (mat po)) = t4 at *
 refine Ev.bind (to_ev hn l po addr data ctrl rmw n6 hc 2) ?_
 refine Ev.bind (to_ev hn l po addr data ctrl rmw n6 z4 1) ?_
 refine Ev.bind (to_ev hn l po addr data ctrl rmw n6 z1 2) ?_
 refine Ev.bind (dall_ev hn l po addr data ctrl rmw n6 hl _ (by intro r hr; simp only [List.mem_cons, List.not_mem_nil, or_false] at hr; rcases hr with rfl | rfl | rfl | rfl | rfl <;> first | assumption | exact sz_ofM hn _) (by simp)) (Ev.ofEq (congrArg some (ofM_congr fun i k hi hk => ?_)))
 unfold memM
 congr 1
 unfold anyM stM
 simp only [List.any_cons, List.any_nil, Bool.or_false]
 rw [mat_in hn hi hk, mat_in hn hi hk, mat_in hn hi hk, m1 i k hi hk, m4 i k hi hk]
 rw [seqM_congr (A := mat t3) (B' := mat po) (fun j hj => by rw [m3 i j hi hj, m2 i j hi hj, m1 i j hi hj]) (fun _ _ => rfl)]

theorem within_at (hl : l.length = n) {r : List Int} (hr : sz r = n) : derive_Within.f l n1 n2 n3 n4 n5 n6 r = some (ofM n fun i k => mat r i k && innM l i k) := by
 unfold derive_Within.f exec_Inner.f
 have hu : u32n l.length = n := by unfold u32n; rw [hl, if_pos hn]
 rw [Option.bind_some, hu, and_at hr (sz_ofM hn _), Option.bind_some]
 refine congrArg some (ofM_congr fun i k hi hk => ?_)
 rw [mat_in hn hi hk]
theorem coi_at (hl : l.length = n) {r : List Int} (hr : sz r = n) : dob_Coi.f l n1 n2 n3 n4 n5 n6 r = some (ofM n fun i k => mat r i k && innM l i k) := by
 unfold dob_Coi.f
 rw [within_at hn l n1 n2 n3 n4 n5 n6 hl hr, Option.bind_some]
def rfM (from_ : List Int) (i k : Nat) : Bool := decide (from_[k]? = some (i : Int))
theorem rf_loop (from_ : List Int) (hf : from_.length ≤ 9223372036854775807) : ∀ d j : Nat, j + d = from_.length →
  Ev (fun k => source_Rf.l0 k (ofM n fun a b => decide (b < j) && rfM from_ a b) from_ (from_.length : Int) (j : Int)) (ofM n (rfM from_)) := by
 intro d
 induction d with
 | zero =>
  intro j hj
  obtain rfl : j = from_.length := by omega
  refine Ev.step (fun k => by rw [source_Rf.l0]) ?_
  refine Ev.neg (by omega) ?_
  have e : (ofM n fun a b => decide (b < from_.length) && rfM from_ a b) = ofM n (rfM from_) := by
   refine ofM_congr fun a b ha hb => ?_
   by_cases h : b < from_.length
   ·simp [h]
   ·unfold rfM; rw [List.getElem?_eq_none (by omega)]; simp
  rw [e]
  exact Ev.now _
 | succ d ih =>
  intro j hj
  have hlt : j < from_.length := by omega
  have e1 : rd from_ (j : Int) = from_[j] := by simp [rd, List.getD_eq_getElem?_getD, List.getElem?_eq_getElem hlt]
  refine Ev.step (fun k => by rw [source_Rf.l0]) ?_
  refine Ev.pos (by omega) (Ev.pos (by omega) (Ev.pos (by omega) ?_))
  rw [e1, wrap64_succ j (by omega)]
  have h := put_ev (ofM n fun a b => decide (b < j) && rfM from_ a b) from_[j] (j : Int)
  rw [sz_ofM hn] at h
  have e : (ofM n fun a b => mat (ofM n fun a b => decide (b < j) && rfM from_ a b) a b || (decide ((a : Int) = from_[j]) && decide ((b : Int) = (j : Int)))) = ofM n fun a b => decide (b < j + 1) && rfM from_ a b := by
   refine ofM_congr fun a b ha hb => ?_
   rw [mat_in hn ha hb]
   by_cases h1 : b = j
   ·subst h1
    unfold rfM
    rw [List.getElem?_eq_getElem hlt]
    simp only [Nat.lt_irrefl, decide_false, Bool.false_and, Bool.false_or, decide_true, Bool.and_true, Nat.lt_succ_self, Bool.true_and, Option.some.injEq]
    rw [decide_eq_decide]
    exact ⟨fun h => h.symm, fun h => h.symm⟩
   ·have h2 : ¬ (b : Int) = (j : Int) := by omega
    rw [show decide (b < j + 1) = decide (b < j) from by rw [decide_eq_decide]; omega]
    simp [h2]
  rw [e] at h
  exact Ev.bind h (ih (j + 1) (by omega))
theorem rf_ev (hl : l.length = n) (from_ : List Int) (hf : from_.length ≤ 9223372036854775807) : Ev (fun k => source_Rf.f k l n1 n2 n3 n4 n5 n6 from_) (ofM n (rfM from_)) := by
 unfold source_Rf.f
 rw [hl]
 refine Ev.bindv (new_at hn) ?_
 have h := rf_loop hn from_ hf from_.length 0 (by omega)
 have e : (ofM n fun a b => decide (b < 0) && rfM from_ a b) = ofM n fun _ _ => false := ofM_congr fun a b _ _ => by simp
 rw [e] at h
 exact h
theorem rfi_ev (hl : l.length = n) (from_ : List Int) (hf : from_.length ≤ 9223372036854775807) : Ev (fun k => dob_Rfi.f k l n1 n2 n3 n4 n5 n6 from_) (ofM n fun i k => rfM from_ i k && innM l i k) := by
 unfold dob_Rfi.f
 refine Ev.bind (rf_ev hn l n1 n2 n3 n4 n5 n6 hl from_ hf) (Ev.bindv (within_at hn l n1 n2 n3 n4 n5 n6 hl (sz_ofM hn _)) ?_)
 have e : (ofM n fun i k => mat (ofM n (rfM from_)) i k && innM l i k) = ofM n fun i k => rfM from_ i k && innM l i k := ofM_congr fun i k hi hk => by rw [mat_in hn hi hk]
 rw [e]
 exact Ev.now _
def dobM (n : Nat) (l : List S26) (po addr data ctrl from_ co : List Int) (i k : Nat) : Bool :=
 memM l (stM n l po addr data ctrl) i k || (seqM n (fun i j => mat ctrl i j || mat data i j) (fun j k => mat co j k && innM l j k) i k || seqM n (fun i j => mat addr i j || mat data i j) (fun j k => rfM from_ j k && innM l j k) i k)
theorem dob_ev (hl : l.length = n) {po addr data ctrl co : List Int} (hp : sz po = n) (ha : sz addr = n) (hd : sz data = n) (hc : sz ctrl = n) (hco : sz co = n) (rmw from_ : List Int) (hf : from_.length ≤ 9223372036854775807) : Ev (fun k => dob_Dob.f k l po addr data ctrl rmw n6 from_ co) (ofM n (memM l (dobM n l po addr data ctrl from_ co))) := by
 unfold dob_Dob.f
 refine Ev.bindv (or_at hc hd) (Ev.bindv (coi_at hn l po addr data ctrl rmw n6 hl hco) (Ev.bindv (seq_at (sz_ofM hn _) (sz_ofM hn _)) (Ev.bindv (or_at ha hd) (Ev.bind (rfi_ev hn l po addr data ctrl rmw n6 hl from_ hf) (Ev.bindv (seq_at (sz_ofM hn _) (sz_ofM hn _)) (Ev.bind (static_ev hn l n6 hl hp ha hd hc rmw) ?_))))))
 refine Ev.bind (dall_ev hn l po addr data ctrl rmw n6 hl _ (by intro r hr; simp only [List.mem_cons, List.not_mem_nil, or_false] at hr; rcases hr with rfl | rfl | rfl <;> exact sz_ofM hn _) (by simp)) (Ev.ofEq (congrArg some (ofM_congr fun i k hi hk => ?_)))
 unfold memM
 congr 1
 unfold anyM dobM
 simp only [List.any_cons, List.any_nil, Bool.or_false]
 rw [mat_in hn hi hk, mat_in hn hi hk, mat_in hn hi hk]
 congr 1
 congr 1
 ·exact seqM_congr (fun j hj => by rw [mat_in hn hi hj]) (fun j hj => by rw [mat_in hn hj hk])
 ·exact seqM_congr (fun j hj => by rw [mat_in hn hi hj]) (fun j hj => by rw [mat_in hn hj hk])
end
end Go.Proofs.Ytbamkkdikeedoaa.G
