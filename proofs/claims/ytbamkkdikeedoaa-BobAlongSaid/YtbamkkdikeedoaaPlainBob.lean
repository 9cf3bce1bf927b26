/- Plain: what the program's package bob computes, as matrices. -/
import Derived.Test.YtbamkkdikeedoaaGBob
import Derived.Test.YtbamkkdikeedoaaPlainDob
namespace Go.Proofs.Ytbamkkdikeedoaa.G
open Go.RowKit Go.Proofs.YtbamkkdikeedoaaW.PrintWords Go.Proofs.YtbamkkdikeedoaaW.PrintLast Go.Proofs.YtbamkkdikeedoaaW.PrintMore
def overM (n : Nat) (l : List S26) (po : List Int) (F : Nat → Bool) (c : Int) (T : Nat → Bool) (i k : Nat) : Bool :=
 seqM n (fun i j => mat po i j && (F i && evp (isK [c]) l j)) (fun j k => mat po j k && (evp (isK [c]) l j && T k)) i k
def fenM (n : Nat) (l : List S26) (po : List Int) (i k : Nat) : Bool :=
 overM n l po (fun _ => true) 3 (fun _ => true) i k || (overM n l po (evp (isK [1]) l) 4 (fun _ => true) i k || overM n l po (evp (isK [2]) l) 5 (evp (isK [2]) l) i k)
def ordM (l : List S26) (po : List Int) (i k : Nat) : Bool :=
 (mat po i k && evp isAcq l i) || ((mat po i k && evp isRel l k) || (mat po i k && (evp isRel l i && evp isAcq l k)))
section
variable {n : Nat} (hn : n ≤ 32) (l : List S26) (n1 n2 n3 n4 n5 : List Int) (n6 : List (List Int))
include hn
theorem ball_loop (ls : List (List Int)) (hls : ∀ r ∈ ls, sz r = n) (hlen : ls.length < 1000) : ∀ d i : Nat, i + d = ls.length →
  Ev (fun k => bob_all.l0 k (ofM n (anyM (ls.take i))) ls (ls.length : Int) (i : Int) l n1 n2 n3 n4 n5 n6) (ofM n (memM l (anyM ls))) := by
 intro d
 induction d with
 | zero =>
  intro i hi
  obtain rfl : i = ls.length := by omega
  refine Ev.step (fun k => by rw [bob_all.l0]) ?_
  refine Ev.neg (by omega) ?_
  rw [List.take_length]
  have h := memory_ev hn l n1 n2 n3 n4 n5 n6 (sz_ofM hn (anyM ls))
  rw [mem_any hn] at h
  exact Ev.bind h (Ev.now _)
 | succ d ih =>
  intro i hi
  have hlt : i < ls.length := by omega
  refine Ev.step (fun k => by rw [bob_all.l0]) ?_
  refine Ev.pos (by omega) (Ev.pos (by omega) (Ev.pos (by omega) ?_))
  rw [rdL7 ls i hlt, wrap64_succ i (by omega)]
  refine Ev.bindv (or_at (sz_ofM hn _) (hls _ (List.getElem_mem hlt))) ?_
  have e : (ofM n fun a b => mat (ofM n (anyM (ls.take i))) a b || mat ls[i] a b) = ofM n (anyM (ls.take (i + 1))) := by
   refine ofM_congr fun a b ha hb => ?_
   rw [mat_in hn ha hb, any_take ls i hlt]
  rw [e]
  exact ih (i + 1) (by omega)
theorem ball_ev (hl : l.length = n) (ls : List (List Int)) (hls : ∀ r ∈ ls, sz r = n) (hlen : ls.length < 1000) : Ev (fun k => bob_all.f k l n1 n2 n3 n4 n5 n6 ls) (ofM n (memM l (anyM ls))) := by
 unfold bob_all.f
 rw [hl]
 refine Ev.bindv (new_at hn) ?_
 exact ball_loop hn l n1 n2 n3 n4 n5 n6 ls hls hlen ls.length 0 (by omega)
theorem over_ev {po : List Int} (hp : sz po = n) {a1 a3 : Int} (h1 : U32 a1) (F T : Nat → Bool) (hF : ∀ i, i < n → tb a1 i = F i) (hT : ∀ i, i < n → tb a3 i = T i) (c : Int) :
  Ev (fun k => bob_over.f k l po n2 n3 n4 n5 n6 a1 c a3) (ofM n (overM n l po F c T)) := by
 unfold bob_over.f
 refine Ev.bindv rfl (Ev.bind (only_at hp _ h1) (Ev.bind (only_at hp a3 (maskW_u32 _ _)) (Ev.bindv (seq_at (sz_ofM hn _) (sz_ofM hn _)) (Ev.ofEq (congrArg some (ofM_congr fun i k hi hk => ?_))))))
 unfold overM
 exact seqM_congr (fun j hj => by rw [mat_in hn hi hj, hF i hi, tb_maskW _ _ (by omega)]) (fun j hj => by rw [mat_in hn hj hk, hT k hk, tb_maskW _ _ (by omega)])
theorem fences_ev (hl : l.length = n) {po : List Int} (hp : sz po = n) : Ev (fun k => bob_Fences.f k l po n2 n3 n4 n5 n6) (ofM n (memM l (fenM n l po))) := by
 unfold bob_Fences.f
 refine Ev.bindv rfl (Ev.bindv rfl ?_)
 refine Ev.bind (over_ev hn l n2 n3 n4 n5 n6 hp full_u32 (fun _ => true) (fun _ => true) (fun i hi => tb_full (by omega)) (fun i hi => tb_full (by omega)) 3) ?_
 refine Ev.bind (over_ev hn l n2 n3 n4 n5 n6 hp (maskW_u32 _ _) (evp (isK [1]) l) (fun _ => true) (fun i hi => tb_maskW _ _ (by omega)) (fun i hi => tb_full (by omega)) 4) ?_
 refine Ev.bind (over_ev hn l n2 n3 n4 n5 n6 hp (maskW_u32 _ _) (evp (isK [2]) l) (evp (isK [2]) l) (fun i hi => tb_maskW _ _ (by omega)) (fun i hi => tb_maskW _ _ (by omega)) 5) ?_
 refine Ev.bind (ball_ev hn l po n2 n3 n4 n5 n6 hl _ (by intro r hr; simp only [List.mem_cons, List.not_mem_nil, or_false] at hr; rcases hr with rfl | rfl | rfl <;> exact sz_ofM hn _) (by simp)) (Ev.ofEq (congrArg some (ofM_congr fun i k hi hk => ?_)))
 unfold memM
 congr 1
 unfold anyM fenM
 simp only [List.any_cons, List.any_nil, Bool.or_false]
 rw [mat_in hn hi hk, mat_in hn hi hk, mat_in hn hi hk]
theorem orders_ev (hl : l.length = n) {po : List Int} (hp : sz po = n) : Ev (fun k => bob_Orders.f k l po n2 n3 n4 n5 n6) (ofM n (memM l (ordM l po))) := by
 unfold bob_Orders.f
 refine Ev.bindv rfl (Ev.bindv rfl ?_)
 refine Ev.bind (only_at hp _ (maskW_u32 _ _)) (Ev.bind (only_at hp _ full_u32) (Ev.bind (only_at hp _ (maskW_u32 _ _)) ?_))
 refine Ev.bind (ball_ev hn l po n2 n3 n4 n5 n6 hl _ (by intro r hr; simp only [List.mem_cons, List.not_mem_nil, or_false] at hr; rcases hr with rfl | rfl | rfl <;> exact sz_ofM hn _) (by simp)) (Ev.ofEq (congrArg some (ofM_congr fun i k hi hk => ?_)))
 unfold memM
 congr 1
 unfold anyM ordM
 simp only [List.any_cons, List.any_nil, Bool.or_false]
 rw [mat_in hn hi hk, mat_in hn hi hk, mat_in hn hi hk, tb_full (by omega), tb_full (by omega), tb_maskW _ _ (by omega), tb_maskW _ _ (by omega), tb_maskW _ _ (by omega), tb_maskW _ _ (by omega), Bool.true_and, Bool.and_true]
def bobM (n : Nat) (l : List S26) (po co : List Int) (i k : Nat) : Bool :=
 memM l (fenM n l po) i k || (memM l (ordM l po) i k || seqM n (fun i j => mat po i j && evp isRel l j) (fun j k => mat co j k && innM l j k) i k)
theorem bob_ev (hl : l.length = n) {po co : List Int} (hp : sz po = n) (hco : sz co = n) : Ev (fun k => bob_Bob.f k l po n2 n3 n4 n5 n6 co) (ofM n (memM l (bobM n l po co))) := by
 unfold bob_Bob.f
 refine Ev.bindv rfl (Ev.bind (only_at hp _ full_u32) (Ev.bindv (coi_at hn l po n2 n3 n4 n5 n6 hl hco) (Ev.bindv (seq_at (sz_ofM hn _) (sz_ofM hn _)) (Ev.bind (fences_ev hn l n2 n3 n4 n5 n6 hl hp) (Ev.bind (orders_ev hn l n2 n3 n4 n5 n6 hl hp) ?_)))))
 refine Ev.bind (ball_ev hn l po n2 n3 n4 n5 n6 hl _ (by intro r hr; simp only [List.mem_cons, List.not_mem_nil, or_false] at hr; rcases hr with rfl | rfl | rfl <;> exact sz_ofM hn _) (by simp)) (Ev.ofEq (congrArg some (ofM_congr fun i k hi hk => ?_)))
 unfold memM
 congr 1
 unfold anyM bobM
 simp only [List.any_cons, List.any_nil, Bool.or_false]
 rw [mat_in hn hi hk, mat_in hn hi hk, mat_in hn hi hk]
 congr 1
 congr 1
 exact seqM_congr (fun j hj => by rw [mat_in hn hi hj, tb_full (by omega), tb_maskW _ _ (by omega), Bool.true_and]) (fun j hj => by rw [mat_in hn hj hk])
end
end Go.Proofs.Ytbamkkdikeedoaa.G
