/- It is proved that what is kept in order by barriers and orders hangs on no value, no place, and no thread's number: the law BobSame answers true for every input, by its plain form. -/
import Derived.Test.YtbamkkdikeedoaaGBobSame
import Derived.Test.YtbamkkdikeedoaaPlainSized
import Derived.Test.YtbamkkdikeedoaaShown15
import Derived.Test.YtbamkkdikeedoaaOpensExec
import Derived.Test.YtbamkkdikeedoaaPlainBob
namespace Go.Proofs.Ytbamkkdikeedoaa.Pure
open Go.RowKit Go.Proofs.Ytbamkkdikeedoaa.G Go.Proofs.Ytbamkkdikeedoaa.Opens Go.Proofs.YtbamkkdikeedoaaW.PrintWords Go.Proofs.YtbamkkdikeedoaaW.PrintLast Go.Proofs.YtbamkkdikeedoaaW.PrintMore
set_option linter.unusedVariables false
/-- What plays a part in an event. -/
def key (y : S26) : Int × Bool × Bool := (y.f1, y.f4, y.f5)
theorem rdAt (l : List S26) (i : Nat) (h : i < l.length) : rd_T26 l (i : Int) = l[i] := by simp [rd_T26, List.getD_eq_getElem?_getD, List.getElem?_eq_getElem h]
def alike (a b : List S26) : Prop := a.length = b.length ∧ ∀ j : Nat, (a[j]?).map key = (b[j]?).map key
theorem alike_set {a b : List S26} (h : alike a b) {i : Nat} (hi : i < a.length) {v : S26} (hv : key v = key a[i]) : alike (a.set i v) b := by
  refine ⟨by rw [List.length_set]; exact h.1, fun j => ?_⟩
  by_cases hij : i = j
  · subst hij
    rw [List.getElem?_set_self hi, ← h.2 i, List.getElem?_eq_getElem hi]
    simp [hv]
  · rw [List.getElem?_set_ne hij]; exact h.2 j
theorem evp_alike {a b : List S26} (h : alike a b) (p : S26 → Bool) (q : Int × Bool × Bool → Bool) (hp : ∀ y, p y = q (key y)) (j : Nat) : evp p a j = evp p b j := by
  have := h.2 j
  unfold evp
  cases ha : a[j]? <;> cases hb : b[j]? <;> rw [ha, hb] at this <;> simp at this ⊢
  rw [hp, hp, this]
theorem isK_key (ks : List Int) (y : S26) : isK ks y = (fun k : Int × Bool × Bool => decide (k.1 ∈ ks)) (key y) := rfl
theorem isAcq_key (y : S26) : isAcq y = (fun k : Int × Bool × Bool => decide (k.1 = 1) && k.2.1) (key y) := rfl
theorem isRel_key (y : S26) : isRel y = (fun k : Int × Bool × Bool => decide (k.1 = 2) && k.2.2) (key y) := rfl
theorem maskW_alike {a b : List S26} (p : S26 → Bool) (h : ∀ j, evp p a j = evp p b j) : maskW p a = maskW p b := by
  unfold maskW
  congr 1
  funext j
  exact h j
theorem BobSame (l : List S26) (po addr data ctrl rmw : List Int) (regs : List (List Int)) (wev : ∀ y ∈ l, wf26 y) (wpo : ∀ y ∈ po, wfI .u32 y) (wad : ∀ y ∈ addr, wfI .u32 y) (wda : ∀ y ∈ data, wfI .u32 y) (wct : ∀ y ∈ ctrl, wfI .u32 y) (wrm : ∀ y ∈ rmw, wfI .u32 y) (v : Int) (wv : (Lit.int .i64 v).wf = true) (loc : Int) (wloc : (Lit.int .i64 loc).wf = true) :
    ∃ k, cupolalaw15_BobSame.f k l po addr data ctrl rmw regs v loc = some true := by
  refine Ev.rounds (g := fun k => cupolalaw15_BobSame.f k l po addr data ctrl rmw regs v loc) ?_
  unfold cupolalaw15_BobSame.f
  refine Ev.bind shown15_ev ?_
  rcases sized_or l po addr data ctrl rmw regs po with h | ⟨h, hl, _, hp, ha, hd, hc, hr⟩
  · exact Ev.bindv h (Ev.neg (by decide) (Ev.now _))
  refine Ev.bindv h (Ev.pos rfl (Ev.bindv rfl (Ev.bindv rfl (Ev.pos (by simp; omega) ?_))))
  rw [List.nil_append]
  have loop : ∀ d i : Nat, i + d = l.length → ∀ cur : List S26, alike cur l → Ev (fun k => cupolalaw15_BobSame.l0 k v loc true (i : Int) l po addr data ctrl rmw regs cur po addr data ctrl rmw regs) true := by
    intro d
    induction d with
    | zero =>
      intro i hi cur hcur
      have hn := hcur.1
      have hn32 : l.length ≤ 32 := by omega
      have kk : ∀ ks j, evp (isK ks) cur j = evp (isK ks) l j := fun ks j => evp_alike hcur _ (fun k => decide (k.1 ∈ ks)) (isK_key ks) j
      have ka : ∀ j, evp isAcq cur j = evp isAcq l j := fun j => evp_alike hcur _ (fun k => decide (k.1 = 1) && k.2.1) isAcq_key j
      have kr : ∀ j, evp isRel cur j = evp isRel l j := fun j => evp_alike hcur _ (fun k => decide (k.1 = 2) && k.2.2) isRel_key j
      have ho : ∀ F T : Nat → Bool, ∀ c i k, overM l.length cur po F c T i k = overM l.length l po F c T i k := by
        intro F T c i k
        unfold overM
        exact seqM_congr (fun j hj => by rw [kk]) (fun j hj => by rw [kk])
      refine Ev.step (fun k => by rw [cupolalaw15_BobSame.l0]) ?_
      refine Ev.neg (by omega) (Ev.pos rfl ?_)
      refine Ev.bind (fences_ev hn32 l addr data ctrl rmw regs rfl hp) (Ev.bind (fences_ev hn32 cur addr data ctrl rmw regs hn hp) (Ev.bind (same_ev _ _) (Ev.pos ?_ ?_)))
      · refine same_of (sz_ofM hn32 _) (sz_ofM hn32 _) fun i k hi hk => ?_
        rw [mat_in hn32 hi hk, mat_in hn32 hi hk]
        unfold memM fenM
        have e1 : evp (isK [1]) cur = evp (isK [1]) l := funext (kk [1])
        have e2 : evp (isK [2]) cur = evp (isK [2]) l := funext (kk [2])
        rw [kk, kk, e1, e2, ho, ho, ho]
      · refine Ev.bind (orders_ev hn32 l addr data ctrl rmw regs rfl hp) (Ev.bind (orders_ev hn32 cur addr data ctrl rmw regs hn hp) (Ev.bind (same_ev _ _) (Ev.pos ?_ ?_)))
        · refine same_of (sz_ofM hn32 _) (sz_ofM hn32 _) fun i k hi hk => ?_
          rw [mat_in hn32 hi hk, mat_in hn32 hi hk]
          unfold memM ordM
          rw [kk, kk, ka, ka, kr, kr]
        · refine Ev.bindv rfl (Ev.bindv rfl (Ev.pos (maskW_alike _ fun j => (ka j).symm) (Ev.bindv rfl (Ev.bindv rfl (Ev.ofEq (congrArg some ?_))))))
          exact beq_iff_eq.mpr (maskW_alike _ fun j => (kr j).symm)
    | succ d ih =>
      intro i hi cur hcur
      have hn := hcur.1
      have hlt : i < cur.length := by omega
      refine Ev.step (fun k => by rw [cupolalaw15_BobSame.l0]) ?_
      refine Ev.pos (by omega) (Ev.pos (by omega) ?_)
      rw [rdAt cur i hlt, wrap64_succ i (by omega), Int.toNat_natCast]
      refine Ev.bindv rfl ?_
      have h1 := alike_set hcur hlt (v := ⟨cur[i].f0, cur[i].f1, cur[i].f2, v, cur[i].f4, cur[i].f5, cur[i].f6⟩) rfl
      generalize cur.set i ⟨cur[i].f0, cur[i].f1, cur[i].f2, v, cur[i].f4, cur[i].f5, cur[i].f6⟩ = cur1 at h1 ⊢
      have hlt1 : i < cur1.length := by have := h1.1; omega
      rw [rdAt cur1 i hlt1]
      refine Ev.bindv rfl ?_
      have h2 := alike_set h1 hlt1 (v := ⟨cur1[i].f0, cur1[i].f1, loc, cur1[i].f3, cur1[i].f4, cur1[i].f5, cur1[i].f6⟩) rfl
      generalize cur1.set i ⟨cur1[i].f0, cur1[i].f1, loc, cur1[i].f3, cur1[i].f4, cur1[i].f5, cur1[i].f6⟩ = cur2 at h2 ⊢
      have hlt2 : i < cur2.length := by have := h2.1; omega
      rw [rdAt cur2 i hlt2]
      exact ih (i + 1) (by omega) _ (alike_set h2 hlt2 rfl)
  exact loop l.length 0 (by omega) l ⟨rfl, fun _ => rfl⟩
end Go.Proofs.Ytbamkkdikeedoaa.Pure
