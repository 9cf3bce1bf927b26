/- By hand: what an input's data say, read as the printed words read: kind by kind. -/
import Derived.Test.YtbamkkdikeedoaaG0
import Derived.ChangeArms
import Derived.Deep.Slices
namespace Go.Proofs.Ytbamkkdikeedoaa.Opens
open Go.RowKit Go.Proofs.YtbamkkdikeedoaaW.PrintWords Go.Deep
variable {P : Program} {W : World}

def Opens {α : Type} (P : Program) (W : World) (t : TypeId) (d : Kd α) (wf : α → Prop) : Prop :=
 ∀ (H : Type) (enc : TypeId × Value → H) (fuel : Nat) (cs : List Value) (x : DataW H × List MemPlace), DataW.trod enc P W 0 (fun _ => true) true fuel t cs = some x → ∃ a, d.K W a cs ∧ wf a

theorem of_int {t : TypeId} {k : IntKind} (ht : P.underlying t = some (.int k)) : Opens P W t (Kd.int k) (fun n => (Lit.int k n).wf = true) := by
 intro H enc fuel cs x h
 obtain ⟨n, rfl, _, hw⟩ := DataW.trod_int ht h
 exact ⟨n, rfl, hw⟩
theorem of_bool {t : TypeId} (ht : P.underlying t = some .bool) : Opens P W t Kd.bool (fun _ => True) := by
 intro H enc fuel cs x h
 obtain ⟨b, rfl, _⟩ := DataW.trod_bool ht h
 exact ⟨b, rfl, trivial⟩
theorem pick_all {β : Type} (len : Nat) (R : Nat → β → Prop) (each : ∀ i, i < len → ∃ y, R i y) : ∃ l : List β, l.length = len ∧ ∀ i y, l[i]? = some y → R i y := by
 induction len with
 | zero => exact ⟨[], rfl, fun i y hy => by simp at hy⟩
 | succ len ih =>
  obtain ⟨l, h1, h2⟩ := ih (fun i hi => each i (by omega))
  obtain ⟨y, hy⟩ := each len (by omega)
  refine ⟨l ++ [y], by simp [h1], fun i z hz => ?_⟩
  rcases Nat.lt_or_ge i l.length with hi | hi
  ·rw [List.getElem?_append_left hi] at hz
   exact h2 i z hz
  ·rw [List.getElem?_append_right hi] at hz
   have h0 : i - l.length = 0 := by
    by_cases h0 : i - l.length = 0
    ·exact h0
    ·obtain ⟨q, hq⟩ := Nat.exists_eq_succ_of_ne_zero h0
     rw [hq] at hz; simp at hz
   rw [h0] at hz
   simp at hz
   obtain rfl := hz
   have : i = len := by omega
   rw [this]; exact hy
theorem of_slice {α : Type} {t e : TypeId} {d : Kd α} {wf : α → Prop} (ht : P.underlying t = some (.slice e)) (hc : P.cellsOf e = d.sz) (h : Opens P W e d wf) : Opens P W t (Kd.slice e d) (fun l => ∀ y ∈ l, wf y) := by
 intro H enc fuel cs x hx
 rcases open_slice ht hx with ⟨rfl, _⟩ | ⟨a, len, cap, m, n, D, Pl, rfl, _, hl, hm, hmm, _, hat⟩
 ·exact ⟨[], ⟨none, 0, rfl, Nat.le_refl _, rfl, by simp, fun h => absurd h (Nat.lt_irrefl 0)⟩, by simp⟩
 ·simp only [if_true] at hmm
  have each : ∀ i, i < len → ∃ y : α × List Value, W.cells? 0 (a.add (i * d.sz)) d.sz = some y.2 ∧ d.K W y.1 y.2 ∧ wf y.1 := by
   intro i hi
   obtain ⟨cs', h1, h2⟩ := hat i (by omega)
   obtain ⟨y, hK, hw⟩ := h H enc n cs' _ h2
   rw [hc] at h1
   exact ⟨(y, cs'), h1, hK, hw⟩
  have pick := pick_all len _ each
  obtain ⟨l, hll, hat2⟩ := pick
  have hlen : (l.map (·.1)).length = len := by rw [List.length_map]; exact hll
  refine ⟨l.map (·.1), ⟨some a, cap, by rw [hlen], by rw [hlen]; exact hl, ?_⟩, ?_⟩
  ·refine ⟨rfl, by rw [hlen]; simp only [maxLen] at hm; omega, fun _ => ⟨a, rfl, fun j p hj => ?_⟩⟩
   rw [List.getElem?_map] at hj
   obtain ⟨y, hy, rfl⟩ := Option.map_eq_some_iff.1 hj
   obtain ⟨h1, h2, _⟩ := hat2 j y hy
   refine ⟨y.2, d.K_len h2, h2, fun i u hu => ?_⟩
   obtain ⟨_, hl2, hcell⟩ := World.cells?_some h1
   have hi : i < d.sz := by have := (List.getElem?_eq_some_iff.1 hu).1; rw [d.K_len h2] at this; exact this
   have := hcell i hi
   rw [hu] at this
   rw [← Deep.add_add]
   exact this
  ·intro y hy
   obtain ⟨z, hz, rfl⟩ := List.mem_map.1 hy
   obtain ⟨i, hi⟩ := List.getElem?_of_mem hz
   exact (hat2 i z hi).2.2

def OpensF {α : Type} (P : Program) (W : World) (L : List Field) (o : Nat) (d : Kd α) (wf : α → Prop) : Prop :=
 ∀ (H : Type) (enc : TypeId × Value → H) (n : Nat) (cs : List Value), cs.length = d.sz → (∀ f ∈ L, o ≤ f.offset ∧ ∃ x, DataW.trod enc P W 0 (fun _ => true) true n f.type ((cs.drop (f.offset - o)).take (P.cellsOf f.type)) = some x) → ∃ a, d.K W a cs ∧ wf a
theorem of_last {α : Type} {f : Field} {o : Nat} {d : Kd α} {wf : α → Prop} (hc : P.cellsOf f.type = d.sz) (ho : f.offset = o) (h : Opens P W f.type d wf) : OpensF P W [f] o d wf := by
 intro H enc n cs hl hf
 obtain ⟨_, x, hx⟩ := hf f (List.mem_singleton.2 rfl)
 rw [ho, Nat.sub_self, List.drop_zero, hc, List.take_of_length_le (by omega)] at hx
 exact h H enc n cs x hx
theorem of_cons {α β : Type} {f : Field} {L : List Field} {o : Nat} {d : Kd α} {d' : Kd β} {wf : α → Prop} {wf' : β → Prop} (hc : P.cellsOf f.type = d.sz) (ho : f.offset = o) (hL : ∀ g ∈ L, o + d.sz ≤ g.offset) (h : Opens P W f.type d wf) (h' : OpensF P W L (o + d.sz) d' wf') :
  OpensF P W (f :: L) o (Kd.pair d d') (fun y => wf y.1 ∧ wf' y.2) := by
 intro H enc n cs hl hf
 have hl' : cs.length = d.sz + d'.sz := hl
 obtain ⟨_, x, hx⟩ := hf f (List.mem_cons_self ..)
 rw [ho, Nat.sub_self, List.drop_zero, hc] at hx
 obtain ⟨a, ha, hwa⟩ := h H enc n _ x hx
 obtain ⟨b, hb, hwb⟩ := h' H enc n (cs.drop d.sz) (by rw [List.length_drop]; omega) (fun g hg => by
  obtain ⟨_, y, hy⟩ := hf g (List.mem_cons_of_mem _ hg)
  refine ⟨hL g hg, y, ?_⟩
  have := hL g hg
  rw [List.drop_drop, show d.sz + (g.offset - (o + d.sz)) = g.offset - o by omega]
  exact hy)
 exact ⟨(a, b), ⟨cs.take d.sz, cs.drop d.sz, (List.take_append_drop _ _).symm, ha, hb⟩, hwa, hwb⟩
theorem of_struct {α β : Type} {t : TypeId} {fs : Array Field} {d : Kd α} {wf : α → Prop} (f : β → α) (g : α → β) (hfg : ∀ y, f (g y) = y) (ht : P.underlying t = some (.struct fs)) (hc : P.cellsOf t = d.sz) (h : OpensF P W fs.toList 0 d wf) : Opens P W t (Kd.iso d f) (fun y => wf (f y)) := by
 intro H enc fuel cs x hx
 obtain ⟨xs, n, _, _, hl, hxl, hf⟩ := DataW.trod_struct ht hx
 obtain ⟨a, ha, hw⟩ := h H enc n cs (by rw [hl, hc]) (fun q hq => by
  obtain ⟨i, hi⟩ := List.getElem?_of_mem hq
  rw [Array.getElem?_toList] at hi
  have h1 := hf i q hi
  have hlt : i < xs.length := by rw [hxl]; exact (Array.getElem?_eq_some_iff.1 hi).1
  rw [List.getElem?_eq_getElem hlt] at h1
  exact ⟨Nat.zero_le _, _, h1⟩)
 exact ⟨g a, by show d.K W (f (g a)) cs; rw [hfg]; exact ha, by show wf (f (g a)); rw [hfg]; exact hw⟩
end Go.Proofs.Ytbamkkdikeedoaa.Opens
