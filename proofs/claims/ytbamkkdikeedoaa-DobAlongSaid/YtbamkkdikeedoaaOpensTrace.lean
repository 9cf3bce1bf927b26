/- By hand: what an input that is traces has in its cells. -/
import Derived.Test.YtbamkkdikeedoaaOpensExec
import Derived.Laws.IdiomArrays
namespace Go.Proofs.Ytbamkkdikeedoaa.Opens
open Go.RowKit Go.Proofs.YtbamkkdikeedoaaW.PrintWords Go.Proofs.Ytbamkkdikeedoaa.G
variable {W : World}
theorem cells_trod {H : Type} {enc : TypeId × Value → H} {P : Program} {fuel : Nat} {t e : TypeId} {n : Nat} {cs : List Value} {x : DataW H × List MemPlace} (ht : P.underlying t = some (.array n e)) (h : DataW.trod enc P W 0 (fun _ => true) true fuel t cs = some x) : cs.length = P.cellsOf t := by
 cases fuel with
 | zero => simp [DataW.trod] at h
 | succ m =>
  unfold DataW.trod at h
  rw [ht] at h
  by_cases hl : cs.length = P.cellsOf t
  ·exact hl
  ·simp [hl] at h
theorem of_array4 {t e : TypeId} {k : IntKind} (ht : Try.prog.underlying t = some (.array 4 e)) (he : Try.prog.underlying e = some (.int k)) (hce : Try.prog.cellsOf e = 1) (hct : Try.prog.cellsOf t = 4) :
  Opens Try.prog W t (Kd.pair (Kd.int k) (Kd.pair (Kd.int k) (Kd.pair (Kd.int k) (Kd.int k)))) (fun _ => True) := by
 intro H enc fuel cs x h
 have hl := cells_trod ht h
 rw [hct] at hl
 match cs, hl with
 | [b0, b1, b2, b3], _ =>
  obtain ⟨y0, y1, y2, y3, n, _, h0, h1, h2, h3⟩ := Go.ChangeShapes.trod_array4 ht hce h
  obtain ⟨n0, e0, _⟩ := of_int he H enc n [b0] y0 h0
  obtain ⟨n1, e1, _⟩ := of_int he H enc n [b1] y1 h1
  obtain ⟨n2, e2, _⟩ := of_int he H enc n [b2] y2 h2
  obtain ⟨n3, e3, _⟩ := of_int he H enc n [b3] y3 h3
  exact ⟨(n0, n1, n2, n3), ⟨[b0], [b1, b2, b3], rfl, e0, ⟨[b1], [b2, b3], rfl, e1, ⟨[b2], [b3], rfl, e2, e3⟩⟩⟩, trivial⟩
theorem of_iso {P : Program} {α β : Type} {t : TypeId} {d : Kd α} (f : β → α) (g : α → β) (hfg : ∀ y, f (g y) = y) (h : Opens P W t d (fun _ => True)) : Opens P W t (Kd.iso d f) (fun _ => True) := by
 intro H enc fuel cs x hx
 obtain ⟨a, ha, _⟩ := h H enc fuel cs x hx
 exact ⟨g a, by show d.K W (f (g a)) cs; rw [hfg]; exact ha, trivial⟩
theorem of_any {P : Program} {α : Type} {t : TypeId} {d : Kd α} {wf : α → Prop} (h : Opens P W t d wf) : Opens P W t d (fun _ => True) := by
 intro H enc fuel cs x hx
 obtain ⟨a, ha, _⟩ := h H enc fuel cs x hx
 exact ⟨a, ha, trivial⟩
theorem opens112 : Opens Try.prog W 112 k112 (fun _ => True) :=
 of_iso (fun x : S112 => (x.f0, x.f1, x.f2, x.f3)) (fun y => ⟨y.1, y.2.1, y.2.2.1, y.2.2.2⟩) (fun _ => rfl) (of_array4 Try.underlying112 Try.underlying2 (by kernel_rfl) (by kernel_rfl))
theorem opens113 : Opens Try.prog W 113 k113 (fun _ => True) :=
 of_iso (fun x : S113 => (x.f0, x.f1, x.f2, x.f3)) (fun y => ⟨y.1, y.2.1, y.2.2.1, y.2.2.2⟩) (fun _ => rfl) (of_array4 Try.underlying113 Try.underlying52 (by kernel_rfl) (by kernel_rfl))
theorem opens115 : Opens Try.prog W 115 k115 (fun _ => True) :=
 of_any (of_struct (fun x : S115 => (x.f0, x.f1)) (fun y => ⟨y.1, y.2⟩) (fun _ => rfl) Try.underlying115 (by kernel_rfl)
  (of_cons (by kernel_rfl) rfl (by decide) opens112 (of_last (by kernel_rfl) rfl opens113)))
theorem opens117 : Opens Try.prog W 117 k117 (fun _ => True) :=
 of_any (of_struct (fun x : S117 => (x.f0, x.f1, x.f2, x.f3, x.f4, x.f5, x.f6, x.f7, x.f8)) (fun y => ⟨y.1, y.2.1, y.2.2.1, y.2.2.2.1, y.2.2.2.2.1, y.2.2.2.2.2.1, y.2.2.2.2.2.2.1, y.2.2.2.2.2.2.2.1, y.2.2.2.2.2.2.2.2⟩) (fun _ => rfl) Try.underlying117 (by kernel_rfl)
  (of_cons (by kernel_rfl) rfl (by decide) opens22 (of_cons (by kernel_rfl) rfl (by decide) opens27 (of_cons (by kernel_rfl) rfl (by decide) opens27 (of_cons (by kernel_rfl) rfl (by decide) opens27 (of_cons (by kernel_rfl) rfl (by decide) opens33
   (of_cons (by kernel_rfl) rfl (by decide) opens115 (of_cons (by kernel_rfl) rfl (by decide) (of_int Try.underlying3) (of_cons (by kernel_rfl) rfl (by decide) (of_int Try.underlying3) (of_last (by kernel_rfl) rfl (of_int Try.underlying3)))))))))))
theorem opens111 : Opens Try.prog W 111 (Kd.slice 117 k117) (fun l => ∀ y ∈ l, True) := of_slice Try.underlying111 (by kernel_rfl) opens117
end Go.Proofs.Ytbamkkdikeedoaa.Opens
