/- By hand: what an input that is what threads do has in its cells. -/
import Derived.Test.YtbamkkdikeedoaaOpensAt
namespace Go.Proofs.Ytbamkkdikeedoaa.Opens
open Go.RowKit Go.Proofs.YtbamkkdikeedoaaW.PrintWords Go.Proofs.Ytbamkkdikeedoaa.G
variable {W : World}
theorem opens27 : Opens Try.prog W 27 (Kd.slice 52 (Kd.int .u32)) (fun l => ∀ y ∈ l, wfI .u32 y) := of_slice Try.underlying27 (by kernel_rfl) (of_int Try.underlying52)
theorem opens29 : Opens Try.prog W 29 (Kd.slice 23 (Kd.slice 2 (Kd.int .i64))) (fun l => ∀ y ∈ l, ∀ z ∈ y, wfI .i64 z) := of_slice Try.underlying29 (by kernel_rfl) opens23
theorem fields_of {P : Program} {t : TypeId} {fs : Array Field} (ht : P.underlying t = some (.struct fs)) {H : Type} {enc : TypeId × Value → H} {fuel : Nat} {cs : List Value} {x : DataW H × List MemPlace} (hx : DataW.trod enc P W 0 (fun _ => true) true fuel t cs = some x) :
  cs.length = P.cellsOf t ∧ ∃ n, ∀ (i : Nat) (q : Field), fs[i]? = some q → ∃ x, DataW.trod enc P W 0 (fun _ => true) true n q.type ((cs.drop q.offset).take (P.cellsOf q.type)) = some x := by
 obtain ⟨xs, n, _, _, hl, hxl, hf⟩ := DataW.trod_struct ht hx
 refine ⟨hl, n, fun i q hi => ?_⟩
 have h1 := hf i q hi
 have hlt : i < xs.length := by rw [hxl]; exact (Array.getElem?_eq_some_iff.1 hi).1
 rw [List.getElem?_eq_getElem hlt] at h1
 exact ⟨_, h1⟩
theorem c22 : Try.prog.cellsOf 22 = 1 := by kernel_rfl
theorem c27 : Try.prog.cellsOf 27 = 1 := by kernel_rfl
theorem c29 : Try.prog.cellsOf 29 = 1 := by kernel_rfl
theorem c76 : Try.prog.cellsOf 76 = 7 := by kernel_rfl
set_option maxRecDepth 100000 in
theorem open_exec {H : Type} {enc : TypeId × Value → H} {fuel : Nat} {cs : List Value} {x : DataW H × List MemPlace} (h : DataW.trod enc Try.prog W 0 (fun _ => true) true fuel 76 cs = some x) :
  ∃ (l0 : List S26) (l1 l2 l3 l4 l5 : List Int) (l6 : List (List Int)) (A0 A1 A2 A3 A4 A5 A6 : Option Addr) (c0 c1 c2 c3 c4 c5 c6 : Nat),
   cs = [.slice A0 l0.length c0, .slice A1 l1.length c1, .slice A2 l2.length c2, .slice A3 l3.length c3, .slice A4 l4.length c4, .slice A5 l5.length c5, .slice A6 l6.length c6] ∧
   (Kd.C k26 W A0 l0.length l0 ∧ l0.length ≤ c0 ∧ ∀ z ∈ l0, wf26 z) ∧ (Kd.C (Kd.int .u32) W A1 l1.length l1 ∧ l1.length ≤ c1 ∧ ∀ z ∈ l1, wfI .u32 z) ∧ (Kd.C (Kd.int .u32) W A2 l2.length l2 ∧ l2.length ≤ c2 ∧ ∀ z ∈ l2, wfI .u32 z) ∧
   (Kd.C (Kd.int .u32) W A3 l3.length l3 ∧ l3.length ≤ c3 ∧ ∀ z ∈ l3, wfI .u32 z) ∧ (Kd.C (Kd.int .u32) W A4 l4.length l4 ∧ l4.length ≤ c4 ∧ ∀ z ∈ l4, wfI .u32 z) ∧ (Kd.C (Kd.int .u32) W A5 l5.length l5 ∧ l5.length ≤ c5 ∧ ∀ z ∈ l5, wfI .u32 z) ∧
   (Kd.C (Kd.slice 2 (Kd.int .i64)) W A6 l6.length l6 ∧ l6.length ≤ c6) := by
 obtain ⟨hl, n, hf⟩ := fields_of Try.underlying76 h
 replace hl := hl.trans c76
 match cs, hl with
 | [b0, b1, b2, b3, b4, b5, b6], _ =>
  obtain ⟨x0, t0⟩ := hf 0 ⟨"Events", 22, 0, false, "", "", 0⟩ rfl
  have s0 : ((([b0, b1, b2, b3, b4, b5, b6] : List Value).drop 0).take (Try.prog.cellsOf 22)) = [b0] := by rw [c22]; rfl
  replace t0 : DataW.trod enc Try.prog W 0 (fun _ => true) true n 22 [b0] = some x0 := s0 ▸ t0
  obtain ⟨x1, t1⟩ := hf 1 ⟨"Po", 27, 1, false, "", "", 24⟩ rfl
  have s1 : ((([b0, b1, b2, b3, b4, b5, b6] : List Value).drop 1).take (Try.prog.cellsOf 27)) = [b1] := by rw [c27]; rfl
  replace t1 : DataW.trod enc Try.prog W 0 (fun _ => true) true n 27 [b1] = some x1 := s1 ▸ t1
  obtain ⟨x2, t2⟩ := hf 2 ⟨"Addr", 27, 2, false, "", "", 48⟩ rfl
  have s2 : ((([b0, b1, b2, b3, b4, b5, b6] : List Value).drop 2).take (Try.prog.cellsOf 27)) = [b2] := by rw [c27]; rfl
  replace t2 : DataW.trod enc Try.prog W 0 (fun _ => true) true n 27 [b2] = some x2 := s2 ▸ t2
  obtain ⟨x3, t3⟩ := hf 3 ⟨"Data", 27, 3, false, "", "", 72⟩ rfl
  have s3 : ((([b0, b1, b2, b3, b4, b5, b6] : List Value).drop 3).take (Try.prog.cellsOf 27)) = [b3] := by rw [c27]; rfl
  replace t3 : DataW.trod enc Try.prog W 0 (fun _ => true) true n 27 [b3] = some x3 := s3 ▸ t3
  obtain ⟨x4, t4⟩ := hf 4 ⟨"Ctrl", 27, 4, false, "", "", 96⟩ rfl
  have s4 : ((([b0, b1, b2, b3, b4, b5, b6] : List Value).drop 4).take (Try.prog.cellsOf 27)) = [b4] := by rw [c27]; rfl
  replace t4 : DataW.trod enc Try.prog W 0 (fun _ => true) true n 27 [b4] = some x4 := s4 ▸ t4
  obtain ⟨x5, t5⟩ := hf 5 ⟨"Rmw", 27, 5, false, "", "", 120⟩ rfl
  have s5 : ((([b0, b1, b2, b3, b4, b5, b6] : List Value).drop 5).take (Try.prog.cellsOf 27)) = [b5] := by rw [c27]; rfl
  replace t5 : DataW.trod enc Try.prog W 0 (fun _ => true) true n 27 [b5] = some x5 := s5 ▸ t5
  obtain ⟨x6, t6⟩ := hf 6 ⟨"Regs", 29, 6, false, "", "", 144⟩ rfl
  have s6 : ((([b0, b1, b2, b3, b4, b5, b6] : List Value).drop 6).take (Try.prog.cellsOf 29)) = [b6] := by rw [c29]; rfl
  replace t6 : DataW.trod enc Try.prog W 0 (fun _ => true) true n 29 [b6] = some x6 := s6 ▸ t6
  obtain ⟨l0, ⟨A0, c0, e0, h0, C0⟩, w0⟩ := opens22 H enc n [b0] x0 t0
  obtain ⟨l1, ⟨A1, c1, e1, h1, C1⟩, w1⟩ := opens27 H enc n [b1] x1 t1
  obtain ⟨l2, ⟨A2, c2, e2, h2, C2⟩, w2⟩ := opens27 H enc n [b2] x2 t2
  obtain ⟨l3, ⟨A3, c3, e3, h3, C3⟩, w3⟩ := opens27 H enc n [b3] x3 t3
  obtain ⟨l4, ⟨A4, c4, e4, h4, C4⟩, w4⟩ := opens27 H enc n [b4] x4 t4
  obtain ⟨l5, ⟨A5, c5, e5, h5, C5⟩, w5⟩ := opens27 H enc n [b5] x5 t5
  obtain ⟨l6, ⟨A6, c6, e6, h6, C6⟩, w6⟩ := opens29 H enc n [b6] x6 t6
  obtain rfl := List.singleton_inj.1 e0
  obtain rfl := List.singleton_inj.1 e1
  obtain rfl := List.singleton_inj.1 e2
  obtain rfl := List.singleton_inj.1 e3
  obtain rfl := List.singleton_inj.1 e4
  obtain rfl := List.singleton_inj.1 e5
  obtain rfl := List.singleton_inj.1 e6
  exact ⟨l0, l1, l2, l3, l4, l5, l6, A0, A1, A2, A3, A4, A5, A6, c0, c1, c2, c3, c4, c5, c6, rfl, ⟨C0, h0, w0⟩, ⟨C1, h1, w1⟩, ⟨C2, h2, w2⟩, ⟨C3, h3, w3⟩, ⟨C4, h4, w4⟩, ⟨C5, h5, w5⟩, ⟨C6, h6⟩⟩
end Go.Proofs.Ytbamkkdikeedoaa.Opens
